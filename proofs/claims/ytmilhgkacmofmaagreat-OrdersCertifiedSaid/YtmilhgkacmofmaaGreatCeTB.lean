/- Several texts in one. (Printed by prep.py.) -/
import Derived.Test.YtmilhgkacmofmaaGreatCeS4
import Derived.Test.YtmilhgkacmofmaaGreatCeS5
import Derived.Test.YtmilhgkacmofmaaGreatCeVS
import Derived.Test.YtmilhgkacmofmaaGreatProg
import Derived.Test.YtmilhgkacmofmaaGreatCeSy14
import Derived.Test.YtmilhgkacmofmaaGreatCeS6
import Derived.Test.YtmilhgkacmofmaaGreatCeQ5
import Derived.Test.YtmilhgkacmofmaaGreatCeG2
namespace Go.Proofs.YtmilhgkacmofmaaGreat
open Num Plain
structure W4 where
 (re im : Q4)
theorem W4.ext' {x y : W4} (h1 : x.re = y.re) (h2 : x.im = y.im) : x = y:=by cases x; cases y; simp_all
instance : DecidableEq Q4:=fun x y=>decidable_of_iff (x.a = y.a∧x.b = y.b∧x.c = y.c∧x.d = y.d)
 ⟨fun ⟨h1,h2,h3,h4⟩=>Q4.ext' h1 h2 h3 h4,fun h=>by rw [h]; exact ⟨rfl,rfl,rfl,rfl⟩⟩
instance : DecidableEq W4:=fun x y=>decidable_of_iff (x.re = y.re∧x.im = y.im)
 ⟨fun ⟨h1,h2⟩=>W4.ext' h1 h2,fun h=>by rw [h]; exact ⟨rfl,rfl⟩⟩
def W4.add (x y : W4) : W4:=⟨x.re.add y.re,x.im.add y.im⟩
def W4.sub (x y : W4) : W4:=⟨x.re.sub y.re,x.im.sub y.im⟩
def W4.mul (x y : W4) : W4:=⟨(x.re.mul y.re).sub (x.im.mul y.im),(x.re.mul y.im).add (x.im.mul y.re)⟩
def W4.neg (x : W4) : W4:=⟨x.re.neg,x.im.neg⟩
def W4.conj (x : W4) : W4:=⟨x.re,x.im.neg⟩
def W4.norm (x : W4) : Q4:=(x.re.mul x.re).add (x.im.mul x.im)
def W4.zero : W4:=⟨Q4.zero,Q4.zero⟩
def W4.real (q : Rat) : W4:=⟨Q4.real q,Q4.zero⟩
theorem Q4.sub_zero_iff {x y : Q4} : x.sub y = Q4.zero↔x = y:=by
 constructor
 ·intro h
  have ha:=congrArg Q4.a h
  have hb:=congrArg Q4.b h
  have hc:=congrArg Q4.c h
  have hd:=congrArg Q4.d h
  simp only [Q4.sub,Q4.add,Q4.neg,Q4.zero] at ha hb hc hd
  exact Q4.ext' (by grind) (by grind) (by grind) (by grind)
 ·intro h
  subst h
  simp only [Q4.sub,Q4.add,Q4.neg,Q4.zero]
  exact Q4.ext' (by grind) (by grind) (by grind) (by grind)
def cosB : Nat→Q4
 | 0=>⟨1,0,0,0⟩
 | 1=>⟨0,1 / 4,0,1 / 4⟩
 | 2=>⟨0,0,1 / 2,0⟩
 | 3=>⟨0,1 / 2,0,0⟩
 | 4=>⟨1 / 2,0,0,0⟩
 | 5=>⟨0,-1 / 4,0,1 / 4⟩
 | _=>⟨0,0,0,0⟩
def cosM (m : Nat) : Q4:=if 6 < m then (cosB (12 - m)).neg else cosB m
def cosQ (n : Nat) : Q4:=if 12 < n then cosM (24 - n) else cosM n
def turnW (n : Nat) : W4:=⟨cosQ n,cosQ ((n+18) % 24)⟩
def plc (k : Int) : Nat:=(k % 24).toNat
theorem plc_lt (k : Int) : plc k < 24:=by unfold plc; omega
def sumP (k : Nat) : Nat→W4
 | 0=>W4.zero
 | j+1=>(sumP k j).add (turnW (j*k % 24))
def q4s (q : Rat) : Bool:=(4*q).den == 1 && decide ((4*q).num.natAbs≤1000)
def Q4.small (v : Q4) : Bool:=q4s v.a && q4s v.b && q4s v.c && q4s v.d
def W4.small (v : W4) : Bool:=v.re.small && v.im.small
end Go.Proofs.YtmilhgkacmofmaaGreat

namespace Go.Proofs.YtmilhgkacmofmaaGreat
open Num Plain
def Q4.t1 (y : Q4) : Q4:=⟨y.a,-y.b,y.c,-y.d⟩
def Q4.t2 (y : Q4) : Q4:=⟨y.a,y.b,-y.c,-y.d⟩
def Q4.cnj (y : Q4) : Q4:=(y.t1.mul y.t2).mul y.t1.t2
def Q4.div (x y : Q4) : Q4:=⟨(x.mul y.cnj).a / (y.mul y.cnj).a,(x.mul y.cnj).b / (y.mul y.cnj).a,(x.mul y.cnj).c / (y.mul y.cnj).a,(x.mul y.cnj).d / (y.mul y.cnj).a⟩
theorem Q4.cnj_norm (y : Q4) : (y.mul y.cnj).b = 0∧(y.mul y.cnj).c = 0∧(y.mul y.cnj).d = 0:=by
 obtain ⟨a,b,c,d⟩:=y
 simp only [Q4.cnj,Q4.mul,Q4.t1,Q4.t2]
 refine ⟨?_,?_,?_⟩ <;> grind
theorem Q4.t1_ne {y : Q4} (h : y ≠ Q4.zero) : y.t1 ≠ Q4.zero:=fun e=>h (by
 have ha:=congrArg Q4.a e
 have hb:=congrArg Q4.b e
 have hc:=congrArg Q4.c e
 have hd:=congrArg Q4.d e
 simp only [Q4.t1,Q4.zero] at ha hb hc hd
 exact Q4.ext' ha (by show y.b = 0; grind) hc (by show y.d = 0; grind))
theorem Q4.t2_ne {y : Q4} (h : y ≠ Q4.zero) : y.t2 ≠ Q4.zero:=fun e=>h (by
 have ha:=congrArg Q4.a e
 have hb:=congrArg Q4.b e
 have hc:=congrArg Q4.c e
 have hd:=congrArg Q4.d e
 simp only [Q4.t2,Q4.zero] at ha hb hc hd
 exact Q4.ext' ha hb (by show y.c = 0; grind) (by show y.d = 0; grind))
theorem Q4.norm_ne {y : Q4} (h : y ≠ Q4.zero) : (y.mul y.cnj).a ≠ 0:=by
 intro ha
 obtain ⟨hb,hc,hd⟩:=Q4.cnj_norm y
 have e : y.mul y.cnj = Q4.zero:=Q4.ext' ha hb hc hd
 have e2 : y.toQ*((y.t1.toQ*y.t2.toQ)*y.t1.t2.toQ) = 0:=by
  rw [← toQ_mul,← toQ_mul,← toQ_mul]
  exact (congrArg Q4.toQ e).trans toQ_zero
 exact C.mul_ne (e4_ne.2 h) (C.mul_ne (C.mul_ne (e4_ne.2 (Q4.t1_ne h)) (e4_ne.2 (Q4.t2_ne h))) (e4_ne.2 (Q4.t2_ne (Q4.t1_ne h)))) e2
theorem Q4.zero_iff (v : Q4) : decide (v = Q4.zero) = (decide (v.a = 0) && decide (v.b = 0) && decide (v.c = 0) && decide (v.d = 0)):=by
 rw [Bool.eq_iff_iff]
 simp only [Bool.and_eq_true,decide_eq_true_iff]
 constructor
 ·intro h; subst h; exact ⟨⟨⟨rfl,rfl⟩,rfl⟩,rfl⟩
 ·intro ⟨⟨⟨h1,h2⟩,h3⟩,h4⟩; exact Q4.ext' h1 h2 h3 h4
def W4.div (x y : W4) : W4:=⟨(x.mul y.conj).re.div y.norm,(x.mul y.conj).im.div y.norm⟩
theorem W4.zero_iff (v : W4) : decide (v = W4.zero) = (decide (v.re = Q4.zero) && decide (v.im = Q4.zero)):=by
 rw [Bool.eq_iff_iff]
 simp only [Bool.and_eq_true,decide_eq_true_iff]
 constructor
 ·intro h; subst h; exact ⟨rfl,rfl⟩
 ·intro ⟨h1,h2⟩; exact W4.ext' h1 h2
theorem W4.same_iff (v w : W4) : decide (v = w) = (decide (v.re = w.re) && decide (v.im = w.im)):=by
 rw [Bool.eq_iff_iff]
 simp only [Bool.and_eq_true,decide_eq_true_iff]
 constructor
 ·intro h; subst h; exact ⟨rfl,rfl⟩
 ·intro ⟨h1,h2⟩; exact W4.ext' h1 h2
theorem W4.sub_zero_iff {x y : W4} : x.sub y = W4.zero↔x = y:=by
 constructor
 ·intro h
  exact W4.ext' (Q4.sub_zero_iff.1 (congrArg W4.re h)) (Q4.sub_zero_iff.1 (congrArg W4.im h))
 ·intro h
  subst h
  exact W4.ext' (Q4.sub_zero_iff.2 rfl) (Q4.sub_zero_iff.2 rfl)
end Go.Proofs.YtmilhgkacmofmaaGreat

namespace Go.Proofs.YtmilhgkacmofmaaGreat
open Go.RowKit
open Value (agg slice int bool tuple)
open Sy (Up Sees CallsG Seg execFn_use)
set_option maxRecDepth 100000
variable {k : World} {R : World→Value→Prop}
theorem wAdd_vc {cs0 cs1 cs2 cs3 : Array Value} (hcs0 : Seg 9 cs0) (hcs1 : Seg 9 cs1) (hcs2 : Seg 9 cs2) (hcs3 : Seg 9 cs3)
 (h : Cl k 87 #[agg cs0,agg cs2] fun k1 r0=>Gt 9 r0 fun cs4 =>
 Cl k1 87 #[agg cs1,agg cs3] fun k3 r2=>Gt 9 r2 fun cs5 =>
 ∀ k4,Up k3 k4→R k4 (agg (cs4.toList ++ (cs5.toList ++ ([]))).toArray)) :
  CallsG Tryz.prog 52 #[agg (cs0.toList ++ (cs1.toList ++ ([]))).toArray,agg (cs2.toList ++ (cs3.toList ++ ([]))).toArray] k R :=
  execFn_use (cfg:={ opq:=[35] }) (args:=[.agg [.seg 0 9,.seg 1 9],.agg [.seg 2 9,.seg 3 9]]) (vals:=[agg cs0,agg cs1,agg cs2,agg cs3]) (kinds:=[.seg 9,.seg 9,.seg 9,.seg 9]) (by kernel_rfl) ⟨⟨cs0,rfl,hcs0⟩,⟨⟨cs1,rfl,hcs1⟩,⟨⟨cs2,rfl,hcs2⟩,⟨⟨cs3,rfl,hcs3⟩,trivial⟩⟩⟩⟩ (by kernel_rfl) (by kernel_rfl) h
theorem wMul_vc {cs0 cs1 cs2 cs3 : Array Value} (hcs0 : Seg 9 cs0) (hcs1 : Seg 9 cs1) (hcs2 : Seg 9 cs2) (hcs3 : Seg 9 cs3)
 (h : Cl k 86 #[agg cs0,agg cs2] fun k1 r0=>Gt 9 r0 fun cs4 =>
 Cl k1 86 #[agg cs1,agg cs3] fun k3 r2=>Gt 9 r2 fun cs5 =>
 Cl k3 67 #[agg cs4,agg cs5] fun k5 r4=>Gt 9 r4 fun cs6 =>
 Cl k5 86 #[agg cs0,agg cs3] fun k7 r6=>Gt 9 r6 fun cs7 =>
 Cl k7 86 #[agg cs1,agg cs2] fun k9 r8=>Gt 9 r8 fun cs8 =>
 Cl k9 87 #[agg cs7,agg cs8] fun k11 r10=>Gt 9 r10 fun cs9 =>
 ∀ k12,Up k11 k12→R k12 (agg (cs6.toList ++ (cs9.toList ++ ([]))).toArray)) :
  CallsG Tryz.prog 69 #[agg (cs0.toList ++ (cs1.toList ++ ([]))).toArray,agg (cs2.toList ++ (cs3.toList ++ ([]))).toArray] k R :=
  execFn_use (cfg:={ opq:=[35] }) (args:=[.agg [.seg 0 9,.seg 1 9],.agg [.seg 2 9,.seg 3 9]]) (vals:=[agg cs0,agg cs1,agg cs2,agg cs3]) (kinds:=[.seg 9,.seg 9,.seg 9,.seg 9]) (by kernel_rfl) ⟨⟨cs0,rfl,hcs0⟩,⟨⟨cs1,rfl,hcs1⟩,⟨⟨cs2,rfl,hcs2⟩,⟨⟨cs3,rfl,hcs3⟩,trivial⟩⟩⟩⟩ (by kernel_rfl) (by kernel_rfl) h
theorem wConj_vc {cs0 cs1 : Array Value} (hcs0 : Seg 9 cs0) (hcs1 : Seg 9 cs1)
 (h : Cl k 109 #[agg cs1] fun k1 r0=>Gt 9 r0 fun cs2 =>
 ∀ k2,Up k1 k2→R k2 (agg (cs0.toList ++ (cs2.toList ++ ([]))).toArray)) :
  CallsG Tryz.prog 68 #[agg (cs0.toList ++ (cs1.toList ++ ([]))).toArray] k R :=
  execFn_use (cfg:={ opq:=[35] }) (args:=[.agg [.seg 0 9,.seg 1 9]]) (vals:=[agg cs0,agg cs1]) (kinds:=[.seg 9,.seg 9]) (by kernel_rfl) ⟨⟨cs0,rfl,hcs0⟩,⟨⟨cs1,rfl,hcs1⟩,trivial⟩⟩ (by kernel_rfl) (by kernel_rfl) h
theorem wSame_vc {cs0 cs1 cs2 cs3 : Array Value} (hcs0 : Seg 9 cs0) (hcs1 : Seg 9 cs1) (hcs2 : Seg 9 cs2) (hcs3 : Seg 9 cs3)
 (h : Cl k 33 #[agg cs0,agg cs2] fun k1 r0=>∃ b4,some (bool b4) = some r0 ∧
 (b4 = true →
 (Cl k1 33 #[agg cs1,agg cs3] fun k3 r2=>∃ b5,some (bool b5) = some r2 ∧
 ∀ k4,Up k3 k4→R k4 (bool b5))) ∧
 (b4 = false →
 (∀ k5,Up k1 k5→R k5 (bool false)))) :
   CallsG Tryz.prog 25 #[agg (cs0.toList ++ (cs1.toList ++ ([]))).toArray,agg (cs2.toList ++ (cs3.toList ++ ([]))).toArray] k R :=
  execFn_use (cfg:={ opq:=[35] }) (args:=[.agg [.seg 0 9,.seg 1 9],.agg [.seg 2 9,.seg 3 9]]) (vals:=[agg cs0,agg cs1,agg cs2,agg cs3]) (kinds:=[.seg 9,.seg 9,.seg 9,.seg 9]) (by kernel_rfl) ⟨⟨cs0,rfl,hcs0⟩,⟨⟨cs1,rfl,hcs1⟩,⟨⟨cs2,rfl,hcs2⟩,⟨⟨cs3,rfl,hcs3⟩,trivial⟩⟩⟩⟩ (by kernel_rfl) (by kernel_rfl) h
theorem wNorm_vc {cs0 cs1 : Array Value} (hcs0 : Seg 9 cs0) (hcs1 : Seg 9 cs1)
 (h : Cl k 86 #[agg cs0,agg cs0] fun k1 r0=>Gt 9 r0 fun cs2 =>
 Cl k1 86 #[agg cs1,agg cs1] fun k3 r2=>Gt 9 r2 fun cs3 =>
 Cl k3 87 #[agg cs2,agg cs3] fun k5 r4=>Gt 9 r4 fun cs4 =>
 ∀ k6,Up k5 k6→R k6 (agg cs4)) :
  CallsG Tryz.prog 89 #[agg (cs0.toList ++ (cs1.toList ++ ([]))).toArray] k R :=
  execFn_use (cfg:={ opq:=[35] }) (args:=[.agg [.seg 0 9,.seg 1 9]]) (vals:=[agg cs0,agg cs1]) (kinds:=[.seg 9,.seg 9]) (by kernel_rfl) ⟨⟨cs0,rfl,hcs0⟩,⟨⟨cs1,rfl,hcs1⟩,trivial⟩⟩ (by kernel_rfl) (by kernel_rfl) h
theorem wRe_vc {cs0 cs1 : Array Value} (hcs0 : Seg 9 cs0) (hcs1 : Seg 9 cs1)
 (h : ∀ k0,Up k k0→R k0 (agg cs0)) :
 CallsG Tryz.prog 50 #[agg (cs0.toList ++ (cs1.toList ++ ([]))).toArray] k R :=
 execFn_use (cfg:={ opq:=[35] }) (args:=[.agg [.seg 0 9,.seg 1 9]]) (vals:=[agg cs0,agg cs1]) (kinds:=[.seg 9,.seg 9]) (by kernel_rfl) ⟨⟨cs0,rfl,hcs0⟩,⟨⟨cs1,rfl,hcs1⟩,trivial⟩⟩ (by kernel_rfl) (by kernel_rfl) h
theorem wIm_vc {cs0 cs1 : Array Value} (hcs0 : Seg 9 cs0) (hcs1 : Seg 9 cs1)
 (h : ∀ k0,Up k k0→R k0 (agg cs1)) :
 CallsG Tryz.prog 100 #[agg (cs0.toList ++ (cs1.toList ++ ([]))).toArray] k R :=
 execFn_use (cfg:={ opq:=[35] }) (args:=[.agg [.seg 0 9,.seg 1 9]]) (vals:=[agg cs0,agg cs1]) (kinds:=[.seg 9,.seg 9]) (by kernel_rfl) ⟨⟨cs0,rfl,hcs0⟩,⟨⟨cs1,rfl,hcs1⟩,trivial⟩⟩ (by kernel_rfl) (by kernel_rfl) h
theorem pair_vc {cs0 cs1 : Array Value} (hcs0 : Seg 9 cs0) (hcs1 : Seg 9 cs1)
 (h : ∀ k0,Up k k0→R k0 (agg (cs0.toList ++ (cs1.toList ++ ([]))).toArray)) :
 CallsG Tryz.prog 16 #[agg cs0,agg cs1] k R :=
 execFn_use (cfg:={ opq:=[35] }) (args:=[.agg [.seg 0 9],.agg [.seg 1 9]]) (vals:=[agg cs0,agg cs1]) (kinds:=[.seg 9,.seg 9]) (by kernel_rfl) ⟨⟨cs0,rfl,hcs0⟩,⟨⟨cs1,rfl,hcs1⟩,trivial⟩⟩ (by kernel_rfl) (by kernel_rfl) h
end Go.Proofs.YtmilhgkacmofmaaGreat

namespace Go.Proofs.YtmilhgkacmofmaaGreat
open Go.RowKit Num Plain
open Sy (Up Sees CallsG Seg)
def cat2 (c0 c1 : Array Value) : Array Value:=(c0.toList ++ (c1.toList ++ ([]))).toArray
theorem seg_cat2 {m n : Nat} {c0 c1 : Array Value} (h0 : Seg m c0) (h1 : Seg n c1) : Seg (m+n) (cat2 c0 c1):=by
 obtain ⟨a0,b0⟩:=h0
 obtain ⟨a1,b1⟩:=h1
 refine ⟨by simp [cat2,a0,a1],fun u hu=>?_⟩
 simp only [cat2,List.append_nil,List.mem_append] at hu
 rcases hu with hu | hu
 ·exact b0 u hu
 ·exact b1 u hu
def WaveV (k : World) (cs : Array Value) (w : W4) (K : Nat) : Prop:=∃ c0 c1 : Array Value,cs = cat2 c0 c1∧SurdV k c0 w.re K∧SurdV k c1 w.im K
section
variable {k k' : World} {cs cs' c0 c1 : Array Value} {R : World→Value→Prop} {v v' : Q4} {x y : W4} {K L : Nat}
theorem WaveV.up (h : WaveV k cs x K) (u : Up k k') : WaveV k' cs x K:=by
 obtain ⟨c0,c1,e,h0,h1⟩:=h
 exact ⟨c0,c1,e,h0.up u,h1.up u⟩
theorem WaveV.mono (h : WaveV k cs x K) (hL : K≤L) : WaveV k cs x L:=by
 obtain ⟨c0,c1,e,h0,h1⟩:=h
 exact ⟨c0,c1,e,h0.mono hL,h1.mono hL⟩
theorem WaveV.seg (h : WaveV k cs x K) : Seg 18 cs:=by
 obtain ⟨c0,c1,rfl,h0,h1⟩:=h
 exact seg_cat2 h0.seg h1.seg
theorem SZero_d (hx : SurdV k cs v K) (hK : K≤268435456) (C : ∀ k',Up k k'→R k' (.bool (decide (v = Q4.zero)))) :
 Cl k 32 #[.agg cs] R :=
 SZero_s hx hK fun k' u b hb=>by
  have e : b = decide (v = Q4.zero):=by rw [Bool.eq_iff_iff,hb,decide_eq_true_iff]
  rw [e]; exact C k' u
theorem SSame_d (hx : SurdV k cs v K) (hy : SurdV k cs' v' K) (hK1 : 1≤K) (hK : K≤134217727) (C : ∀ k',Up k k'→R k' (.bool (decide (v = v')))) :
 Cl k 33 #[.agg cs,.agg cs'] R :=
 SSame_s hx hy hK1 hK fun k' u b hb=>by
  have e : b = decide (v = v'):=by rw [Bool.eq_iff_iff,hb,decide_eq_true_iff,Q4.sub_zero_iff]
  rw [e]; exact C k' u
theorem WAdd_s (hx : WaveV k cs x K) (hy : WaveV k cs' y K) (hK1 : 1≤K) (hK : K≤134217727) (C : ∀ k' ds,Up k k'→WaveV k' ds (x.add y) (2*K+1)→R k' (.agg ds)) :
 Cl k 52 #[.agg cs,.agg cs'] R:=by
 intro k0 u0
 obtain ⟨a,b,rfl,a0,b0⟩:=hx.up u0
 obtain ⟨c,d,rfl,c0,d0⟩:=hy.up u0
 refine wAdd_vc a0.seg b0.seg c0.seg d0.seg ?_
 refine SAdd_s a0 c0 hK1 (by omega) fun k1 e1 u1 h1=>⟨e1,h1.seg,rfl,?_⟩
 refine SAdd_s (b0.up u1) (d0.up u1) hK1 (by omega) fun k3 e3 u3 h3=>⟨e3,h3.seg,rfl,fun k4 u4=>?_⟩
 exact C k4 _ (((u0.trans u1).trans u3).trans u4) ⟨e1,e3,rfl,(h1.up u3).up u4,h3.up u4⟩
theorem WMul_s (hx : WaveV k cs x K) (hy : WaveV k cs' y K) (hK1 : 1≤K) (hK : K≤33554431) (C : ∀ k' ds,Up k k'→WaveV k' ds (x.mul y) (4*K+9)→R k' (.agg ds)) :
 Cl k 69 #[.agg cs,.agg cs'] R:=by
 intro k0 u0
 obtain ⟨a,b,rfl,a0,b0⟩:=hx.up u0
 obtain ⟨c,d,rfl,c0,d0⟩:=hy.up u0
 refine wMul_vc a0.seg b0.seg c0.seg d0.seg ?_
 refine SMul_s a0 c0 hK1 (by omega) fun k1 e1 u1 h1=>⟨e1,h1.seg,rfl,?_⟩
 refine SMul_s (b0.up u1) (d0.up u1) hK1 (by omega) fun k2 e2 u2 h2=>⟨e2,h2.seg,rfl,?_⟩
 refine SSub_s (h1.up u2) h2 (by omega) (by omega) fun k3 e3 u3 h3=>⟨e3,h3.seg,rfl,?_⟩
 have u123:=(u1.trans u2).trans u3
 refine SMul_s (a0.up u123) (d0.up u123) hK1 (by omega) fun k4 e4 u4 h4=>⟨e4,h4.seg,rfl,?_⟩
 refine SMul_s (b0.up (u123.trans u4)) (c0.up (u123.trans u4)) hK1 (by omega) fun k5 e5 u5 h5=>⟨e5,h5.seg,rfl,?_⟩
 refine SAdd_s (h4.up u5) h5 (by omega) (by omega) fun k6 e6 u6 h6=>⟨e6,h6.seg,rfl,fun k7 u7=>?_⟩
 exact C k7 _ (((((u0.trans u123).trans u4).trans u5).trans u6).trans u7) ⟨e3,e6,rfl,((((h3.up u4).up u5).up u6).up u7).mono (by omega),(h6.up u7).mono (by omega)⟩
theorem WConj_s (hx : WaveV k cs x K) (hK : K≤268435456) (C : ∀ k' ds,Up k k'→WaveV k' ds x.conj K→R k' (.agg ds)) :
 Cl k 68 #[.agg cs] R:=by
 intro k0 u0
 obtain ⟨a,b,rfl,a0,b0⟩:=hx.up u0
 refine wConj_vc a0.seg b0.seg ?_
 refine SNeg_s b0 hK fun k2 e2 u2 h2=>⟨e2,h2.seg,rfl,fun k4 u4=>?_⟩
 exact C k4 _ ((u0.trans u2).trans u4) ⟨a,e2,rfl,(a0.up u2).up u4,h2.up u4⟩
theorem WSame_s (hx : WaveV k cs x K) (hy : WaveV k cs' y K) (hK1 : 1≤K) (hK : K≤134217727) (C : ∀ k',Up k k'→R k' (.bool (decide (x = y)))) :
 Cl k 25 #[.agg cs,.agg cs'] R:=by
 intro k0 u0
 obtain ⟨a,b,rfl,a0,b0⟩:=hx.up u0
 obtain ⟨c,d,rfl,c0,d0⟩:=hy.up u0
 rw [W4.same_iff] at C
 refine wSame_vc a0.seg b0.seg c0.seg d0.seg (SSame_d a0 c0 hK1 hK fun k1 u1=>⟨_,rfl,fun h=>?_,fun h k5 u5=>?_⟩)
 ·rw [h] at C
  exact SSame_d (b0.up u1) (d0.up u1) hK1 hK fun k2 u2=>⟨_,rfl,fun k3 u3=>C k3 (((u0.trans u1).trans u2).trans u3)⟩
 ·rw [h] at C
  exact C k5 ((u0.trans u1).trans u5)
theorem WNorm_s (hx : WaveV k cs x K) (hK1 : 1≤K) (hK : K≤33554431) (C : ∀ k' ds,Up k k'→SurdV k' ds x.norm (4*K+9)→R k' (.agg ds)) :
 Cl k 89 #[.agg cs] R:=by
 intro k0 u0
 obtain ⟨a,b,rfl,a0,b0⟩:=hx.up u0
 refine wNorm_vc a0.seg b0.seg ?_
 refine SMul_s a0 a0 hK1 (by omega) fun k1 e1 u1 h1=>⟨e1,h1.seg,rfl,?_⟩
 refine SMul_s (b0.up u1) (b0.up u1) hK1 (by omega) fun k2 e2 u2 h2=>⟨e2,h2.seg,rfl,?_⟩
 refine SAdd_s (h1.up u2) h2 (by omega) (by omega) fun k3 e3 u3 h3=>⟨e3,h3.seg,rfl,fun k4 u4=>?_⟩
 exact C k4 _ ((((u0.trans u1).trans u2).trans u3).trans u4) ((h3.up u4).mono (by omega))
theorem WRe_s (hx : WaveV k cs x K) (C : ∀ k' ds,Up k k'→SurdV k' ds x.re K→R k' (.agg ds)) :
 Cl k 50 #[.agg cs] R:=by
 intro k0 u0
 obtain ⟨a,b,rfl,a0,b0⟩:=hx.up u0
 exact wRe_vc a0.seg b0.seg fun k1 u1=>C k1 _ (u0.trans u1) (a0.up u1)
theorem WIm_s (hx : WaveV k cs x K) (C : ∀ k' ds,Up k k'→SurdV k' ds x.im K→R k' (.agg ds)) :
 Cl k 100 #[.agg cs] R:=by
 intro k0 u0
 obtain ⟨a,b,rfl,a0,b0⟩:=hx.up u0
 exact wIm_vc a0.seg b0.seg fun k1 u1=>C k1 _ (u0.trans u1) (b0.up u1)
theorem pair_s (hx : SurdV k cs v K) (hy : SurdV k cs' v' K) (C : ∀ k' ds,Up k k'→WaveV k' ds ⟨v,v'⟩ K→R k' (.agg ds)) :
 Cl k 16 #[.agg cs,.agg cs'] R :=
 fun _ u0=>pair_vc hx.seg hy.seg fun k1 u1=>C k1 _ (u0.trans u1) ⟨cs,cs',rfl,(hx.up u0).up u1,(hy.up u0).up u1⟩
end
end Go.Proofs.YtmilhgkacmofmaaGreat

namespace Go.Proofs.YtmilhgkacmofmaaGreat
open Go.RowKit
open Value (agg slice int bool tuple)
open Sy (Up Sees CallsG Seg execFn_use)
set_option maxRecDepth 100000
variable {k : World} {R : World→Value→Prop}
theorem place_vc {n0 : Int}
 (h : ∀ k0,Up k k0→R k0 (int .i64 (Int.tmod (IntKind.wrap .i64 ((Int.tmod n0 24)+24)) 24))) :
 CallsG Tryz.prog 70 #[int .i64 n0] k R :=
 execFn_use (cfg:={ opq:=[] }) (args:=[.one (.var 0)]) (vals:=[int .i64 n0]) (kinds:=[.int .i64]) (by kernel_rfl) ⟨⟨_,rfl⟩,trivial⟩ (by kernel_rfl) (by kernel_rfl) h
theorem xTurn_vc {n0 : Int}
 (h : Cl k 70 #[int .i64 n0] fun k1 r0=>∃ n1,some (int .i64 n1) = some r0 ∧
 Cl k1 71 #[int .i64 n1] fun k3 r2=>Gt 9 r2 fun cs2 =>
 Cl k3 70 #[int .i64 (IntKind.wrap .i64 (n1 - 6))] fun k5 r4=>∃ n3,some (int .i64 n3) = some r4 ∧
 Cl k5 71 #[int .i64 n3] fun k7 r6=>Gt 9 r6 fun cs4 =>
 ∀ k8,Up k7 k8→R k8 (agg (cs2.toList ++ (cs4.toList ++ ([]))).toArray)) :
  CallsG Tryz.prog 30 #[int .i64 n0] k R :=
  execFn_use (cfg:={ opq:=[35] }) (args:=[.one (.var 0)]) (vals:=[int .i64 n0]) (kinds:=[.int .i64]) (by kernel_rfl) ⟨⟨_,rfl⟩,trivial⟩ (by kernel_rfl) (by kernel_rfl) h
theorem xcos_vc {n0 : Int}
 (h : ((decide ((n0 : Int) > 12)) = true →
 (((decide (((IntKind.wrap .i64 (24 - n0)) : Int) > 6)) = true →
 (Cl k 71 #[int .i64 (IntKind.wrap .i64 (12 - (IntKind.wrap .i64 (24 - n0))))] fun k1 r0=>Gt 9 r0 fun cs1 =>
 Cl k1 109 #[agg cs1] fun k3 r2=>Gt 9 r2 fun cs2 =>
 ∀ k4,Up k3 k4→R k4 (agg cs2))) ∧
 ((decide (((IntKind.wrap .i64 (24 - n0)) : Int) > 6)) = false →
 (((((IntKind.wrap .i64 (24 - n0)) : Int) == 0) = true →
 (Cl k 72 #[int .i64 1] fun k6 r5=>Gt 2 r5 fun cs1 =>
 ∀ k7,Up k6 k7→R k7 (agg (cs1.toList ++ ((bool false) :: ((slice none 0 0) :: ((bool false) :: ((slice none 0 0) :: ((bool false) :: ((slice none 0 0) :: ((slice none 0 0) :: ([]))))))))).toArray))) ∧
 ((((IntKind.wrap .i64 (24 - n0)) : Int) == 0) = false →
 (((((IntKind.wrap .i64 (24 - n0)) : Int) == 1) = true →
 (Cl k 110 #[int .i64 1,int .u64 4] fun k9 r8=>Gt 9 r8 fun cs1 =>
 Cl k9 110 #[int .i64 3,int .u64 4] fun k11 r10=>Gt 9 r10 fun cs2 =>
 Cl k11 87 #[agg cs1,agg cs2] fun k13 r12=>Gt 9 r12 fun cs3 =>
 ∀ k14,Up k13 k14→R k14 (agg cs3))) ∧
 ((((IntKind.wrap .i64 (24 - n0)) : Int) == 1) = false →
 (((((IntKind.wrap .i64 (24 - n0)) : Int) == 2) = true →
 (Cl k 110 #[int .i64 2,int .u64 2] fun k16 r15=>Gt 9 r15 fun cs1 =>
 ∀ k17,Up k16 k17→R k17 (agg cs1))) ∧
 ((((IntKind.wrap .i64 (24 - n0)) : Int) == 2) = false →
 (((((IntKind.wrap .i64 (24 - n0)) : Int) == 3) = true →
 (Cl k 110 #[int .i64 1,int .u64 2] fun k19 r18=>Gt 9 r18 fun cs1 =>
 ∀ k20,Up k19 k20→R k20 (agg cs1))) ∧
 ((((IntKind.wrap .i64 (24 - n0)) : Int) == 3) = false →
 (((((IntKind.wrap .i64 (24 - n0)) : Int) == 4) = true →
 (Cl k 110 #[int .i64 0,int .u64 2] fun k22 r21=>Gt 9 r21 fun cs1 =>
 ∀ k23,Up k22 k23→R k23 (agg cs1))) ∧
 ((((IntKind.wrap .i64 (24 - n0)) : Int) == 4) = false →
 (((((IntKind.wrap .i64 (24 - n0)) : Int) == 5) = true →
 (Cl k 110 #[int .i64 3,int .u64 4] fun k25 r24=>Gt 9 r24 fun cs1 =>
 Cl k25 110 #[int .i64 1,int .u64 4] fun k27 r26=>Gt 9 r26 fun cs2 =>
 Cl k27 67 #[agg cs1,agg cs2] fun k29 r28=>Gt 9 r28 fun cs3 =>
 ∀ k30,Up k29 k30→R k30 (agg cs3))) ∧
 ((((IntKind.wrap .i64 (24 - n0)) : Int) == 5) = false →
 (∀ k31,Up k k31→R k31 (agg #[bool false,slice none 0 0,bool false,slice none 0 0,bool false,slice none 0 0,bool false,slice none 0 0,slice none 0 0]))))))))))))))))) ∧
 ((decide ((n0 : Int) > 12)) = false →
 (((decide ((n0 : Int) > 6)) = true →
 (Cl k 71 #[int .i64 (IntKind.wrap .i64 (12 - n0))] fun k33 r32=>Gt 9 r32 fun cs1 =>
 Cl k33 109 #[agg cs1] fun k35 r34=>Gt 9 r34 fun cs2 =>
 ∀ k36,Up k35 k36→R k36 (agg cs2))) ∧
 ((decide ((n0 : Int) > 6)) = false →
 ((((n0 : Int) == 0) = true →
 (Cl k 72 #[int .i64 1] fun k38 r37=>Gt 2 r37 fun cs1 =>
 ∀ k39,Up k38 k39→R k39 (agg (cs1.toList ++ ((bool false) :: ((slice none 0 0) :: ((bool false) :: ((slice none 0 0) :: ((bool false) :: ((slice none 0 0) :: ((slice none 0 0) :: ([]))))))))).toArray))) ∧
 (((n0 : Int) == 0) = false →
 ((((n0 : Int) == 1) = true →
 (Cl k 110 #[int .i64 1,int .u64 4] fun k41 r40=>Gt 9 r40 fun cs1 =>
 Cl k41 110 #[int .i64 3,int .u64 4] fun k43 r42=>Gt 9 r42 fun cs2 =>
 Cl k43 87 #[agg cs1,agg cs2] fun k45 r44=>Gt 9 r44 fun cs3 =>
 ∀ k46,Up k45 k46→R k46 (agg cs3))) ∧
 (((n0 : Int) == 1) = false →
 ((((n0 : Int) == 2) = true →
 (Cl k 110 #[int .i64 2,int .u64 2] fun k48 r47=>Gt 9 r47 fun cs1 =>
 ∀ k49,Up k48 k49→R k49 (agg cs1))) ∧
 (((n0 : Int) == 2) = false →
 ((((n0 : Int) == 3) = true →
 (Cl k 110 #[int .i64 1,int .u64 2] fun k51 r50=>Gt 9 r50 fun cs1 =>
 ∀ k52,Up k51 k52→R k52 (agg cs1))) ∧
 (((n0 : Int) == 3) = false →
 ((((n0 : Int) == 4) = true →
 (Cl k 110 #[int .i64 0,int .u64 2] fun k54 r53=>Gt 9 r53 fun cs1 =>
 ∀ k55,Up k54 k55→R k55 (agg cs1))) ∧
 (((n0 : Int) == 4) = false →
 ((((n0 : Int) == 5) = true →
 (Cl k 110 #[int .i64 3,int .u64 4] fun k57 r56=>Gt 9 r56 fun cs1 =>
 Cl k57 110 #[int .i64 1,int .u64 4] fun k59 r58=>Gt 9 r58 fun cs2 =>
 Cl k59 67 #[agg cs1,agg cs2] fun k61 r60=>Gt 9 r60 fun cs3 =>
 ∀ k62,Up k61 k62→R k62 (agg cs3))) ∧
 (((n0 : Int) == 5) = false →
 (∀ k63,Up k k63→R k63 (agg #[bool false,slice none 0 0,bool false,slice none 0 0,bool false,slice none 0 0,bool false,slice none 0 0,slice none 0 0])))))))))))))))))) :
   CallsG Tryz.prog 71 #[int .i64 n0] k R :=
  execFn_use (cfg:={ opq:=[35,32] }) (args:=[.one (.var 0)]) (vals:=[int .i64 n0]) (kinds:=[.int .i64]) (by kernel_rfl) ⟨⟨_,rfl⟩,trivial⟩ (by kernel_rfl) (by kernel_rfl) h
theorem rTurn_vc {n0 : Int}
 (h : Cl k 58 #[int .i64 (Int.tmod (IntKind.wrap .i64 ((Int.tmod n0 24)+24)) 24)] fun k1 r0=>Gt 12 r0 fun cs1 =>
 Cl k1 58 #[int .i64 (Int.tmod (IntKind.wrap .i64 ((Int.tmod (IntKind.wrap .i64 ((Int.tmod n0 24)+24)) 24)+18)) 24)] fun k3 r2=>Gt 12 r2 fun cs2 =>
 ∀ k4,Up k3 k4→R k4 (agg (cs1.toList ++ (cs2.toList ++ ([]))).toArray)) :
  CallsG Tryz.prog 21 #[int .i64 n0] k R :=
  execFn_use (cfg:={ opq:=[42] }) (args:=[.one (.var 0)]) (vals:=[int .i64 n0]) (kinds:=[.int .i64]) (by kernel_rfl) ⟨⟨_,rfl⟩,trivial⟩ (by kernel_rfl) (by kernel_rfl) h
theorem rcos0_vc
 (h : Cl k 46 #[int .i64 4,int .i64 4] fun k1 r0=>∃ cs0,Seg 3 cs0∧∃ n1,some (tuple #[agg cs0,int .i64 n1]) = some r0 ∧
 Cl k1 46 #[int .i64 0,int .i64 4] fun k3 r2=>∃ cs2,Seg 3 cs2∧∃ n3,some (tuple #[agg cs2,int .i64 n3]) = some r2 ∧
 Cl k3 46 #[int .i64 0,int .i64 4] fun k5 r4=>∃ cs4,Seg 3 cs4∧∃ n5,some (tuple #[agg cs4,int .i64 n5]) = some r4 ∧
 Cl k5 46 #[int .i64 0,int .i64 4] fun k7 r6=>∃ cs6,Seg 3 cs6∧∃ n7,some (tuple #[agg cs6,int .i64 n7]) = some r6 ∧
 ∀ k8,Up k7 k8→R k8 (agg (cs0.toList ++ (cs2.toList ++ (cs4.toList ++ (cs6.toList ++ ([]))))).toArray)) :
  CallsG Tryz.prog 58 #[int .i64 0] k R :=
  Sy.execFn_use_heap (cfg:={ opq:=[40] }) (args:=[.one (.lit (.int .i64 (0)))]) (vals:=[]) (kinds:=[]) (blks:=[]) (heap:=[]) (by kernel_rfl) trivial (by kernel_rfl) trivial (by kernel_rfl) h
theorem rcos1_vc
 (h : Cl k 46 #[int .i64 0,int .i64 4] fun k1 r0=>∃ cs0,Seg 3 cs0∧∃ n1,some (tuple #[agg cs0,int .i64 n1]) = some r0 ∧
 Cl k1 46 #[int .i64 1,int .i64 4] fun k3 r2=>∃ cs2,Seg 3 cs2∧∃ n3,some (tuple #[agg cs2,int .i64 n3]) = some r2 ∧
 Cl k3 46 #[int .i64 0,int .i64 4] fun k5 r4=>∃ cs4,Seg 3 cs4∧∃ n5,some (tuple #[agg cs4,int .i64 n5]) = some r4 ∧
 Cl k5 46 #[int .i64 1,int .i64 4] fun k7 r6=>∃ cs6,Seg 3 cs6∧∃ n7,some (tuple #[agg cs6,int .i64 n7]) = some r6 ∧
 ∀ k8,Up k7 k8→R k8 (agg (cs0.toList ++ (cs2.toList ++ (cs4.toList ++ (cs6.toList ++ ([]))))).toArray)) :
  CallsG Tryz.prog 58 #[int .i64 1] k R :=
  Sy.execFn_use_heap (cfg:={ opq:=[40] }) (args:=[.one (.lit (.int .i64 (1)))]) (vals:=[]) (kinds:=[]) (blks:=[]) (heap:=[]) (by kernel_rfl) trivial (by kernel_rfl) trivial (by kernel_rfl) h
theorem rcos2_vc
 (h : Cl k 46 #[int .i64 0,int .i64 4] fun k1 r0=>∃ cs0,Seg 3 cs0∧∃ n1,some (tuple #[agg cs0,int .i64 n1]) = some r0 ∧
 Cl k1 46 #[int .i64 0,int .i64 4] fun k3 r2=>∃ cs2,Seg 3 cs2∧∃ n3,some (tuple #[agg cs2,int .i64 n3]) = some r2 ∧
 Cl k3 46 #[int .i64 2,int .i64 4] fun k5 r4=>∃ cs4,Seg 3 cs4∧∃ n5,some (tuple #[agg cs4,int .i64 n5]) = some r4 ∧
 Cl k5 46 #[int .i64 0,int .i64 4] fun k7 r6=>∃ cs6,Seg 3 cs6∧∃ n7,some (tuple #[agg cs6,int .i64 n7]) = some r6 ∧
 ∀ k8,Up k7 k8→R k8 (agg (cs0.toList ++ (cs2.toList ++ (cs4.toList ++ (cs6.toList ++ ([]))))).toArray)) :
  CallsG Tryz.prog 58 #[int .i64 2] k R :=
  Sy.execFn_use_heap (cfg:={ opq:=[40] }) (args:=[.one (.lit (.int .i64 (2)))]) (vals:=[]) (kinds:=[]) (blks:=[]) (heap:=[]) (by kernel_rfl) trivial (by kernel_rfl) trivial (by kernel_rfl) h
theorem rcos3_vc
 (h : Cl k 46 #[int .i64 0,int .i64 4] fun k1 r0=>∃ cs0,Seg 3 cs0∧∃ n1,some (tuple #[agg cs0,int .i64 n1]) = some r0 ∧
 Cl k1 46 #[int .i64 2,int .i64 4] fun k3 r2=>∃ cs2,Seg 3 cs2∧∃ n3,some (tuple #[agg cs2,int .i64 n3]) = some r2 ∧
 Cl k3 46 #[int .i64 0,int .i64 4] fun k5 r4=>∃ cs4,Seg 3 cs4∧∃ n5,some (tuple #[agg cs4,int .i64 n5]) = some r4 ∧
 Cl k5 46 #[int .i64 0,int .i64 4] fun k7 r6=>∃ cs6,Seg 3 cs6∧∃ n7,some (tuple #[agg cs6,int .i64 n7]) = some r6 ∧
 ∀ k8,Up k7 k8→R k8 (agg (cs0.toList ++ (cs2.toList ++ (cs4.toList ++ (cs6.toList ++ ([]))))).toArray)) :
  CallsG Tryz.prog 58 #[int .i64 3] k R :=
  Sy.execFn_use_heap (cfg:={ opq:=[40] }) (args:=[.one (.lit (.int .i64 (3)))]) (vals:=[]) (kinds:=[]) (blks:=[]) (heap:=[]) (by kernel_rfl) trivial (by kernel_rfl) trivial (by kernel_rfl) h
theorem rcos4_vc
 (h : Cl k 46 #[int .i64 2,int .i64 4] fun k1 r0=>∃ cs0,Seg 3 cs0∧∃ n1,some (tuple #[agg cs0,int .i64 n1]) = some r0 ∧
 Cl k1 46 #[int .i64 0,int .i64 4] fun k3 r2=>∃ cs2,Seg 3 cs2∧∃ n3,some (tuple #[agg cs2,int .i64 n3]) = some r2 ∧
 Cl k3 46 #[int .i64 0,int .i64 4] fun k5 r4=>∃ cs4,Seg 3 cs4∧∃ n5,some (tuple #[agg cs4,int .i64 n5]) = some r4 ∧
 Cl k5 46 #[int .i64 0,int .i64 4] fun k7 r6=>∃ cs6,Seg 3 cs6∧∃ n7,some (tuple #[agg cs6,int .i64 n7]) = some r6 ∧
 ∀ k8,Up k7 k8→R k8 (agg (cs0.toList ++ (cs2.toList ++ (cs4.toList ++ (cs6.toList ++ ([]))))).toArray)) :
  CallsG Tryz.prog 58 #[int .i64 4] k R :=
  Sy.execFn_use_heap (cfg:={ opq:=[40] }) (args:=[.one (.lit (.int .i64 (4)))]) (vals:=[]) (kinds:=[]) (blks:=[]) (heap:=[]) (by kernel_rfl) trivial (by kernel_rfl) trivial (by kernel_rfl) h
theorem rcos5_vc
 (h : Cl k 46 #[int .i64 0,int .i64 4] fun k1 r0=>∃ cs0,Seg 3 cs0∧∃ n1,some (tuple #[agg cs0,int .i64 n1]) = some r0 ∧
 Cl k1 46 #[int .i64 (-1),int .i64 4] fun k3 r2=>∃ cs2,Seg 3 cs2∧∃ n3,some (tuple #[agg cs2,int .i64 n3]) = some r2 ∧
 Cl k3 46 #[int .i64 0,int .i64 4] fun k5 r4=>∃ cs4,Seg 3 cs4∧∃ n5,some (tuple #[agg cs4,int .i64 n5]) = some r4 ∧
 Cl k5 46 #[int .i64 1,int .i64 4] fun k7 r6=>∃ cs6,Seg 3 cs6∧∃ n7,some (tuple #[agg cs6,int .i64 n7]) = some r6 ∧
 ∀ k8,Up k7 k8→R k8 (agg (cs0.toList ++ (cs2.toList ++ (cs4.toList ++ (cs6.toList ++ ([]))))).toArray)) :
  CallsG Tryz.prog 58 #[int .i64 5] k R :=
  Sy.execFn_use_heap (cfg:={ opq:=[40] }) (args:=[.one (.lit (.int .i64 (5)))]) (vals:=[]) (kinds:=[]) (blks:=[]) (heap:=[]) (by kernel_rfl) trivial (by kernel_rfl) trivial (by kernel_rfl) h
theorem rcos6_vc
 (h : Cl k 46 #[int .i64 0,int .i64 4] fun k1 r0=>∃ cs0,Seg 3 cs0∧∃ n1,some (tuple #[agg cs0,int .i64 n1]) = some r0 ∧
 Cl k1 46 #[int .i64 0,int .i64 4] fun k3 r2=>∃ cs2,Seg 3 cs2∧∃ n3,some (tuple #[agg cs2,int .i64 n3]) = some r2 ∧
 Cl k3 46 #[int .i64 0,int .i64 4] fun k5 r4=>∃ cs4,Seg 3 cs4∧∃ n5,some (tuple #[agg cs4,int .i64 n5]) = some r4 ∧
 Cl k5 46 #[int .i64 0,int .i64 4] fun k7 r6=>∃ cs6,Seg 3 cs6∧∃ n7,some (tuple #[agg cs6,int .i64 n7]) = some r6 ∧
 ∀ k8,Up k7 k8→R k8 (agg (cs0.toList ++ (cs2.toList ++ (cs4.toList ++ (cs6.toList ++ ([]))))).toArray)) :
  CallsG Tryz.prog 58 #[int .i64 6] k R :=
  Sy.execFn_use_heap (cfg:={ opq:=[40] }) (args:=[.one (.lit (.int .i64 (6)))]) (vals:=[]) (kinds:=[]) (blks:=[]) (heap:=[]) (by kernel_rfl) trivial (by kernel_rfl) trivial (by kernel_rfl) h
theorem rcos7_vc
 (h : Cl k 58 #[int .i64 5] fun k1 r0=>∃ cs0,Seg 3 cs0∧∃ cs1,Seg 3 cs1∧∃ cs2,Seg 3 cs2∧∃ cs3,Seg 3 cs3∧some (agg (cs0.toList ++ (cs1.toList ++ (cs2.toList ++ (cs3.toList ++ ([]))))).toArray) = some r0 ∧
 Cl k1 103 #[agg (cs0.toList ++ (cs1.toList ++ (cs2.toList ++ (cs3.toList ++ ([]))))).toArray] fun k3 r2=>∃ cs4,Seg 3 cs4∧∃ cs5,Seg 3 cs5∧∃ cs6,Seg 3 cs6∧∃ cs7,Seg 3 cs7∧some (agg (cs4.toList ++ (cs5.toList ++ (cs6.toList ++ (cs7.toList ++ ([]))))).toArray) = some r2 ∧
 ∀ k4,Up k3 k4→R k4 (agg (cs4.toList ++ (cs5.toList ++ (cs6.toList ++ (cs7.toList ++ ([]))))).toArray)) :
  CallsG Tryz.prog 58 #[int .i64 7] k R :=
  Sy.execFn_use_heap (cfg:={ opq:=[40] }) (args:=[.one (.lit (.int .i64 (7)))]) (vals:=[]) (kinds:=[]) (blks:=[]) (heap:=[]) (by kernel_rfl) trivial (by kernel_rfl) trivial (by kernel_rfl) h
theorem rcos8_vc
 (h : Cl k 58 #[int .i64 4] fun k1 r0=>∃ cs0,Seg 3 cs0∧∃ cs1,Seg 3 cs1∧∃ cs2,Seg 3 cs2∧∃ cs3,Seg 3 cs3∧some (agg (cs0.toList ++ (cs1.toList ++ (cs2.toList ++ (cs3.toList ++ ([]))))).toArray) = some r0 ∧
 Cl k1 103 #[agg (cs0.toList ++ (cs1.toList ++ (cs2.toList ++ (cs3.toList ++ ([]))))).toArray] fun k3 r2=>∃ cs4,Seg 3 cs4∧∃ cs5,Seg 3 cs5∧∃ cs6,Seg 3 cs6∧∃ cs7,Seg 3 cs7∧some (agg (cs4.toList ++ (cs5.toList ++ (cs6.toList ++ (cs7.toList ++ ([]))))).toArray) = some r2 ∧
 ∀ k4,Up k3 k4→R k4 (agg (cs4.toList ++ (cs5.toList ++ (cs6.toList ++ (cs7.toList ++ ([]))))).toArray)) :
  CallsG Tryz.prog 58 #[int .i64 8] k R :=
  Sy.execFn_use_heap (cfg:={ opq:=[40] }) (args:=[.one (.lit (.int .i64 (8)))]) (vals:=[]) (kinds:=[]) (blks:=[]) (heap:=[]) (by kernel_rfl) trivial (by kernel_rfl) trivial (by kernel_rfl) h
theorem rcos9_vc
 (h : Cl k 58 #[int .i64 3] fun k1 r0=>∃ cs0,Seg 3 cs0∧∃ cs1,Seg 3 cs1∧∃ cs2,Seg 3 cs2∧∃ cs3,Seg 3 cs3∧some (agg (cs0.toList ++ (cs1.toList ++ (cs2.toList ++ (cs3.toList ++ ([]))))).toArray) = some r0 ∧
 Cl k1 103 #[agg (cs0.toList ++ (cs1.toList ++ (cs2.toList ++ (cs3.toList ++ ([]))))).toArray] fun k3 r2=>∃ cs4,Seg 3 cs4∧∃ cs5,Seg 3 cs5∧∃ cs6,Seg 3 cs6∧∃ cs7,Seg 3 cs7∧some (agg (cs4.toList ++ (cs5.toList ++ (cs6.toList ++ (cs7.toList ++ ([]))))).toArray) = some r2 ∧
 ∀ k4,Up k3 k4→R k4 (agg (cs4.toList ++ (cs5.toList ++ (cs6.toList ++ (cs7.toList ++ ([]))))).toArray)) :
  CallsG Tryz.prog 58 #[int .i64 9] k R :=
  Sy.execFn_use_heap (cfg:={ opq:=[40] }) (args:=[.one (.lit (.int .i64 (9)))]) (vals:=[]) (kinds:=[]) (blks:=[]) (heap:=[]) (by kernel_rfl) trivial (by kernel_rfl) trivial (by kernel_rfl) h
theorem rcos10_vc
 (h : Cl k 58 #[int .i64 2] fun k1 r0=>∃ cs0,Seg 3 cs0∧∃ cs1,Seg 3 cs1∧∃ cs2,Seg 3 cs2∧∃ cs3,Seg 3 cs3∧some (agg (cs0.toList ++ (cs1.toList ++ (cs2.toList ++ (cs3.toList ++ ([]))))).toArray) = some r0 ∧
 Cl k1 103 #[agg (cs0.toList ++ (cs1.toList ++ (cs2.toList ++ (cs3.toList ++ ([]))))).toArray] fun k3 r2=>∃ cs4,Seg 3 cs4∧∃ cs5,Seg 3 cs5∧∃ cs6,Seg 3 cs6∧∃ cs7,Seg 3 cs7∧some (agg (cs4.toList ++ (cs5.toList ++ (cs6.toList ++ (cs7.toList ++ ([]))))).toArray) = some r2 ∧
 ∀ k4,Up k3 k4→R k4 (agg (cs4.toList ++ (cs5.toList ++ (cs6.toList ++ (cs7.toList ++ ([]))))).toArray)) :
  CallsG Tryz.prog 58 #[int .i64 10] k R :=
  Sy.execFn_use_heap (cfg:={ opq:=[40] }) (args:=[.one (.lit (.int .i64 (10)))]) (vals:=[]) (kinds:=[]) (blks:=[]) (heap:=[]) (by kernel_rfl) trivial (by kernel_rfl) trivial (by kernel_rfl) h
theorem rcos11_vc
 (h : Cl k 58 #[int .i64 1] fun k1 r0=>∃ cs0,Seg 3 cs0∧∃ cs1,Seg 3 cs1∧∃ cs2,Seg 3 cs2∧∃ cs3,Seg 3 cs3∧some (agg (cs0.toList ++ (cs1.toList ++ (cs2.toList ++ (cs3.toList ++ ([]))))).toArray) = some r0 ∧
 Cl k1 103 #[agg (cs0.toList ++ (cs1.toList ++ (cs2.toList ++ (cs3.toList ++ ([]))))).toArray] fun k3 r2=>∃ cs4,Seg 3 cs4∧∃ cs5,Seg 3 cs5∧∃ cs6,Seg 3 cs6∧∃ cs7,Seg 3 cs7∧some (agg (cs4.toList ++ (cs5.toList ++ (cs6.toList ++ (cs7.toList ++ ([]))))).toArray) = some r2 ∧
 ∀ k4,Up k3 k4→R k4 (agg (cs4.toList ++ (cs5.toList ++ (cs6.toList ++ (cs7.toList ++ ([]))))).toArray)) :
  CallsG Tryz.prog 58 #[int .i64 11] k R :=
  Sy.execFn_use_heap (cfg:={ opq:=[40] }) (args:=[.one (.lit (.int .i64 (11)))]) (vals:=[]) (kinds:=[]) (blks:=[]) (heap:=[]) (by kernel_rfl) trivial (by kernel_rfl) trivial (by kernel_rfl) h
theorem rcos12_vc
 (h : Cl k 58 #[int .i64 0] fun k1 r0=>∃ cs0,Seg 3 cs0∧∃ cs1,Seg 3 cs1∧∃ cs2,Seg 3 cs2∧∃ cs3,Seg 3 cs3∧some (agg (cs0.toList ++ (cs1.toList ++ (cs2.toList ++ (cs3.toList ++ ([]))))).toArray) = some r0 ∧
 Cl k1 103 #[agg (cs0.toList ++ (cs1.toList ++ (cs2.toList ++ (cs3.toList ++ ([]))))).toArray] fun k3 r2=>∃ cs4,Seg 3 cs4∧∃ cs5,Seg 3 cs5∧∃ cs6,Seg 3 cs6∧∃ cs7,Seg 3 cs7∧some (agg (cs4.toList ++ (cs5.toList ++ (cs6.toList ++ (cs7.toList ++ ([]))))).toArray) = some r2 ∧
 ∀ k4,Up k3 k4→R k4 (agg (cs4.toList ++ (cs5.toList ++ (cs6.toList ++ (cs7.toList ++ ([]))))).toArray)) :
  CallsG Tryz.prog 58 #[int .i64 12] k R :=
  Sy.execFn_use_heap (cfg:={ opq:=[40] }) (args:=[.one (.lit (.int .i64 (12)))]) (vals:=[]) (kinds:=[]) (blks:=[]) (heap:=[]) (by kernel_rfl) trivial (by kernel_rfl) trivial (by kernel_rfl) h
theorem rcos13_vc
 (h : Cl k 58 #[int .i64 1] fun k1 r0=>∃ cs0,Seg 3 cs0∧∃ cs1,Seg 3 cs1∧∃ cs2,Seg 3 cs2∧∃ cs3,Seg 3 cs3∧some (agg (cs0.toList ++ (cs1.toList ++ (cs2.toList ++ (cs3.toList ++ ([]))))).toArray) = some r0 ∧
 Cl k1 103 #[agg (cs0.toList ++ (cs1.toList ++ (cs2.toList ++ (cs3.toList ++ ([]))))).toArray] fun k3 r2=>∃ cs4,Seg 3 cs4∧∃ cs5,Seg 3 cs5∧∃ cs6,Seg 3 cs6∧∃ cs7,Seg 3 cs7∧some (agg (cs4.toList ++ (cs5.toList ++ (cs6.toList ++ (cs7.toList ++ ([]))))).toArray) = some r2 ∧
 ∀ k4,Up k3 k4→R k4 (agg (cs4.toList ++ (cs5.toList ++ (cs6.toList ++ (cs7.toList ++ ([]))))).toArray)) :
  CallsG Tryz.prog 58 #[int .i64 13] k R :=
  Sy.execFn_use_heap (cfg:={ opq:=[40] }) (args:=[.one (.lit (.int .i64 (13)))]) (vals:=[]) (kinds:=[]) (blks:=[]) (heap:=[]) (by kernel_rfl) trivial (by kernel_rfl) trivial (by kernel_rfl) h
theorem rcos14_vc
 (h : Cl k 58 #[int .i64 2] fun k1 r0=>∃ cs0,Seg 3 cs0∧∃ cs1,Seg 3 cs1∧∃ cs2,Seg 3 cs2∧∃ cs3,Seg 3 cs3∧some (agg (cs0.toList ++ (cs1.toList ++ (cs2.toList ++ (cs3.toList ++ ([]))))).toArray) = some r0 ∧
 Cl k1 103 #[agg (cs0.toList ++ (cs1.toList ++ (cs2.toList ++ (cs3.toList ++ ([]))))).toArray] fun k3 r2=>∃ cs4,Seg 3 cs4∧∃ cs5,Seg 3 cs5∧∃ cs6,Seg 3 cs6∧∃ cs7,Seg 3 cs7∧some (agg (cs4.toList ++ (cs5.toList ++ (cs6.toList ++ (cs7.toList ++ ([]))))).toArray) = some r2 ∧
 ∀ k4,Up k3 k4→R k4 (agg (cs4.toList ++ (cs5.toList ++ (cs6.toList ++ (cs7.toList ++ ([]))))).toArray)) :
  CallsG Tryz.prog 58 #[int .i64 14] k R :=
  Sy.execFn_use_heap (cfg:={ opq:=[40] }) (args:=[.one (.lit (.int .i64 (14)))]) (vals:=[]) (kinds:=[]) (blks:=[]) (heap:=[]) (by kernel_rfl) trivial (by kernel_rfl) trivial (by kernel_rfl) h
theorem rcos15_vc
 (h : Cl k 58 #[int .i64 3] fun k1 r0=>∃ cs0,Seg 3 cs0∧∃ cs1,Seg 3 cs1∧∃ cs2,Seg 3 cs2∧∃ cs3,Seg 3 cs3∧some (agg (cs0.toList ++ (cs1.toList ++ (cs2.toList ++ (cs3.toList ++ ([]))))).toArray) = some r0 ∧
 Cl k1 103 #[agg (cs0.toList ++ (cs1.toList ++ (cs2.toList ++ (cs3.toList ++ ([]))))).toArray] fun k3 r2=>∃ cs4,Seg 3 cs4∧∃ cs5,Seg 3 cs5∧∃ cs6,Seg 3 cs6∧∃ cs7,Seg 3 cs7∧some (agg (cs4.toList ++ (cs5.toList ++ (cs6.toList ++ (cs7.toList ++ ([]))))).toArray) = some r2 ∧
 ∀ k4,Up k3 k4→R k4 (agg (cs4.toList ++ (cs5.toList ++ (cs6.toList ++ (cs7.toList ++ ([]))))).toArray)) :
  CallsG Tryz.prog 58 #[int .i64 15] k R :=
  Sy.execFn_use_heap (cfg:={ opq:=[40] }) (args:=[.one (.lit (.int .i64 (15)))]) (vals:=[]) (kinds:=[]) (blks:=[]) (heap:=[]) (by kernel_rfl) trivial (by kernel_rfl) trivial (by kernel_rfl) h
theorem rcos16_vc
 (h : Cl k 58 #[int .i64 4] fun k1 r0=>∃ cs0,Seg 3 cs0∧∃ cs1,Seg 3 cs1∧∃ cs2,Seg 3 cs2∧∃ cs3,Seg 3 cs3∧some (agg (cs0.toList ++ (cs1.toList ++ (cs2.toList ++ (cs3.toList ++ ([]))))).toArray) = some r0 ∧
 Cl k1 103 #[agg (cs0.toList ++ (cs1.toList ++ (cs2.toList ++ (cs3.toList ++ ([]))))).toArray] fun k3 r2=>∃ cs4,Seg 3 cs4∧∃ cs5,Seg 3 cs5∧∃ cs6,Seg 3 cs6∧∃ cs7,Seg 3 cs7∧some (agg (cs4.toList ++ (cs5.toList ++ (cs6.toList ++ (cs7.toList ++ ([]))))).toArray) = some r2 ∧
 ∀ k4,Up k3 k4→R k4 (agg (cs4.toList ++ (cs5.toList ++ (cs6.toList ++ (cs7.toList ++ ([]))))).toArray)) :
  CallsG Tryz.prog 58 #[int .i64 16] k R :=
  Sy.execFn_use_heap (cfg:={ opq:=[40] }) (args:=[.one (.lit (.int .i64 (16)))]) (vals:=[]) (kinds:=[]) (blks:=[]) (heap:=[]) (by kernel_rfl) trivial (by kernel_rfl) trivial (by kernel_rfl) h
theorem rcos17_vc
 (h : Cl k 58 #[int .i64 5] fun k1 r0=>∃ cs0,Seg 3 cs0∧∃ cs1,Seg 3 cs1∧∃ cs2,Seg 3 cs2∧∃ cs3,Seg 3 cs3∧some (agg (cs0.toList ++ (cs1.toList ++ (cs2.toList ++ (cs3.toList ++ ([]))))).toArray) = some r0 ∧
 Cl k1 103 #[agg (cs0.toList ++ (cs1.toList ++ (cs2.toList ++ (cs3.toList ++ ([]))))).toArray] fun k3 r2=>∃ cs4,Seg 3 cs4∧∃ cs5,Seg 3 cs5∧∃ cs6,Seg 3 cs6∧∃ cs7,Seg 3 cs7∧some (agg (cs4.toList ++ (cs5.toList ++ (cs6.toList ++ (cs7.toList ++ ([]))))).toArray) = some r2 ∧
 ∀ k4,Up k3 k4→R k4 (agg (cs4.toList ++ (cs5.toList ++ (cs6.toList ++ (cs7.toList ++ ([]))))).toArray)) :
  CallsG Tryz.prog 58 #[int .i64 17] k R :=
  Sy.execFn_use_heap (cfg:={ opq:=[40] }) (args:=[.one (.lit (.int .i64 (17)))]) (vals:=[]) (kinds:=[]) (blks:=[]) (heap:=[]) (by kernel_rfl) trivial (by kernel_rfl) trivial (by kernel_rfl) h
theorem rcos18_vc
 (h : Cl k 46 #[int .i64 0,int .i64 4] fun k1 r0=>∃ cs0,Seg 3 cs0∧∃ n1,some (tuple #[agg cs0,int .i64 n1]) = some r0 ∧
 Cl k1 46 #[int .i64 0,int .i64 4] fun k3 r2=>∃ cs2,Seg 3 cs2∧∃ n3,some (tuple #[agg cs2,int .i64 n3]) = some r2 ∧
 Cl k3 46 #[int .i64 0,int .i64 4] fun k5 r4=>∃ cs4,Seg 3 cs4∧∃ n5,some (tuple #[agg cs4,int .i64 n5]) = some r4 ∧
 Cl k5 46 #[int .i64 0,int .i64 4] fun k7 r6=>∃ cs6,Seg 3 cs6∧∃ n7,some (tuple #[agg cs6,int .i64 n7]) = some r6 ∧
 ∀ k8,Up k7 k8→R k8 (agg (cs0.toList ++ (cs2.toList ++ (cs4.toList ++ (cs6.toList ++ ([]))))).toArray)) :
  CallsG Tryz.prog 58 #[int .i64 18] k R :=
  Sy.execFn_use_heap (cfg:={ opq:=[40] }) (args:=[.one (.lit (.int .i64 (18)))]) (vals:=[]) (kinds:=[]) (blks:=[]) (heap:=[]) (by kernel_rfl) trivial (by kernel_rfl) trivial (by kernel_rfl) h
theorem rcos19_vc
 (h : Cl k 46 #[int .i64 0,int .i64 4] fun k1 r0=>∃ cs0,Seg 3 cs0∧∃ n1,some (tuple #[agg cs0,int .i64 n1]) = some r0 ∧
 Cl k1 46 #[int .i64 (-1),int .i64 4] fun k3 r2=>∃ cs2,Seg 3 cs2∧∃ n3,some (tuple #[agg cs2,int .i64 n3]) = some r2 ∧
 Cl k3 46 #[int .i64 0,int .i64 4] fun k5 r4=>∃ cs4,Seg 3 cs4∧∃ n5,some (tuple #[agg cs4,int .i64 n5]) = some r4 ∧
 Cl k5 46 #[int .i64 1,int .i64 4] fun k7 r6=>∃ cs6,Seg 3 cs6∧∃ n7,some (tuple #[agg cs6,int .i64 n7]) = some r6 ∧
 ∀ k8,Up k7 k8→R k8 (agg (cs0.toList ++ (cs2.toList ++ (cs4.toList ++ (cs6.toList ++ ([]))))).toArray)) :
  CallsG Tryz.prog 58 #[int .i64 19] k R :=
  Sy.execFn_use_heap (cfg:={ opq:=[40] }) (args:=[.one (.lit (.int .i64 (19)))]) (vals:=[]) (kinds:=[]) (blks:=[]) (heap:=[]) (by kernel_rfl) trivial (by kernel_rfl) trivial (by kernel_rfl) h
theorem rcos20_vc
 (h : Cl k 46 #[int .i64 2,int .i64 4] fun k1 r0=>∃ cs0,Seg 3 cs0∧∃ n1,some (tuple #[agg cs0,int .i64 n1]) = some r0 ∧
 Cl k1 46 #[int .i64 0,int .i64 4] fun k3 r2=>∃ cs2,Seg 3 cs2∧∃ n3,some (tuple #[agg cs2,int .i64 n3]) = some r2 ∧
 Cl k3 46 #[int .i64 0,int .i64 4] fun k5 r4=>∃ cs4,Seg 3 cs4∧∃ n5,some (tuple #[agg cs4,int .i64 n5]) = some r4 ∧
 Cl k5 46 #[int .i64 0,int .i64 4] fun k7 r6=>∃ cs6,Seg 3 cs6∧∃ n7,some (tuple #[agg cs6,int .i64 n7]) = some r6 ∧
 ∀ k8,Up k7 k8→R k8 (agg (cs0.toList ++ (cs2.toList ++ (cs4.toList ++ (cs6.toList ++ ([]))))).toArray)) :
  CallsG Tryz.prog 58 #[int .i64 20] k R :=
  Sy.execFn_use_heap (cfg:={ opq:=[40] }) (args:=[.one (.lit (.int .i64 (20)))]) (vals:=[]) (kinds:=[]) (blks:=[]) (heap:=[]) (by kernel_rfl) trivial (by kernel_rfl) trivial (by kernel_rfl) h
theorem rcos21_vc
 (h : Cl k 46 #[int .i64 0,int .i64 4] fun k1 r0=>∃ cs0,Seg 3 cs0∧∃ n1,some (tuple #[agg cs0,int .i64 n1]) = some r0 ∧
 Cl k1 46 #[int .i64 2,int .i64 4] fun k3 r2=>∃ cs2,Seg 3 cs2∧∃ n3,some (tuple #[agg cs2,int .i64 n3]) = some r2 ∧
 Cl k3 46 #[int .i64 0,int .i64 4] fun k5 r4=>∃ cs4,Seg 3 cs4∧∃ n5,some (tuple #[agg cs4,int .i64 n5]) = some r4 ∧
 Cl k5 46 #[int .i64 0,int .i64 4] fun k7 r6=>∃ cs6,Seg 3 cs6∧∃ n7,some (tuple #[agg cs6,int .i64 n7]) = some r6 ∧
 ∀ k8,Up k7 k8→R k8 (agg (cs0.toList ++ (cs2.toList ++ (cs4.toList ++ (cs6.toList ++ ([]))))).toArray)) :
  CallsG Tryz.prog 58 #[int .i64 21] k R :=
  Sy.execFn_use_heap (cfg:={ opq:=[40] }) (args:=[.one (.lit (.int .i64 (21)))]) (vals:=[]) (kinds:=[]) (blks:=[]) (heap:=[]) (by kernel_rfl) trivial (by kernel_rfl) trivial (by kernel_rfl) h
theorem rcos22_vc
 (h : Cl k 46 #[int .i64 0,int .i64 4] fun k1 r0=>∃ cs0,Seg 3 cs0∧∃ n1,some (tuple #[agg cs0,int .i64 n1]) = some r0 ∧
 Cl k1 46 #[int .i64 0,int .i64 4] fun k3 r2=>∃ cs2,Seg 3 cs2∧∃ n3,some (tuple #[agg cs2,int .i64 n3]) = some r2 ∧
 Cl k3 46 #[int .i64 2,int .i64 4] fun k5 r4=>∃ cs4,Seg 3 cs4∧∃ n5,some (tuple #[agg cs4,int .i64 n5]) = some r4 ∧
 Cl k5 46 #[int .i64 0,int .i64 4] fun k7 r6=>∃ cs6,Seg 3 cs6∧∃ n7,some (tuple #[agg cs6,int .i64 n7]) = some r6 ∧
 ∀ k8,Up k7 k8→R k8 (agg (cs0.toList ++ (cs2.toList ++ (cs4.toList ++ (cs6.toList ++ ([]))))).toArray)) :
  CallsG Tryz.prog 58 #[int .i64 22] k R :=
  Sy.execFn_use_heap (cfg:={ opq:=[40] }) (args:=[.one (.lit (.int .i64 (22)))]) (vals:=[]) (kinds:=[]) (blks:=[]) (heap:=[]) (by kernel_rfl) trivial (by kernel_rfl) trivial (by kernel_rfl) h
theorem rcos23_vc
 (h : Cl k 46 #[int .i64 0,int .i64 4] fun k1 r0=>∃ cs0,Seg 3 cs0∧∃ n1,some (tuple #[agg cs0,int .i64 n1]) = some r0 ∧
 Cl k1 46 #[int .i64 1,int .i64 4] fun k3 r2=>∃ cs2,Seg 3 cs2∧∃ n3,some (tuple #[agg cs2,int .i64 n3]) = some r2 ∧
 Cl k3 46 #[int .i64 0,int .i64 4] fun k5 r4=>∃ cs4,Seg 3 cs4∧∃ n5,some (tuple #[agg cs4,int .i64 n5]) = some r4 ∧
 Cl k5 46 #[int .i64 1,int .i64 4] fun k7 r6=>∃ cs6,Seg 3 cs6∧∃ n7,some (tuple #[agg cs6,int .i64 n7]) = some r6 ∧
 ∀ k8,Up k7 k8→R k8 (agg (cs0.toList ++ (cs2.toList ++ (cs4.toList ++ (cs6.toList ++ ([]))))).toArray)) :
  CallsG Tryz.prog 58 #[int .i64 23] k R :=
  Sy.execFn_use_heap (cfg:={ opq:=[40] }) (args:=[.one (.lit (.int .i64 (23)))]) (vals:=[]) (kinds:=[]) (blks:=[]) (heap:=[]) (by kernel_rfl) trivial (by kernel_rfl) trivial (by kernel_rfl) h
theorem part14_vc
 (h : Cl k 72 #[int .i64 1] fun k1 r0=>Gt 2 r0 fun cs0 =>
 Cl k1 94 #[int .u64 4] fun k3 r2=>∃ A1 l1 c1,some (slice A1 l1 c1) = some r2 ∧
 ∀ k4,Up k3 k4→R k4 (agg ((bool false) :: ((slice none 0 0) :: (cs0.toList ++ ((bool false) :: ((slice none 0 0) :: ((bool false) :: ((slice none 0 0) :: ((slice A1 l1 c1) :: ([]))))))))).toArray)) :
  CallsG Tryz.prog 110 #[int .i64 1,int .u64 4] k R :=
  Sy.execFn_use_heap (cfg:={ opq:=[32] }) (args:=[.one (.lit (.int .i64 (1))),.one (.lit (.int .u64 (4)))]) (vals:=[]) (kinds:=[]) (blks:=[]) (heap:=[]) (by kernel_rfl) trivial (by kernel_rfl) trivial (by kernel_rfl) h
theorem part34_vc
 (h : Cl k 72 #[int .i64 1] fun k1 r0=>Gt 2 r0 fun cs0 =>
 Cl k1 94 #[int .u64 4] fun k3 r2=>∃ A1 l1 c1,some (slice A1 l1 c1) = some r2 ∧
 ∀ k4,Up k3 k4→R k4 (agg ((bool false) :: ((slice none 0 0) :: ((bool false) :: ((slice none 0 0) :: ((bool false) :: ((slice none 0 0) :: (cs0.toList ++ ((slice A1 l1 c1) :: ([]))))))))).toArray)) :
  CallsG Tryz.prog 110 #[int .i64 3,int .u64 4] k R :=
  Sy.execFn_use_heap (cfg:={ opq:=[32] }) (args:=[.one (.lit (.int .i64 (3))),.one (.lit (.int .u64 (4)))]) (vals:=[]) (kinds:=[]) (blks:=[]) (heap:=[]) (by kernel_rfl) trivial (by kernel_rfl) trivial (by kernel_rfl) h
theorem part22_vc
 (h : Cl k 72 #[int .i64 1] fun k1 r0=>Gt 2 r0 fun cs0 =>
 Cl k1 94 #[int .u64 2] fun k3 r2=>∃ A1 l1 c1,some (slice A1 l1 c1) = some r2 ∧
 ∀ k4,Up k3 k4→R k4 (agg ((bool false) :: ((slice none 0 0) :: ((bool false) :: ((slice none 0 0) :: (cs0.toList ++ ((bool false) :: ((slice none 0 0) :: ((slice A1 l1 c1) :: ([]))))))))).toArray)) :
  CallsG Tryz.prog 110 #[int .i64 2,int .u64 2] k R :=
  Sy.execFn_use_heap (cfg:={ opq:=[32] }) (args:=[.one (.lit (.int .i64 (2))),.one (.lit (.int .u64 (2)))]) (vals:=[]) (kinds:=[]) (blks:=[]) (heap:=[]) (by kernel_rfl) trivial (by kernel_rfl) trivial (by kernel_rfl) h
theorem part12_vc
 (h : Cl k 72 #[int .i64 1] fun k1 r0=>Gt 2 r0 fun cs0 =>
 Cl k1 94 #[int .u64 2] fun k3 r2=>∃ A1 l1 c1,some (slice A1 l1 c1) = some r2 ∧
 ∀ k4,Up k3 k4→R k4 (agg ((bool false) :: ((slice none 0 0) :: (cs0.toList ++ ((bool false) :: ((slice none 0 0) :: ((bool false) :: ((slice none 0 0) :: ((slice A1 l1 c1) :: ([]))))))))).toArray)) :
  CallsG Tryz.prog 110 #[int .i64 1,int .u64 2] k R :=
  Sy.execFn_use_heap (cfg:={ opq:=[32] }) (args:=[.one (.lit (.int .i64 (1))),.one (.lit (.int .u64 (2)))]) (vals:=[]) (kinds:=[]) (blks:=[]) (heap:=[]) (by kernel_rfl) trivial (by kernel_rfl) trivial (by kernel_rfl) h
theorem part02_vc
 (h : Cl k 72 #[int .i64 1] fun k1 r0=>Gt 2 r0 fun cs0 =>
 Cl k1 94 #[int .u64 2] fun k3 r2=>∃ A1 l1 c1,some (slice A1 l1 c1) = some r2 ∧
 ∀ k4,Up k3 k4→R k4 (agg (cs0.toList ++ ((bool false) :: ((slice none 0 0) :: ((bool false) :: ((slice none 0 0) :: ((bool false) :: ((slice none 0 0) :: ((slice A1 l1 c1) :: ([]))))))))).toArray)) :
  CallsG Tryz.prog 110 #[int .i64 0,int .u64 2] k R :=
  Sy.execFn_use_heap (cfg:={ opq:=[32] }) (args:=[.one (.lit (.int .i64 (0))),.one (.lit (.int .u64 (2)))]) (vals:=[]) (kinds:=[]) (blks:=[]) (heap:=[]) (by kernel_rfl) trivial (by kernel_rfl) trivial (by kernel_rfl) h
end Go.Proofs.YtmilhgkacmofmaaGreat

namespace Go.Proofs.YtmilhgkacmofmaaGreat
open Go.RowKit Num
open Sy (Up Sees CallsG Seg)
section
variable {k k' : World} {cs cs' c0 c1 : Array Value} {R : World→Value→Prop} {v v' : Q4} {x y : W4} {K L : Nat}
theorem IntV.cut {z : Int} (h : IntV k cs z K) (hz : z.natAbs≤1000) : IntV k cs z 1:=by
 obtain ⟨b,A,n,c,e,h1,h2⟩:=h
 refine ⟨b,A,n,c,e,h1,?_⟩
 rw [h1.lim.len]
 exact nw_le_of (by unfold B64; omega)
theorem small_part {z : Int} {m : Nat} (hm : 0 < m) (h : q4s (mkRat z m) = true) : m ∣ 4*z.natAbs∧4*z.natAbs≤1000*m:=by
 unfold q4s at h
 rw [Bool.and_eq_true,beq_iff_eq,decide_eq_true_iff] at h
 have e : (4 : Rat)*mkRat z m = mkRat (z*(4 : Nat)) m:=by rw [mkRat_scale z 4 hm]; rfl
 rw [e,mkRat_dn _ hm,mkRat_abs _ hm] at h
 obtain ⟨h1,h2⟩:=h
 have hz : (z*((4 : Nat) : Int)).natAbs = 4*z.natAbs:=by rw [Int.natAbs_mul,Int.natAbs_natCast,Nat.mul_comm]
 rw [hz] at h1 h2
 generalize hg : Nat.gcd (4*z.natAbs) m = g at h1 h2
 have d1 : g ∣ m:=hg ▸ Nat.gcd_dvd_right _ _
 have d2 : g ∣ 4*z.natAbs:=hg ▸ Nat.gcd_dvd_left _ _
 have em : m = g:=by have:=Nat.div_mul_cancel d1; rw [h1,Nat.one_mul] at this; exact this.symm
 have hle:=Nat.mul_le_mul_right g h2
 rw [Nat.div_mul_cancel d2] at hle
 rw [em]
 exact ⟨d2,hle⟩
theorem SurdV.cut (h : SurdV k cs v K) (hs : v.small = true) : SurdV k cs v 1:=by
 obtain ⟨c0,c1,c2,c3,D,d,e,y0,y1,y2,y3,m,h1,hm,hg,rfl,i0,i1,i2,i3,l,hd⟩:=h
 unfold Q4.small mkQ at hs
 rw [Bool.and_eq_true,Bool.and_eq_true,Bool.and_eq_true] at hs
 obtain ⟨⟨⟨s0,s1⟩,s2⟩,s3⟩:=hs
 obtain ⟨d0,b0⟩:=small_part hm s0
 obtain ⟨d1,b1⟩:=small_part hm s1
 obtain ⟨d2,b2⟩:=small_part hm s2
 obtain ⟨d3,b3⟩:=small_part hm s3
 have hm4 : m ∣ 4:=by
  have dm : m ∣ 4*m:=Nat.dvd_mul_left m 4
  have:=Nat.dvd_gcd (Nat.dvd_gcd (Nat.dvd_gcd (Nat.dvd_gcd dm d0) d1) d2) d3
  rw [Nat.gcd_mul_left,Nat.gcd_mul_left,Nat.gcd_mul_left,Nat.gcd_mul_left] at this
  unfold gcd5 at hg
  rw [hg] at this
  exact this
 have hm4:=Nat.le_of_dvd (by decide) hm4
 refine ⟨c0,c1,c2,c3,D,d,e,y0,y1,y2,y3,m,h1,hm,hg,rfl,i0.cut (by omega),i1.cut (by omega),i2.cut (by omega),i3.cut (by omega),l,?_⟩
 rw [l.len]
 refine nw_le_of ?_
 unfold B64
 split <;> omega
theorem WaveV.nil : WaveV k #[.bool false,.slice none 0 0,.bool false,.slice none 0 0,.bool false,.slice none 0 0,.bool false,.slice none 0 0,.slice none 0 0,.bool false,.slice none 0 0,.bool false,.slice none 0 0,.bool false,.slice none 0 0,.bool false,.slice none 0 0,.slice none 0 0] W4.zero K :=
 ⟨#[.bool false,.slice none 0 0,.bool false,.slice none 0 0,.bool false,.slice none 0 0,.bool false,.slice none 0 0,.slice none 0 0],#[.bool false,.slice none 0 0,.bool false,.slice none 0 0,.bool false,.slice none 0 0,.bool false,.slice none 0 0,.slice none 0 0],rfl,SurdV.nil (Nat.zero_le _),SurdV.nil (Nat.zero_le _)⟩
theorem part14_s (C : ∀ k' ds,Up k k'→SurdV k' ds ⟨0,1 / 4,0,0⟩ 1→R k' (.agg ds)) :
 Cl k 110 #[.int .i64 1,.int .u64 4] R:=by
 intro k0 u0
 refine part14_vc ?_
 refine of_s (by decide) (by decide) fun k1 d1 u1 i1=>⟨d1,i1.seg,rfl,?_⟩
 refine word_s (x:=4) (by decide) fun k2 A l c u2 l2 hl=>⟨A,l,c,rfl,fun k3 u3=>?_⟩
 exact C k3 _ (((u0.trans u1).trans u2).trans u3) ⟨#[.bool false,.slice none 0 0],d1,#[.bool false,.slice none 0 0],#[.bool false,.slice none 0 0],A,l,c,0,1,0,0,4,rfl,by decide,by decide,by decide +kernel,IntV.nil,(i1.up u2).up u3,IntV.nil,IntV.nil,(by rw [if_neg (by decide)]; exact l2.up u3),hl⟩
theorem part34_s (C : ∀ k' ds,Up k k'→SurdV k' ds ⟨0,0,0,1 / 4⟩ 1→R k' (.agg ds)) :
 Cl k 110 #[.int .i64 3,.int .u64 4] R:=by
 intro k0 u0
 refine part34_vc ?_
 refine of_s (by decide) (by decide) fun k1 d1 u1 i1=>⟨d1,i1.seg,rfl,?_⟩
 refine word_s (x:=4) (by decide) fun k2 A l c u2 l2 hl=>⟨A,l,c,rfl,fun k3 u3=>?_⟩
 exact C k3 _ (((u0.trans u1).trans u2).trans u3) ⟨#[.bool false,.slice none 0 0],#[.bool false,.slice none 0 0],#[.bool false,.slice none 0 0],d1,A,l,c,0,0,0,1,4,rfl,by decide,by decide,by decide +kernel,IntV.nil,IntV.nil,IntV.nil,(i1.up u2).up u3,(by rw [if_neg (by decide)]; exact l2.up u3),hl⟩
theorem part22_s (C : ∀ k' ds,Up k k'→SurdV k' ds ⟨0,0,1 / 2,0⟩ 1→R k' (.agg ds)) :
 Cl k 110 #[.int .i64 2,.int .u64 2] R:=by
 intro k0 u0
 refine part22_vc ?_
 refine of_s (by decide) (by decide) fun k1 d1 u1 i1=>⟨d1,i1.seg,rfl,?_⟩
 refine word_s (x:=2) (by decide) fun k2 A l c u2 l2 hl=>⟨A,l,c,rfl,fun k3 u3=>?_⟩
 exact C k3 _ (((u0.trans u1).trans u2).trans u3) ⟨#[.bool false,.slice none 0 0],#[.bool false,.slice none 0 0],d1,#[.bool false,.slice none 0 0],A,l,c,0,0,1,0,2,rfl,by decide,by decide,by decide +kernel,IntV.nil,IntV.nil,(i1.up u2).up u3,IntV.nil,(by rw [if_neg (by decide)]; exact l2.up u3),hl⟩
theorem part12_s (C : ∀ k' ds,Up k k'→SurdV k' ds ⟨0,1 / 2,0,0⟩ 1→R k' (.agg ds)) :
 Cl k 110 #[.int .i64 1,.int .u64 2] R:=by
 intro k0 u0
 refine part12_vc ?_
 refine of_s (by decide) (by decide) fun k1 d1 u1 i1=>⟨d1,i1.seg,rfl,?_⟩
 refine word_s (x:=2) (by decide) fun k2 A l c u2 l2 hl=>⟨A,l,c,rfl,fun k3 u3=>?_⟩
 exact C k3 _ (((u0.trans u1).trans u2).trans u3) ⟨#[.bool false,.slice none 0 0],d1,#[.bool false,.slice none 0 0],#[.bool false,.slice none 0 0],A,l,c,0,1,0,0,2,rfl,by decide,by decide,by decide +kernel,IntV.nil,(i1.up u2).up u3,IntV.nil,IntV.nil,(by rw [if_neg (by decide)]; exact l2.up u3),hl⟩
theorem part02_s (C : ∀ k' ds,Up k k'→SurdV k' ds ⟨1 / 2,0,0,0⟩ 1→R k' (.agg ds)) :
 Cl k 110 #[.int .i64 0,.int .u64 2] R:=by
 intro k0 u0
 refine part02_vc ?_
 refine of_s (by decide) (by decide) fun k1 d1 u1 i1=>⟨d1,i1.seg,rfl,?_⟩
 refine word_s (x:=2) (by decide) fun k2 A l c u2 l2 hl=>⟨A,l,c,rfl,fun k3 u3=>?_⟩
 exact C k3 _ (((u0.trans u1).trans u2).trans u3) ⟨d1,#[.bool false,.slice none 0 0],#[.bool false,.slice none 0 0],#[.bool false,.slice none 0 0],A,l,c,1,0,0,0,2,rfl,by decide,by decide,by decide +kernel,(i1.up u2).up u3,IntV.nil,IntV.nil,IntV.nil,(by rw [if_neg (by decide)]; exact l2.up u3),hl⟩
theorem cast4 (h : SurdV k cs v K) (e : v = v') : SurdV k cs v' K:=e ▸ h
theorem xcos0_s (C : ∀ k' ds,Up k k'→SurdV k' ds (cosQ 0) 1→R k' (.agg ds)) :
 Cl k 71 #[.int .i64 0] R:=by
 intro k0 u0
 refine xcos_vc ⟨fun h=>absurd h (by decide +kernel),fun _=>⟨fun h=>absurd h (by decide +kernel),fun _=>⟨fun _=>?_,fun h=>absurd h (by decide +kernel)⟩⟩⟩
 refine of_s (by decide) (by decide) fun k1 d1 u1 i1=>⟨d1,i1.seg,rfl,fun k2 u2=>?_⟩
 exact C k2 _ ((u0.trans u1).trans u2) ⟨d1,#[.bool false,.slice none 0 0],#[.bool false,.slice none 0 0],#[.bool false,.slice none 0 0],none,0,0,1,0,0,0,1,rfl,by decide,by decide,by decide +kernel,i1.up u2,IntV.nil,IntV.nil,IntV.nil,(by rw [if_pos rfl]; exact LimR.nil),Nat.zero_le _⟩
theorem xcos1_s (C : ∀ k' ds,Up k k'→SurdV k' ds (cosQ 1) 1→R k' (.agg ds)) :
 Cl k 71 #[.int .i64 1] R:=by
 intro k0 u0
 refine xcos_vc ⟨fun h=>absurd h (by decide +kernel),fun _=>⟨fun h=>absurd h (by decide +kernel),fun _=>⟨fun h=>absurd h (by decide +kernel),fun _=>⟨fun _=>?_,fun h=>absurd h (by decide +kernel)⟩⟩⟩⟩
 refine part14_s fun k1 d1 u1 h1=>⟨d1,h1.seg,rfl,?_⟩
 refine part34_s fun k2 d2 u2 h2=>⟨d2,h2.seg,rfl,?_⟩
 refine SAdd_s (h1.up u2) h2 (by decide) (by decide) fun k3 d3 u3 h3=>⟨d3,h3.seg,rfl,fun k4 u4=>?_⟩
 refine C k4 d3 ((((u0.trans u1).trans u2).trans u3).trans u4) (SurdV.cut (K:=2*1+1) (cast4 (h3.up u4) (by decide +kernel)) (by decide +kernel))
theorem xcos2_s (C : ∀ k' ds,Up k k'→SurdV k' ds (cosQ 2) 1→R k' (.agg ds)) :
 Cl k 71 #[.int .i64 2] R:=by
 intro k0 u0
 refine xcos_vc ⟨fun h=>absurd h (by decide +kernel),fun _=>⟨fun h=>absurd h (by decide +kernel),fun _=>⟨fun h=>absurd h (by decide +kernel),fun _=>⟨fun h=>absurd h (by decide +kernel),fun _=>⟨fun _=>?_,fun h=>absurd h (by decide +kernel)⟩⟩⟩⟩⟩
 exact part22_s fun k1 d1 u1 h1=>⟨d1,h1.seg,rfl,fun k2 u2=>C k2 d1 ((u0.trans u1).trans u2) (h1.up u2)⟩
theorem xcos3_s (C : ∀ k' ds,Up k k'→SurdV k' ds (cosQ 3) 1→R k' (.agg ds)) :
 Cl k 71 #[.int .i64 3] R:=by
 intro k0 u0
 refine xcos_vc ⟨fun h=>absurd h (by decide +kernel),fun _=>⟨fun h=>absurd h (by decide +kernel),fun _=>⟨fun h=>absurd h (by decide +kernel),fun _=>⟨fun h=>absurd h (by decide +kernel),fun _=>⟨fun h=>absurd h (by decide +kernel),fun _=>⟨fun _=>?_,fun h=>absurd h (by decide +kernel)⟩⟩⟩⟩⟩⟩
 exact part12_s fun k1 d1 u1 h1=>⟨d1,h1.seg,rfl,fun k2 u2=>C k2 d1 ((u0.trans u1).trans u2) (h1.up u2)⟩
theorem xcos4_s (C : ∀ k' ds,Up k k'→SurdV k' ds (cosQ 4) 1→R k' (.agg ds)) :
 Cl k 71 #[.int .i64 4] R:=by
 intro k0 u0
 refine xcos_vc ⟨fun h=>absurd h (by decide +kernel),fun _=>⟨fun h=>absurd h (by decide +kernel),fun _=>⟨fun h=>absurd h (by decide +kernel),fun _=>⟨fun h=>absurd h (by decide +kernel),fun _=>⟨fun h=>absurd h (by decide +kernel),fun _=>⟨fun h=>absurd h (by decide +kernel),fun _=>⟨fun _=>?_,fun h=>absurd h (by decide +kernel)⟩⟩⟩⟩⟩⟩⟩
 exact part02_s fun k1 d1 u1 h1=>⟨d1,h1.seg,rfl,fun k2 u2=>C k2 d1 ((u0.trans u1).trans u2) (h1.up u2)⟩
theorem xcos5_s (C : ∀ k' ds,Up k k'→SurdV k' ds (cosQ 5) 1→R k' (.agg ds)) :
 Cl k 71 #[.int .i64 5] R:=by
 intro k0 u0
 refine xcos_vc ⟨fun h=>absurd h (by decide +kernel),fun _=>⟨fun h=>absurd h (by decide +kernel),fun _=>⟨fun h=>absurd h (by decide +kernel),fun _=>⟨fun h=>absurd h (by decide +kernel),fun _=>⟨fun h=>absurd h (by decide +kernel),fun _=>⟨fun h=>absurd h (by decide +kernel),fun _=>⟨fun h=>absurd h (by decide +kernel),fun _=>⟨fun _=>?_,fun h=>absurd h (by decide +kernel)⟩⟩⟩⟩⟩⟩⟩⟩
 refine part34_s fun k1 d1 u1 h1=>⟨d1,h1.seg,rfl,?_⟩
 refine part14_s fun k2 d2 u2 h2=>⟨d2,h2.seg,rfl,?_⟩
 refine SSub_s (h1.up u2) h2 (by decide) (by decide) fun k3 d3 u3 h3=>⟨d3,h3.seg,rfl,fun k4 u4=>?_⟩
 refine C k4 d3 ((((u0.trans u1).trans u2).trans u3).trans u4) (SurdV.cut (K:=2*1+1) (cast4 (h3.up u4) (by decide +kernel)) (by decide +kernel))
theorem xcos6_s (C : ∀ k' ds,Up k k'→SurdV k' ds (cosQ 6) 1→R k' (.agg ds)) :
 Cl k 71 #[.int .i64 6] R:=by
 intro k0 u0
 refine xcos_vc ⟨fun h=>absurd h (by decide +kernel),fun _=>⟨fun h=>absurd h (by decide +kernel),fun _=>⟨fun h=>absurd h (by decide +kernel),fun _=>⟨fun h=>absurd h (by decide +kernel),fun _=>⟨fun h=>absurd h (by decide +kernel),fun _=>⟨fun h=>absurd h (by decide +kernel),fun _=>⟨fun h=>absurd h (by decide +kernel),fun _=>⟨fun h=>absurd h (by decide +kernel),fun _=>?_⟩⟩⟩⟩⟩⟩⟩⟩
 intro k1 u1
 exact C k1 _ (u0.trans u1) (SurdV.nil (Nat.zero_le _))
theorem xcos7_s (C : ∀ k' ds,Up k k'→SurdV k' ds (cosQ 7) 1→R k' (.agg ds)) :
 Cl k 71 #[.int .i64 7] R:=by
 intro k0 u0
 refine xcos_vc ⟨fun h=>absurd h (by decide +kernel),fun _=>⟨fun _=>?_,fun h=>absurd h (by decide +kernel)⟩⟩
 rw [show IntKind.wrap .i64 (12 - 7) = (5 : Int) from by decide +kernel]
 refine xcos5_s fun k1 d1 u1 h1=>⟨d1,h1.seg,rfl,?_⟩
 refine SNeg_s h1 (by decide) fun k3 d3 u3 h3=>⟨d3,h3.seg,rfl,fun k4 u4=>?_⟩
 exact C k4 d3 (((u0.trans u1).trans u3).trans u4) (h3.up u4)
theorem xcos8_s (C : ∀ k' ds,Up k k'→SurdV k' ds (cosQ 8) 1→R k' (.agg ds)) :
 Cl k 71 #[.int .i64 8] R:=by
 intro k0 u0
 refine xcos_vc ⟨fun h=>absurd h (by decide +kernel),fun _=>⟨fun _=>?_,fun h=>absurd h (by decide +kernel)⟩⟩
 rw [show IntKind.wrap .i64 (12 - 8) = (4 : Int) from by decide +kernel]
 refine xcos4_s fun k1 d1 u1 h1=>⟨d1,h1.seg,rfl,?_⟩
 refine SNeg_s h1 (by decide) fun k3 d3 u3 h3=>⟨d3,h3.seg,rfl,fun k4 u4=>?_⟩
 exact C k4 d3 (((u0.trans u1).trans u3).trans u4) (h3.up u4)
theorem xcos9_s (C : ∀ k' ds,Up k k'→SurdV k' ds (cosQ 9) 1→R k' (.agg ds)) :
 Cl k 71 #[.int .i64 9] R:=by
 intro k0 u0
 refine xcos_vc ⟨fun h=>absurd h (by decide +kernel),fun _=>⟨fun _=>?_,fun h=>absurd h (by decide +kernel)⟩⟩
 rw [show IntKind.wrap .i64 (12 - 9) = (3 : Int) from by decide +kernel]
 refine xcos3_s fun k1 d1 u1 h1=>⟨d1,h1.seg,rfl,?_⟩
 refine SNeg_s h1 (by decide) fun k3 d3 u3 h3=>⟨d3,h3.seg,rfl,fun k4 u4=>?_⟩
 exact C k4 d3 (((u0.trans u1).trans u3).trans u4) (h3.up u4)
theorem xcos10_s (C : ∀ k' ds,Up k k'→SurdV k' ds (cosQ 10) 1→R k' (.agg ds)) :
 Cl k 71 #[.int .i64 10] R:=by
 intro k0 u0
 refine xcos_vc ⟨fun h=>absurd h (by decide +kernel),fun _=>⟨fun _=>?_,fun h=>absurd h (by decide +kernel)⟩⟩
 rw [show IntKind.wrap .i64 (12 - 10) = (2 : Int) from by decide +kernel]
 refine xcos2_s fun k1 d1 u1 h1=>⟨d1,h1.seg,rfl,?_⟩
 refine SNeg_s h1 (by decide) fun k3 d3 u3 h3=>⟨d3,h3.seg,rfl,fun k4 u4=>?_⟩
 exact C k4 d3 (((u0.trans u1).trans u3).trans u4) (h3.up u4)
theorem xcos11_s (C : ∀ k' ds,Up k k'→SurdV k' ds (cosQ 11) 1→R k' (.agg ds)) :
 Cl k 71 #[.int .i64 11] R:=by
 intro k0 u0
 refine xcos_vc ⟨fun h=>absurd h (by decide +kernel),fun _=>⟨fun _=>?_,fun h=>absurd h (by decide +kernel)⟩⟩
 rw [show IntKind.wrap .i64 (12 - 11) = (1 : Int) from by decide +kernel]
 refine xcos1_s fun k1 d1 u1 h1=>⟨d1,h1.seg,rfl,?_⟩
 refine SNeg_s h1 (by decide) fun k3 d3 u3 h3=>⟨d3,h3.seg,rfl,fun k4 u4=>?_⟩
 exact C k4 d3 (((u0.trans u1).trans u3).trans u4) (h3.up u4)
theorem xcos12_s (C : ∀ k' ds,Up k k'→SurdV k' ds (cosQ 12) 1→R k' (.agg ds)) :
 Cl k 71 #[.int .i64 12] R:=by
 intro k0 u0
 refine xcos_vc ⟨fun h=>absurd h (by decide +kernel),fun _=>⟨fun _=>?_,fun h=>absurd h (by decide +kernel)⟩⟩
 rw [show IntKind.wrap .i64 (12 - 12) = (0 : Int) from by decide +kernel]
 refine xcos0_s fun k1 d1 u1 h1=>⟨d1,h1.seg,rfl,?_⟩
 refine SNeg_s h1 (by decide) fun k3 d3 u3 h3=>⟨d3,h3.seg,rfl,fun k4 u4=>?_⟩
 exact C k4 d3 (((u0.trans u1).trans u3).trans u4) (h3.up u4)
theorem xcos13_s (C : ∀ k' ds,Up k k'→SurdV k' ds (cosQ 13) 1→R k' (.agg ds)) :
 Cl k 71 #[.int .i64 13] R:=by
 intro k0 u0
 refine xcos_vc ⟨fun _=>⟨fun _=>?_,fun h=>absurd h (by decide +kernel)⟩,fun h=>absurd h (by decide +kernel)⟩
 rw [show IntKind.wrap .i64 (12 - (IntKind.wrap .i64 (24 - 13))) = (1 : Int) from by decide +kernel]
 refine xcos1_s fun k1 d1 u1 h1=>⟨d1,h1.seg,rfl,?_⟩
 refine SNeg_s h1 (by decide) fun k3 d3 u3 h3=>⟨d3,h3.seg,rfl,fun k4 u4=>?_⟩
 exact C k4 d3 (((u0.trans u1).trans u3).trans u4) (h3.up u4)
theorem xcos14_s (C : ∀ k' ds,Up k k'→SurdV k' ds (cosQ 14) 1→R k' (.agg ds)) :
 Cl k 71 #[.int .i64 14] R:=by
 intro k0 u0
 refine xcos_vc ⟨fun _=>⟨fun _=>?_,fun h=>absurd h (by decide +kernel)⟩,fun h=>absurd h (by decide +kernel)⟩
 rw [show IntKind.wrap .i64 (12 - (IntKind.wrap .i64 (24 - 14))) = (2 : Int) from by decide +kernel]
 refine xcos2_s fun k1 d1 u1 h1=>⟨d1,h1.seg,rfl,?_⟩
 refine SNeg_s h1 (by decide) fun k3 d3 u3 h3=>⟨d3,h3.seg,rfl,fun k4 u4=>?_⟩
 exact C k4 d3 (((u0.trans u1).trans u3).trans u4) (h3.up u4)
theorem xcos15_s (C : ∀ k' ds,Up k k'→SurdV k' ds (cosQ 15) 1→R k' (.agg ds)) :
 Cl k 71 #[.int .i64 15] R:=by
 intro k0 u0
 refine xcos_vc ⟨fun _=>⟨fun _=>?_,fun h=>absurd h (by decide +kernel)⟩,fun h=>absurd h (by decide +kernel)⟩
 rw [show IntKind.wrap .i64 (12 - (IntKind.wrap .i64 (24 - 15))) = (3 : Int) from by decide +kernel]
 refine xcos3_s fun k1 d1 u1 h1=>⟨d1,h1.seg,rfl,?_⟩
 refine SNeg_s h1 (by decide) fun k3 d3 u3 h3=>⟨d3,h3.seg,rfl,fun k4 u4=>?_⟩
 exact C k4 d3 (((u0.trans u1).trans u3).trans u4) (h3.up u4)
theorem xcos16_s (C : ∀ k' ds,Up k k'→SurdV k' ds (cosQ 16) 1→R k' (.agg ds)) :
 Cl k 71 #[.int .i64 16] R:=by
 intro k0 u0
 refine xcos_vc ⟨fun _=>⟨fun _=>?_,fun h=>absurd h (by decide +kernel)⟩,fun h=>absurd h (by decide +kernel)⟩
 rw [show IntKind.wrap .i64 (12 - (IntKind.wrap .i64 (24 - 16))) = (4 : Int) from by decide +kernel]
 refine xcos4_s fun k1 d1 u1 h1=>⟨d1,h1.seg,rfl,?_⟩
 refine SNeg_s h1 (by decide) fun k3 d3 u3 h3=>⟨d3,h3.seg,rfl,fun k4 u4=>?_⟩
 exact C k4 d3 (((u0.trans u1).trans u3).trans u4) (h3.up u4)
theorem xcos17_s (C : ∀ k' ds,Up k k'→SurdV k' ds (cosQ 17) 1→R k' (.agg ds)) :
 Cl k 71 #[.int .i64 17] R:=by
 intro k0 u0
 refine xcos_vc ⟨fun _=>⟨fun _=>?_,fun h=>absurd h (by decide +kernel)⟩,fun h=>absurd h (by decide +kernel)⟩
 rw [show IntKind.wrap .i64 (12 - (IntKind.wrap .i64 (24 - 17))) = (5 : Int) from by decide +kernel]
 refine xcos5_s fun k1 d1 u1 h1=>⟨d1,h1.seg,rfl,?_⟩
 refine SNeg_s h1 (by decide) fun k3 d3 u3 h3=>⟨d3,h3.seg,rfl,fun k4 u4=>?_⟩
 exact C k4 d3 (((u0.trans u1).trans u3).trans u4) (h3.up u4)
theorem xcos18_s (C : ∀ k' ds,Up k k'→SurdV k' ds (cosQ 18) 1→R k' (.agg ds)) :
 Cl k 71 #[.int .i64 18] R:=by
 intro k0 u0
 refine xcos_vc ⟨fun _=>⟨fun h=>absurd h (by decide +kernel),fun _=>⟨fun h=>absurd h (by decide +kernel),fun _=>⟨fun h=>absurd h (by decide +kernel),fun _=>⟨fun h=>absurd h (by decide +kernel),fun _=>⟨fun h=>absurd h (by decide +kernel),fun _=>⟨fun h=>absurd h (by decide +kernel),fun _=>⟨fun h=>absurd h (by decide +kernel),fun _=>?_⟩⟩⟩⟩⟩⟩⟩,fun h=>absurd h (by decide +kernel)⟩
 intro k1 u1
 exact C k1 _ (u0.trans u1) (SurdV.nil (Nat.zero_le _))
theorem xcos19_s (C : ∀ k' ds,Up k k'→SurdV k' ds (cosQ 19) 1→R k' (.agg ds)) :
 Cl k 71 #[.int .i64 19] R:=by
 intro k0 u0
 refine xcos_vc ⟨fun _=>⟨fun h=>absurd h (by decide +kernel),fun _=>⟨fun h=>absurd h (by decide +kernel),fun _=>⟨fun h=>absurd h (by decide +kernel),fun _=>⟨fun h=>absurd h (by decide +kernel),fun _=>⟨fun h=>absurd h (by decide +kernel),fun _=>⟨fun h=>absurd h (by decide +kernel),fun _=>⟨fun _=>?_,fun h=>absurd h (by decide +kernel)⟩⟩⟩⟩⟩⟩⟩,fun h=>absurd h (by decide +kernel)⟩
 refine part34_s fun k1 d1 u1 h1=>⟨d1,h1.seg,rfl,?_⟩
 refine part14_s fun k2 d2 u2 h2=>⟨d2,h2.seg,rfl,?_⟩
 refine SSub_s (h1.up u2) h2 (by decide) (by decide) fun k3 d3 u3 h3=>⟨d3,h3.seg,rfl,fun k4 u4=>?_⟩
 refine C k4 d3 ((((u0.trans u1).trans u2).trans u3).trans u4) (SurdV.cut (K:=2*1+1) (cast4 (h3.up u4) (by decide +kernel)) (by decide +kernel))
theorem xcos20_s (C : ∀ k' ds,Up k k'→SurdV k' ds (cosQ 20) 1→R k' (.agg ds)) :
 Cl k 71 #[.int .i64 20] R:=by
 intro k0 u0
 refine xcos_vc ⟨fun _=>⟨fun h=>absurd h (by decide +kernel),fun _=>⟨fun h=>absurd h (by decide +kernel),fun _=>⟨fun h=>absurd h (by decide +kernel),fun _=>⟨fun h=>absurd h (by decide +kernel),fun _=>⟨fun h=>absurd h (by decide +kernel),fun _=>⟨fun _=>?_,fun h=>absurd h (by decide +kernel)⟩⟩⟩⟩⟩⟩,fun h=>absurd h (by decide +kernel)⟩
 exact part02_s fun k1 d1 u1 h1=>⟨d1,h1.seg,rfl,fun k2 u2=>C k2 d1 ((u0.trans u1).trans u2) (h1.up u2)⟩
theorem xcos21_s (C : ∀ k' ds,Up k k'→SurdV k' ds (cosQ 21) 1→R k' (.agg ds)) :
 Cl k 71 #[.int .i64 21] R:=by
 intro k0 u0
 refine xcos_vc ⟨fun _=>⟨fun h=>absurd h (by decide +kernel),fun _=>⟨fun h=>absurd h (by decide +kernel),fun _=>⟨fun h=>absurd h (by decide +kernel),fun _=>⟨fun h=>absurd h (by decide +kernel),fun _=>⟨fun _=>?_,fun h=>absurd h (by decide +kernel)⟩⟩⟩⟩⟩,fun h=>absurd h (by decide +kernel)⟩
 exact part12_s fun k1 d1 u1 h1=>⟨d1,h1.seg,rfl,fun k2 u2=>C k2 d1 ((u0.trans u1).trans u2) (h1.up u2)⟩
theorem xcos22_s (C : ∀ k' ds,Up k k'→SurdV k' ds (cosQ 22) 1→R k' (.agg ds)) :
 Cl k 71 #[.int .i64 22] R:=by
 intro k0 u0
 refine xcos_vc ⟨fun _=>⟨fun h=>absurd h (by decide +kernel),fun _=>⟨fun h=>absurd h (by decide +kernel),fun _=>⟨fun h=>absurd h (by decide +kernel),fun _=>⟨fun _=>?_,fun h=>absurd h (by decide +kernel)⟩⟩⟩⟩,fun h=>absurd h (by decide +kernel)⟩
 exact part22_s fun k1 d1 u1 h1=>⟨d1,h1.seg,rfl,fun k2 u2=>C k2 d1 ((u0.trans u1).trans u2) (h1.up u2)⟩
theorem xcos23_s (C : ∀ k' ds,Up k k'→SurdV k' ds (cosQ 23) 1→R k' (.agg ds)) :
 Cl k 71 #[.int .i64 23] R:=by
 intro k0 u0
 refine xcos_vc ⟨fun _=>⟨fun h=>absurd h (by decide +kernel),fun _=>⟨fun h=>absurd h (by decide +kernel),fun _=>⟨fun _=>?_,fun h=>absurd h (by decide +kernel)⟩⟩⟩,fun h=>absurd h (by decide +kernel)⟩
 refine part14_s fun k1 d1 u1 h1=>⟨d1,h1.seg,rfl,?_⟩
 refine part34_s fun k2 d2 u2 h2=>⟨d2,h2.seg,rfl,?_⟩
 refine SAdd_s (h1.up u2) h2 (by decide) (by decide) fun k3 d3 u3 h3=>⟨d3,h3.seg,rfl,fun k4 u4=>?_⟩
 refine C k4 d3 ((((u0.trans u1).trans u2).trans u3).trans u4) (SurdV.cut (K:=2*1+1) (cast4 (h3.up u4) (by decide +kernel)) (by decide +kernel))
theorem xcos_s {n : Nat} (hn : n < 24) (C : ∀ k' ds,Up k k'→SurdV k' ds (cosQ n) 1→R k' (.agg ds)) :
 Cl k 71 #[.int .i64 (n : Int)] R:=by
 match n,hn with
 | 0,_=>exact xcos0_s C
 | 1,_=>exact xcos1_s C
 | 2,_=>exact xcos2_s C
 | 3,_=>exact xcos3_s C
 | 4,_=>exact xcos4_s C
 | 5,_=>exact xcos5_s C
 | 6,_=>exact xcos6_s C
 | 7,_=>exact xcos7_s C
 | 8,_=>exact xcos8_s C
 | 9,_=>exact xcos9_s C
 | 10,_=>exact xcos10_s C
 | 11,_=>exact xcos11_s C
 | 12,_=>exact xcos12_s C
 | 13,_=>exact xcos13_s C
 | 14,_=>exact xcos14_s C
 | 15,_=>exact xcos15_s C
 | 16,_=>exact xcos16_s C
 | 17,_=>exact xcos17_s C
 | 18,_=>exact xcos18_s C
 | 19,_=>exact xcos19_s C
 | 20,_=>exact xcos20_s C
 | 21,_=>exact xcos21_s C
 | 22,_=>exact xcos22_s C
 | 23,_=>exact xcos23_s C
 | n+24,h=>exact absurd h (by omega)
theorem plc_eq {n : Int} : Int.tmod (IntKind.wrap .i64 ((Int.tmod n 24)+24)) 24 = (plc n : Int):=by
 have h : Int.tmod n 24 = n % 24∨Int.tmod n 24 = n % 24 - 24:=by
  rw [Int.tmod_eq_emod]
  split
  ·left; omega
  ·right; rfl
 have hw : IntKind.wrap .i64 ((Int.tmod n 24)+24) = Int.tmod n 24+24:=by rw [IntKind.wrap_i64]; omega
 rw [hw,Int.tmod_eq_emod_of_nonneg (by omega)]
 unfold plc
 omega
theorem place_s {n : Int} (C : ∀ k',Up k k'→R k' (.int .i64 (plc n : Int))) :
 Cl k 70 #[.int .i64 n] R:=by
 intro k0 u0
 refine place_vc fun k1 u1=>?_
 rw [plc_eq]
 exact C k1 (u0.trans u1)
theorem plc_back {m : Nat} (h : m < 24) : plc (IntKind.wrap .i64 ((m : Int) - 6)) = (m+18) % 24:=by
 have hw : IntKind.wrap .i64 ((m : Int) - 6) = (m : Int) - 6:=by rw [IntKind.wrap_i64]; omega
 rw [hw]
 unfold plc
 omega
theorem xturn_s {n : Int} (C : ∀ k' ds,Up k k'→WaveV k' ds (turnW (plc n)) 1→R k' (.agg ds)) :
 Cl k 30 #[.int .i64 n] R:=by
 intro k0 u0
 have hl:=plc_lt n
 refine xTurn_vc (place_s fun k1 u1=>⟨_,rfl,?_⟩)
 refine xcos_s hl fun k2 d2 u2 h2=>⟨d2,h2.seg,rfl,?_⟩
 have e:=plc_back hl
 refine place_s fun k3 u3=>⟨_,rfl,?_⟩
 rw [e]
 refine xcos_s (Nat.mod_lt _ (by decide)) fun k4 d4 u4 h4=>⟨d4,h4.seg,rfl,fun k5 u5=>?_⟩
 exact C k5 _ (((((u0.trans u1).trans u2).trans u3).trans u4).trans u5) ⟨d2,d4,rfl,((h2.up u3).up u4).up u5,h4.up u5⟩
end
end Go.Proofs.YtmilhgkacmofmaaGreat

namespace Go.Proofs.YtmilhgkacmofmaaGreat
open Go.RowKit
open Value (agg slice int bool tuple)
open Sy (Up Sees CallsG Seg execFn_use)
set_option maxRecDepth 100000
variable {k : World} {R : World→Value→Prop}
theorem sOfQuad_vc {n0 n1 n2 n3 n4 n5 n6 n7 : Int}
 (h : Cl k 12 #[agg #[int .i64 n0,int .i64 n1]] fun k1 r0=>Gt 3 r0 fun cs8 =>
 Cl k1 12 #[agg #[int .i64 n2,int .i64 n3]] fun k3 r2=>Gt 3 r2 fun cs9 =>
 Cl k3 12 #[agg #[int .i64 n4,int .i64 n5]] fun k5 r4=>Gt 3 r4 fun cs10 =>
 Cl k5 12 #[agg #[int .i64 n6,int .i64 n7]] fun k7 r6=>Gt 3 r6 fun cs11 =>
 ∀ k8,Up k7 k8→R k8 (agg (cs8.toList ++ (cs9.toList ++ (cs10.toList ++ (cs11.toList ++ ([]))))).toArray)) :
  CallsG Tryz.prog 15 #[agg #[int .i64 n0,int .i64 n1,int .i64 n2,int .i64 n3,int .i64 n4,int .i64 n5,int .i64 n6,int .i64 n7]] k R :=
  execFn_use (cfg:={ opq:=[40] }) (args:=[.agg [.var 0,.var 1,.var 2,.var 3,.var 4,.var 5,.var 6,.var 7]]) (vals:=[int .i64 n0,int .i64 n1,int .i64 n2,int .i64 n3,int .i64 n4,int .i64 n5,int .i64 n6,int .i64 n7]) (kinds:=[.int .i64,.int .i64,.int .i64,.int .i64,.int .i64,.int .i64,.int .i64,.int .i64]) (by kernel_rfl) ⟨⟨_,rfl⟩,⟨⟨_,rfl⟩,⟨⟨_,rfl⟩,⟨⟨_,rfl⟩,⟨⟨_,rfl⟩,⟨⟨_,rfl⟩,⟨⟨_,rfl⟩,⟨⟨_,rfl⟩,trivial⟩⟩⟩⟩⟩⟩⟩⟩ (by kernel_rfl) (by kernel_rfl) h
theorem wOfWave_vc {n0 n1 n2 n3 n4 n5 n6 n7 n8 n9 n10 n11 n12 n13 n14 n15 : Int}
 (h : Cl k 15 #[agg #[int .i64 n0,int .i64 n1,int .i64 n2,int .i64 n3,int .i64 n4,int .i64 n5,int .i64 n6,int .i64 n7]] fun k1 r0=>Gt 12 r0 fun cs16 =>
 Cl k1 15 #[agg #[int .i64 n8,int .i64 n9,int .i64 n10,int .i64 n11,int .i64 n12,int .i64 n13,int .i64 n14,int .i64 n15]] fun k3 r2=>Gt 12 r2 fun cs17 =>
 ∀ k4,Up k3 k4→R k4 (agg (cs16.toList ++ (cs17.toList ++ ([]))).toArray)) :
  CallsG Tryz.prog 6 #[agg #[int .i64 n0,int .i64 n1,int .i64 n2,int .i64 n3,int .i64 n4,int .i64 n5,int .i64 n6,int .i64 n7,int .i64 n8,int .i64 n9,int .i64 n10,int .i64 n11,int .i64 n12,int .i64 n13,int .i64 n14,int .i64 n15]] k R :=
  execFn_use (cfg:={ opq:=[42] }) (args:=[.agg [.var 0,.var 1,.var 2,.var 3,.var 4,.var 5,.var 6,.var 7,.var 8,.var 9,.var 10,.var 11,.var 12,.var 13,.var 14,.var 15]]) (vals:=[int .i64 n0,int .i64 n1,int .i64 n2,int .i64 n3,int .i64 n4,int .i64 n5,int .i64 n6,int .i64 n7,int .i64 n8,int .i64 n9,int .i64 n10,int .i64 n11,int .i64 n12,int .i64 n13,int .i64 n14,int .i64 n15]) (kinds:=[.int .i64,.int .i64,.int .i64,.int .i64,.int .i64,.int .i64,.int .i64,.int .i64,.int .i64,.int .i64,.int .i64,.int .i64,.int .i64,.int .i64,.int .i64,.int .i64]) (by kernel_rfl) ⟨⟨_,rfl⟩,⟨⟨_,rfl⟩,⟨⟨_,rfl⟩,⟨⟨_,rfl⟩,⟨⟨_,rfl⟩,⟨⟨_,rfl⟩,⟨⟨_,rfl⟩,⟨⟨_,rfl⟩,⟨⟨_,rfl⟩,⟨⟨_,rfl⟩,⟨⟨_,rfl⟩,⟨⟨_,rfl⟩,⟨⟨_,rfl⟩,⟨⟨_,rfl⟩,⟨⟨_,rfl⟩,⟨⟨_,rfl⟩,trivial⟩⟩⟩⟩⟩⟩⟩⟩⟩⟩⟩⟩⟩⟩⟩⟩ (by kernel_rfl) (by kernel_rfl) h
theorem sReal_vc {cs0 : Array Value} (hcs0 : Seg 3 cs0)
 (h : Cl k 45 #[int .i64 0] fun k1 r0=>Gt 3 r0 fun cs1 =>
 Cl k1 45 #[int .i64 0] fun k3 r2=>Gt 3 r2 fun cs2 =>
 Cl k3 45 #[int .i64 0] fun k5 r4=>Gt 3 r4 fun cs3 =>
 ∀ k6,Up k5 k6→R k6 (agg (cs0.toList ++ (cs1.toList ++ (cs2.toList ++ (cs3.toList ++ ([]))))).toArray)) :
  CallsG Tryz.prog 44 #[agg cs0] k R :=
  execFn_use (cfg:={ opq:=[40] }) (args:=[.agg [.seg 0 3]]) (vals:=[agg cs0]) (kinds:=[.seg 3]) (by kernel_rfl) ⟨⟨cs0,rfl,hcs0⟩,trivial⟩ (by kernel_rfl) (by kernel_rfl) h
theorem sNeg_vc {cs0 cs1 cs2 cs3 : Array Value} (hcs0 : Seg 3 cs0) (hcs1 : Seg 3 cs1) (hcs2 : Seg 3 cs2) (hcs3 : Seg 3 cs3)
 (h : Cl k 132 #[agg cs0] fun k1 r0=>Gt 3 r0 fun cs4 =>
 Cl k1 132 #[agg cs1] fun k3 r2=>Gt 3 r2 fun cs5 =>
 Cl k3 132 #[agg cs2] fun k5 r4=>Gt 3 r4 fun cs6 =>
 Cl k5 132 #[agg cs3] fun k7 r6=>Gt 3 r6 fun cs7 =>
 ∀ k8,Up k7 k8→R k8 (agg (cs4.toList ++ (cs5.toList ++ (cs6.toList ++ (cs7.toList ++ ([]))))).toArray)) :
  CallsG Tryz.prog 103 #[agg (cs0.toList ++ (cs1.toList ++ (cs2.toList ++ (cs3.toList ++ ([]))))).toArray] k R :=
  execFn_use (cfg:={ opq:=[40] }) (args:=[.agg [.seg 0 3,.seg 1 3,.seg 2 3,.seg 3 3]]) (vals:=[agg cs0,agg cs1,agg cs2,agg cs3]) (kinds:=[.seg 3,.seg 3,.seg 3,.seg 3]) (by kernel_rfl) ⟨⟨cs0,rfl,hcs0⟩,⟨⟨cs1,rfl,hcs1⟩,⟨⟨cs2,rfl,hcs2⟩,⟨⟨cs3,rfl,hcs3⟩,trivial⟩⟩⟩⟩ (by kernel_rfl) (by kernel_rfl) h
theorem sAdd_vc {cs0 cs1 cs2 cs3 cs4 cs5 cs6 cs7 : Array Value} (hcs0 : Seg 3 cs0) (hcs1 : Seg 3 cs1) (hcs2 : Seg 3 cs2) (hcs3 : Seg 3 cs3) (hcs4 : Seg 3 cs4) (hcs5 : Seg 3 cs5) (hcs6 : Seg 3 cs6) (hcs7 : Seg 3 cs7)
 (h : Cl k 101 #[agg cs0,agg cs4] fun k1 r0=>Gt 3 r0 fun cs8 =>
 Cl k1 101 #[agg cs1,agg cs5] fun k3 r2=>Gt 3 r2 fun cs9 =>
 Cl k3 101 #[agg cs2,agg cs6] fun k5 r4=>Gt 3 r4 fun cs10 =>
 Cl k5 101 #[agg cs3,agg cs7] fun k7 r6=>Gt 3 r6 fun cs11 =>
 ∀ k8,Up k7 k8→R k8 (agg (cs8.toList ++ (cs9.toList ++ (cs10.toList ++ (cs11.toList ++ ([]))))).toArray)) :
  CallsG Tryz.prog 56 #[agg (cs0.toList ++ (cs1.toList ++ (cs2.toList ++ (cs3.toList ++ ([]))))).toArray,agg (cs4.toList ++ (cs5.toList ++ (cs6.toList ++ (cs7.toList ++ ([]))))).toArray] k R :=
  execFn_use (cfg:={ opq:=[40] }) (args:=[.agg [.seg 0 3,.seg 1 3,.seg 2 3,.seg 3 3],.agg [.seg 4 3,.seg 5 3,.seg 6 3,.seg 7 3]]) (vals:=[agg cs0,agg cs1,agg cs2,agg cs3,agg cs4,agg cs5,agg cs6,agg cs7]) (kinds:=[.seg 3,.seg 3,.seg 3,.seg 3,.seg 3,.seg 3,.seg 3,.seg 3]) (by kernel_rfl) ⟨⟨cs0,rfl,hcs0⟩,⟨⟨cs1,rfl,hcs1⟩,⟨⟨cs2,rfl,hcs2⟩,⟨⟨cs3,rfl,hcs3⟩,⟨⟨cs4,rfl,hcs4⟩,⟨⟨cs5,rfl,hcs5⟩,⟨⟨cs6,rfl,hcs6⟩,⟨⟨cs7,rfl,hcs7⟩,trivial⟩⟩⟩⟩⟩⟩⟩⟩ (by kernel_rfl) (by kernel_rfl) h
theorem sSub_vc {cs0 cs1 : Array Value} (hcs0 : Seg 12 cs0) (hcs1 : Seg 12 cs1)
 (h : Cl k 103 #[agg cs1] fun k1 r0=>Gt 12 r0 fun cs2 =>
 Cl k1 56 #[agg cs0,agg cs2] fun k3 r2=>Gt 12 r2 fun cs3 =>
 ∀ k4,Up k3 k4→R k4 (agg cs3)) :
  CallsG Tryz.prog 79 #[agg cs0,agg cs1] k R :=
  execFn_use (cfg:={ opq:=[42] }) (args:=[.agg [.seg 0 12],.agg [.seg 1 12]]) (vals:=[agg cs0,agg cs1]) (kinds:=[.seg 12,.seg 12]) (by kernel_rfl) ⟨⟨cs0,rfl,hcs0⟩,⟨⟨cs1,rfl,hcs1⟩,trivial⟩⟩ (by kernel_rfl) (by kernel_rfl) h
theorem sMul_vc {cs0 cs1 cs2 cs3 cs4 cs5 cs6 cs7 : Array Value} (hcs0 : Seg 3 cs0) (hcs1 : Seg 3 cs1) (hcs2 : Seg 3 cs2) (hcs3 : Seg 3 cs3) (hcs4 : Seg 3 cs4) (hcs5 : Seg 3 cs5) (hcs6 : Seg 3 cs6) (hcs7 : Seg 3 cs7)
 (h : Cl k 45 #[int .i64 0] fun k1 r0=>Gt 3 r0 fun cs8 =>
 Cl k1 44 #[agg cs8] fun k3 r2=>∃ cs9,Seg 3 cs9∧∃ cs10,Seg 3 cs10∧∃ cs11,Seg 3 cs11∧∃ cs12,Seg 3 cs12∧some (agg (cs9.toList ++ (cs10.toList ++ (cs11.toList ++ (cs12.toList ++ ([]))))).toArray) = some r2 ∧
 Cl k3 102 #[agg cs0,agg cs4] fun k5 r4=>Gt 3 r4 fun cs13 =>
 Cl k5 101 #[agg cs9,agg cs13] fun k7 r6=>Gt 3 r6 fun cs14 =>
 Cl k7 102 #[agg cs0,agg cs5] fun k9 r8=>Gt 3 r8 fun cs15 =>
 Cl k9 101 #[agg cs10,agg cs15] fun k11 r10=>Gt 3 r10 fun cs16 =>
 Cl k11 102 #[agg cs0,agg cs6] fun k13 r12=>Gt 3 r12 fun cs17 =>
 Cl k13 101 #[agg cs11,agg cs17] fun k15 r14=>Gt 3 r14 fun cs18 =>
 Cl k15 102 #[agg cs0,agg cs7] fun k17 r16=>Gt 3 r16 fun cs19 =>
 Cl k17 101 #[agg cs12,agg cs19] fun k19 r18=>Gt 3 r18 fun cs20 =>
 Cl k19 102 #[agg cs1,agg cs4] fun k21 r20=>Gt 3 r20 fun cs21 =>
 Cl k21 101 #[agg cs16,agg cs21] fun k23 r22=>Gt 3 r22 fun cs22 =>
 Cl k23 102 #[agg cs1,agg cs5] fun k25 r24=>Gt 3 r24 fun cs23 =>
 Cl k25 45 #[int .i64 2] fun k27 r26=>Gt 3 r26 fun cs24 =>
 Cl k27 102 #[agg cs23,agg cs24] fun k29 r28=>Gt 3 r28 fun cs25 =>
 Cl k29 101 #[agg cs14,agg cs25] fun k31 r30=>Gt 3 r30 fun cs26 =>
 Cl k31 102 #[agg cs1,agg cs6] fun k33 r32=>Gt 3 r32 fun cs27 =>
 Cl k33 101 #[agg cs20,agg cs27] fun k35 r34=>Gt 3 r34 fun cs28 =>
 Cl k35 102 #[agg cs1,agg cs7] fun k37 r36=>Gt 3 r36 fun cs29 =>
 Cl k37 45 #[int .i64 2] fun k39 r38=>Gt 3 r38 fun cs30 =>
 Cl k39 102 #[agg cs29,agg cs30] fun k41 r40=>Gt 3 r40 fun cs31 =>
 Cl k41 101 #[agg cs18,agg cs31] fun k43 r42=>Gt 3 r42 fun cs32 =>
 Cl k43 102 #[agg cs2,agg cs4] fun k45 r44=>Gt 3 r44 fun cs33 =>
 Cl k45 101 #[agg cs32,agg cs33] fun k47 r46=>Gt 3 r46 fun cs34 =>
 Cl k47 102 #[agg cs2,agg cs5] fun k49 r48=>Gt 3 r48 fun cs35 =>
 Cl k49 101 #[agg cs28,agg cs35] fun k51 r50=>Gt 3 r50 fun cs36 =>
 Cl k51 102 #[agg cs2,agg cs6] fun k53 r52=>Gt 3 r52 fun cs37 =>
 Cl k53 45 #[int .i64 3] fun k55 r54=>Gt 3 r54 fun cs38 =>
 Cl k55 102 #[agg cs37,agg cs38] fun k57 r56=>Gt 3 r56 fun cs39 =>
 Cl k57 101 #[agg cs26,agg cs39] fun k59 r58=>Gt 3 r58 fun cs40 =>
 Cl k59 102 #[agg cs2,agg cs7] fun k61 r60=>Gt 3 r60 fun cs41 =>
 Cl k61 45 #[int .i64 3] fun k63 r62=>Gt 3 r62 fun cs42 =>
 Cl k63 102 #[agg cs41,agg cs42] fun k65 r64=>Gt 3 r64 fun cs43 =>
 Cl k65 101 #[agg cs22,agg cs43] fun k67 r66=>Gt 3 r66 fun cs44 =>
 Cl k67 102 #[agg cs3,agg cs4] fun k69 r68=>Gt 3 r68 fun cs45 =>
 Cl k69 101 #[agg cs36,agg cs45] fun k71 r70=>Gt 3 r70 fun cs46 =>
 Cl k71 102 #[agg cs3,agg cs5] fun k73 r72=>Gt 3 r72 fun cs47 =>
 Cl k73 45 #[int .i64 2] fun k75 r74=>Gt 3 r74 fun cs48 =>
 Cl k75 102 #[agg cs47,agg cs48] fun k77 r76=>Gt 3 r76 fun cs49 =>
 Cl k77 101 #[agg cs34,agg cs49] fun k79 r78=>Gt 3 r78 fun cs50 =>
 Cl k79 102 #[agg cs3,agg cs6] fun k81 r80=>Gt 3 r80 fun cs51 =>
 Cl k81 45 #[int .i64 3] fun k83 r82=>Gt 3 r82 fun cs52 =>
 Cl k83 102 #[agg cs51,agg cs52] fun k85 r84=>Gt 3 r84 fun cs53 =>
 Cl k85 101 #[agg cs44,agg cs53] fun k87 r86=>Gt 3 r86 fun cs54 =>
 Cl k87 102 #[agg cs3,agg cs7] fun k89 r88=>Gt 3 r88 fun cs55 =>
 Cl k89 45 #[int .i64 2] fun k91 r90=>Gt 3 r90 fun cs56 =>
 Cl k91 102 #[agg cs55,agg cs56] fun k93 r92=>Gt 3 r92 fun cs57 =>
 Cl k93 45 #[int .i64 3] fun k95 r94=>Gt 3 r94 fun cs58 =>
 Cl k95 102 #[agg cs57,agg cs58] fun k97 r96=>Gt 3 r96 fun cs59 =>
 Cl k97 101 #[agg cs40,agg cs59] fun k99 r98=>Gt 3 r98 fun cs60 =>
 ∀ k100,Up k99 k100→R k100 (agg (cs60.toList ++ (cs54.toList ++ (cs50.toList ++ (cs46.toList ++ ([]))))).toArray)) :
  CallsG Tryz.prog 57 #[agg (cs0.toList ++ (cs1.toList ++ (cs2.toList ++ (cs3.toList ++ ([]))))).toArray,agg (cs4.toList ++ (cs5.toList ++ (cs6.toList ++ (cs7.toList ++ ([]))))).toArray] k R :=
  execFn_use (cfg:={ opq:=[40] }) (args:=[.agg [.seg 0 3,.seg 1 3,.seg 2 3,.seg 3 3],.agg [.seg 4 3,.seg 5 3,.seg 6 3,.seg 7 3]]) (vals:=[agg cs0,agg cs1,agg cs2,agg cs3,agg cs4,agg cs5,agg cs6,agg cs7]) (kinds:=[.seg 3,.seg 3,.seg 3,.seg 3,.seg 3,.seg 3,.seg 3,.seg 3]) (by kernel_rfl) ⟨⟨cs0,rfl,hcs0⟩,⟨⟨cs1,rfl,hcs1⟩,⟨⟨cs2,rfl,hcs2⟩,⟨⟨cs3,rfl,hcs3⟩,⟨⟨cs4,rfl,hcs4⟩,⟨⟨cs5,rfl,hcs5⟩,⟨⟨cs6,rfl,hcs6⟩,⟨⟨cs7,rfl,hcs7⟩,trivial⟩⟩⟩⟩⟩⟩⟩⟩ (by kernel_rfl) (by kernel_rfl) h
theorem sZero_vc {cs0 cs1 cs2 cs3 : Array Value} (hcs0 : Seg 3 cs0) (hcs1 : Seg 3 cs1) (hcs2 : Seg 3 cs2) (hcs3 : Seg 3 cs3)
 (h : Cl k 82 #[agg cs0] fun k1 r0=>∃ b4,some (bool b4) = some r0 ∧
 (b4 = true →
 (Cl k1 82 #[agg cs1] fun k3 r2=>∃ b5,some (bool b5) = some r2 ∧
 (b5 = true →
 (Cl k3 82 #[agg cs2] fun k5 r4=>∃ b6,some (bool b6) = some r4 ∧
 (b6 = true →
 (Cl k5 82 #[agg cs3] fun k7 r6=>∃ b7,some (bool b7) = some r6 ∧
 ∀ k8,Up k7 k8→R k8 (bool b7))) ∧
 (b6 = false →
 (∀ k9,Up k5 k9→R k9 (bool false))))) ∧
 (b5 = false →
 (∀ k10,Up k3 k10→R k10 (bool false))))) ∧
 (b4 = false →
 (∀ k11,Up k1 k11→R k11 (bool false)))) :
   CallsG Tryz.prog 42 #[agg (cs0.toList ++ (cs1.toList ++ (cs2.toList ++ (cs3.toList ++ ([]))))).toArray] k R :=
  execFn_use (cfg:={ opq:=[40] }) (args:=[.agg [.seg 0 3,.seg 1 3,.seg 2 3,.seg 3 3]]) (vals:=[agg cs0,agg cs1,agg cs2,agg cs3]) (kinds:=[.seg 3,.seg 3,.seg 3,.seg 3]) (by kernel_rfl) ⟨⟨cs0,rfl,hcs0⟩,⟨⟨cs1,rfl,hcs1⟩,⟨⟨cs2,rfl,hcs2⟩,⟨⟨cs3,rfl,hcs3⟩,trivial⟩⟩⟩⟩ (by kernel_rfl) (by kernel_rfl) h
theorem sSame_vc {cs0 cs1 : Array Value} (hcs0 : Seg 12 cs0) (hcs1 : Seg 12 cs1)
 (h : Cl k 79 #[agg cs0,agg cs1] fun k1 r0=>Gt 12 r0 fun cs2 =>
 Cl k1 42 #[agg cs2] fun k3 r2=>∃ b3,some (bool b3) = some r2 ∧
 ∀ k4,Up k3 k4→R k4 (bool b3)) :
  CallsG Tryz.prog 43 #[agg cs0,agg cs1] k R :=
  execFn_use (cfg:={ opq:=[42] }) (args:=[.agg [.seg 0 12],.agg [.seg 1 12]]) (vals:=[agg cs0,agg cs1]) (kinds:=[.seg 12,.seg 12]) (by kernel_rfl) ⟨⟨cs0,rfl,hcs0⟩,⟨⟨cs1,rfl,hcs1⟩,trivial⟩⟩ (by kernel_rfl) (by kernel_rfl) h
theorem rwAdd_vc {cs0 cs1 cs2 cs3 : Array Value} (hcs0 : Seg 12 cs0) (hcs1 : Seg 12 cs1) (hcs2 : Seg 12 cs2) (hcs3 : Seg 12 cs3)
 (h : Cl k 56 #[agg cs0,agg cs2] fun k1 r0=>Gt 12 r0 fun cs4 =>
 Cl k1 56 #[agg cs1,agg cs3] fun k3 r2=>Gt 12 r2 fun cs5 =>
 ∀ k4,Up k3 k4→R k4 (agg (cs4.toList ++ (cs5.toList ++ ([]))).toArray)) :
  CallsG Tryz.prog 19 #[agg (cs0.toList ++ (cs1.toList ++ ([]))).toArray,agg (cs2.toList ++ (cs3.toList ++ ([]))).toArray] k R :=
  execFn_use (cfg:={ opq:=[42] }) (args:=[.agg [.seg 0 12,.seg 1 12],.agg [.seg 2 12,.seg 3 12]]) (vals:=[agg cs0,agg cs1,agg cs2,agg cs3]) (kinds:=[.seg 12,.seg 12,.seg 12,.seg 12]) (by kernel_rfl) ⟨⟨cs0,rfl,hcs0⟩,⟨⟨cs1,rfl,hcs1⟩,⟨⟨cs2,rfl,hcs2⟩,⟨⟨cs3,rfl,hcs3⟩,trivial⟩⟩⟩⟩ (by kernel_rfl) (by kernel_rfl) h
theorem rwSub_vc {cs0 cs1 cs2 cs3 : Array Value} (hcs0 : Seg 12 cs0) (hcs1 : Seg 12 cs1) (hcs2 : Seg 12 cs2) (hcs3 : Seg 12 cs3)
 (h : Cl k 79 #[agg cs0,agg cs2] fun k1 r0=>Gt 12 r0 fun cs4 =>
 Cl k1 79 #[agg cs1,agg cs3] fun k3 r2=>Gt 12 r2 fun cs5 =>
 ∀ k4,Up k3 k4→R k4 (agg (cs4.toList ++ (cs5.toList ++ ([]))).toArray)) :
  CallsG Tryz.prog 78 #[agg (cs0.toList ++ (cs1.toList ++ ([]))).toArray,agg (cs2.toList ++ (cs3.toList ++ ([]))).toArray] k R :=
  execFn_use (cfg:={ opq:=[42] }) (args:=[.agg [.seg 0 12,.seg 1 12],.agg [.seg 2 12,.seg 3 12]]) (vals:=[agg cs0,agg cs1,agg cs2,agg cs3]) (kinds:=[.seg 12,.seg 12,.seg 12,.seg 12]) (by kernel_rfl) ⟨⟨cs0,rfl,hcs0⟩,⟨⟨cs1,rfl,hcs1⟩,⟨⟨cs2,rfl,hcs2⟩,⟨⟨cs3,rfl,hcs3⟩,trivial⟩⟩⟩⟩ (by kernel_rfl) (by kernel_rfl) h
theorem rwMul_vc {cs0 cs1 cs2 cs3 : Array Value} (hcs0 : Seg 12 cs0) (hcs1 : Seg 12 cs1) (hcs2 : Seg 12 cs2) (hcs3 : Seg 12 cs3)
 (h : Cl k 57 #[agg cs0,agg cs2] fun k1 r0=>Gt 12 r0 fun cs4 =>
 Cl k1 57 #[agg cs1,agg cs3] fun k3 r2=>Gt 12 r2 fun cs5 =>
 Cl k3 79 #[agg cs4,agg cs5] fun k5 r4=>Gt 12 r4 fun cs6 =>
 Cl k5 57 #[agg cs0,agg cs3] fun k7 r6=>Gt 12 r6 fun cs7 =>
 Cl k7 57 #[agg cs1,agg cs2] fun k9 r8=>Gt 12 r8 fun cs8 =>
 Cl k9 56 #[agg cs7,agg cs8] fun k11 r10=>Gt 12 r10 fun cs9 =>
 ∀ k12,Up k11 k12→R k12 (agg (cs6.toList ++ (cs9.toList ++ ([]))).toArray)) :
  CallsG Tryz.prog 80 #[agg (cs0.toList ++ (cs1.toList ++ ([]))).toArray,agg (cs2.toList ++ (cs3.toList ++ ([]))).toArray] k R :=
  execFn_use (cfg:={ opq:=[42] }) (args:=[.agg [.seg 0 12,.seg 1 12],.agg [.seg 2 12,.seg 3 12]]) (vals:=[agg cs0,agg cs1,agg cs2,agg cs3]) (kinds:=[.seg 12,.seg 12,.seg 12,.seg 12]) (by kernel_rfl) ⟨⟨cs0,rfl,hcs0⟩,⟨⟨cs1,rfl,hcs1⟩,⟨⟨cs2,rfl,hcs2⟩,⟨⟨cs3,rfl,hcs3⟩,trivial⟩⟩⟩⟩ (by kernel_rfl) (by kernel_rfl) h
theorem rwConj_vc {cs0 cs1 : Array Value} (hcs0 : Seg 12 cs0) (hcs1 : Seg 12 cs1)
 (h : Cl k 103 #[agg cs1] fun k1 r0=>Gt 12 r0 fun cs2 =>
 ∀ k2,Up k1 k2→R k2 (agg (cs0.toList ++ (cs2.toList ++ ([]))).toArray)) :
  CallsG Tryz.prog 81 #[agg (cs0.toList ++ (cs1.toList ++ ([]))).toArray] k R :=
  execFn_use (cfg:={ opq:=[42] }) (args:=[.agg [.seg 0 12,.seg 1 12]]) (vals:=[agg cs0,agg cs1]) (kinds:=[.seg 12,.seg 12]) (by kernel_rfl) ⟨⟨cs0,rfl,hcs0⟩,⟨⟨cs1,rfl,hcs1⟩,trivial⟩⟩ (by kernel_rfl) (by kernel_rfl) h
theorem rwReal_vc {cs0 : Array Value} (hcs0 : Seg 3 cs0)
 (h : Cl k 44 #[agg cs0] fun k1 r0=>Gt 12 r0 fun cs1 =>
 Cl k1 45 #[int .i64 0] fun k3 r2=>Gt 3 r2 fun cs2 =>
 Cl k3 44 #[agg cs2] fun k5 r4=>Gt 12 r4 fun cs3 =>
 ∀ k6,Up k5 k6→R k6 (agg (cs1.toList ++ (cs3.toList ++ ([]))).toArray)) :
  CallsG Tryz.prog 55 #[agg cs0] k R :=
  execFn_use (cfg:={ opq:=[40,42] }) (args:=[.agg [.seg 0 3]]) (vals:=[agg cs0]) (kinds:=[.seg 3]) (by kernel_rfl) ⟨⟨cs0,rfl,hcs0⟩,trivial⟩ (by kernel_rfl) (by kernel_rfl) h
theorem rwZero_vc {cs0 cs1 : Array Value} (hcs0 : Seg 12 cs0) (hcs1 : Seg 12 cs1)
 (h : Cl k 42 #[agg cs0] fun k1 r0=>∃ b2,some (bool b2) = some r0 ∧
 (b2 = true →
 (Cl k1 42 #[agg cs1] fun k3 r2=>∃ b3,some (bool b3) = some r2 ∧
 ∀ k4,Up k3 k4→R k4 (bool b3))) ∧
 (b2 = false →
 (∀ k5,Up k1 k5→R k5 (bool false)))) :
   CallsG Tryz.prog 77 #[agg (cs0.toList ++ (cs1.toList ++ ([]))).toArray] k R :=
  execFn_use (cfg:={ opq:=[42] }) (args:=[.agg [.seg 0 12,.seg 1 12]]) (vals:=[agg cs0,agg cs1]) (kinds:=[.seg 12,.seg 12]) (by kernel_rfl) ⟨⟨cs0,rfl,hcs0⟩,⟨⟨cs1,rfl,hcs1⟩,trivial⟩⟩ (by kernel_rfl) (by kernel_rfl) h
theorem rwSame_vc {cs0 cs1 cs2 cs3 : Array Value} (hcs0 : Seg 12 cs0) (hcs1 : Seg 12 cs1) (hcs2 : Seg 12 cs2) (hcs3 : Seg 12 cs3)
 (h : Cl k 78 #[agg (cs0.toList ++ (cs1.toList ++ ([]))).toArray,agg (cs2.toList ++ (cs3.toList ++ ([]))).toArray] fun k1 r0=>∃ cs4,Seg 12 cs4∧∃ cs5,Seg 12 cs5∧some (agg (cs4.toList ++ (cs5.toList ++ ([]))).toArray) = some r0 ∧
 Cl k1 77 #[agg (cs4.toList ++ (cs5.toList ++ ([]))).toArray] fun k3 r2=>∃ b6,some (bool b6) = some r2 ∧
 ∀ k4,Up k3 k4→R k4 (bool b6)) :
  CallsG Tryz.prog 38 #[agg (cs0.toList ++ (cs1.toList ++ ([]))).toArray,agg (cs2.toList ++ (cs3.toList ++ ([]))).toArray] k R :=
  execFn_use (cfg:={ opq:=[42] }) (args:=[.agg [.seg 0 12,.seg 1 12],.agg [.seg 2 12,.seg 3 12]]) (vals:=[agg cs0,agg cs1,agg cs2,agg cs3]) (kinds:=[.seg 12,.seg 12,.seg 12,.seg 12]) (by kernel_rfl) ⟨⟨cs0,rfl,hcs0⟩,⟨⟨cs1,rfl,hcs1⟩,⟨⟨cs2,rfl,hcs2⟩,⟨⟨cs3,rfl,hcs3⟩,trivial⟩⟩⟩⟩ (by kernel_rfl) (by kernel_rfl) h
end Go.Proofs.YtmilhgkacmofmaaGreat

namespace Go.Proofs.YtmilhgkacmofmaaGreat.W32
open Go.RowKit Num
open Sy (Up Sees CallsG Seg)
def cat4 (c0 c1 c2 c3 : Array Value) : Array Value:=(c0.toList ++ (c1.toList ++ (c2.toList ++ (c3.toList ++ ([]))))).toArray
def SQ (k : World) (cs : Array Value) (v : Q4) (K : Nat) : Prop:=∃ c0 c1 c2 c3 : Array Value,cs = cat4 c0 c1 c2 c3∧QV k c0 v.a K∧QV k c1 v.b K∧QV k c2 v.c K∧QV k c3 v.d K
section
variable {k k' : World} {cs cs' c0 c1 c2 c3 : Array Value} {R : World→Value→Prop} {x y q q' : Rat} {v v' : Q4} {K L : Nat}
theorem QV.cast (h : QV k cs q K) (e : q = q') : QV k cs q' K:=e ▸ h
theorem SQ.up (h : SQ k cs v K) (u : Up k k') : SQ k' cs v K:=by
 obtain ⟨c0,c1,c2,c3,e,h0,h1,h2,h3⟩:=h
 exact ⟨c0,c1,c2,c3,e,h0.up u,h1.up u,h2.up u,h3.up u⟩
theorem SQ.mono (h : SQ k cs v K) (hL : K≤L) : SQ k cs v L:=by
 obtain ⟨c0,c1,c2,c3,e,h0,h1,h2,h3⟩:=h
 exact ⟨c0,c1,c2,c3,e,h0.mono hL,h1.mono hL,h2.mono hL,h3.mono hL⟩
theorem seg_cat4 (h0 : Seg 3 c0) (h1 : Seg 3 c1) (h2 : Seg 3 c2) (h3 : Seg 3 c3) : Seg 12 (cat4 c0 c1 c2 c3):=by
 obtain ⟨a0,b0⟩:=h0
 obtain ⟨a1,b1⟩:=h1
 obtain ⟨a2,b2⟩:=h2
 obtain ⟨a3,b3⟩:=h3
 refine ⟨by simp [cat4,a0,a1,a2,a3],fun u hu=>?_⟩
 simp only [cat4,List.append_nil,List.mem_append] at hu
 rcases hu with hu | hu | hu | hu
 ·exact b0 u hu
 ·exact b1 u hu
 ·exact b2 u hu
 ·exact b3 u hu
theorem SQ.seg (h : SQ k cs v K) : Seg 12 cs:=by
 obtain ⟨c0,c1,c2,c3,rfl,h0,h1,h2,h3⟩:=h
 exact seg_cat4 h0.seg h1.seg h2.seg h3.seg
theorem two_lit : ((2 : Int) : Rat) = 2:=rfl
theorem zero_lit : ((0 : Int) : Rat) = 0:=rfl
theorem sadd_v (hx : SQ k cs v K) (hy : SQ k cs' v' L) (hK : K+L≤10000000000) (C : ∀ k' ds,Up k k'→SQ k' ds (v.add v') (K+L+1)→R k' (.agg ds)) :
 Cl k 56 #[.agg cs,.agg cs'] R:=by
 obtain ⟨c0,c1,c2,c3,rfl,x0,x1,x2,x3⟩:=hx
 obtain ⟨e0,e1,e2,e3,rfl,y0,y1,y2,y3⟩:=hy
 intro k0 u0
 replace x0:=x0.up u0
 replace x1:=x1.up u0
 replace x2:=x2.up u0
 replace x3:=x3.up u0
 replace y0:=y0.up u0
 replace y1:=y1.up u0
 replace y2:=y2.up u0
 replace y3:=y3.up u0
 replace C:=fun k' ds u=>C k' ds (u0.trans u)
 refine sAdd_vc x0.seg x1.seg x2.seg x3.seg y0.seg y1.seg y2.seg y3.seg ?_
 refine add_v x0 y0 hK ?_
 intro k1 d0 u1 z0
 refine ⟨d0,z0.seg,rfl,?_⟩
 replace x1:=x1.up u1
 replace x2:=x2.up u1
 replace x3:=x3.up u1
 replace y1:=y1.up u1
 replace y2:=y2.up u1
 replace y3:=y3.up u1
 replace C:=fun k' ds u=>C k' ds (u1.trans u)
 refine add_v x1 y1 hK ?_
 intro k2 d1 u2 z1
 refine ⟨d1,z1.seg,rfl,?_⟩
 replace x2:=x2.up u2
 replace x3:=x3.up u2
 replace y2:=y2.up u2
 replace y3:=y3.up u2
 replace z0:=z0.up u2
 replace C:=fun k' ds u=>C k' ds (u2.trans u)
 refine add_v x2 y2 hK ?_
 intro k3 d2 u3 z2
 refine ⟨d2,z2.seg,rfl,?_⟩
 replace x3:=x3.up u3
 replace y3:=y3.up u3
 replace z0:=z0.up u3
 replace z1:=z1.up u3
 replace C:=fun k' ds u=>C k' ds (u3.trans u)
 refine add_v x3 y3 hK ?_
 intro k4 d3 u4 z3
 refine ⟨d3,z3.seg,rfl,?_⟩
 replace z0:=z0.up u4
 replace z1:=z1.up u4
 replace z2:=z2.up u4
 replace C:=fun k' ds u=>C k' ds (u4.trans u)
 intro k5 u5
 replace z0:=z0.up u5
 replace z1:=z1.up u5
 replace z2:=z2.up u5
 replace z3:=z3.up u5
 exact C _ _ u5 ⟨d0,d1,d2,d3,rfl,z0,z1,z2,z3⟩
theorem sneg_v (hx : SQ k cs v K) (hK : K≤10000000000) (C : ∀ k' ds,Up k k'→SQ k' ds v.neg K→R k' (.agg ds)) :
 Cl k 103 #[.agg cs] R:=by
 obtain ⟨c0,c1,c2,c3,rfl,x0,x1,x2,x3⟩:=hx
 intro k0 u0
 replace x0:=x0.up u0
 replace x1:=x1.up u0
 replace x2:=x2.up u0
 replace x3:=x3.up u0
 replace C:=fun k' ds u=>C k' ds (u0.trans u)
 refine sNeg_vc x0.seg x1.seg x2.seg x3.seg ?_
 refine neg_v x0 hK ?_
 intro k1 d0 u1 z0
 refine ⟨d0,z0.seg,rfl,?_⟩
 replace x1:=x1.up u1
 replace x2:=x2.up u1
 replace x3:=x3.up u1
 replace C:=fun k' ds u=>C k' ds (u1.trans u)
 refine neg_v x1 hK ?_
 intro k2 d1 u2 z1
 refine ⟨d1,z1.seg,rfl,?_⟩
 replace x2:=x2.up u2
 replace x3:=x3.up u2
 replace z0:=z0.up u2
 replace C:=fun k' ds u=>C k' ds (u2.trans u)
 refine neg_v x2 hK ?_
 intro k3 d2 u3 z2
 refine ⟨d2,z2.seg,rfl,?_⟩
 replace x3:=x3.up u3
 replace z0:=z0.up u3
 replace z1:=z1.up u3
 replace C:=fun k' ds u=>C k' ds (u3.trans u)
 refine neg_v x3 hK ?_
 intro k4 d3 u4 z3
 refine ⟨d3,z3.seg,rfl,?_⟩
 replace z0:=z0.up u4
 replace z1:=z1.up u4
 replace z2:=z2.up u4
 replace C:=fun k' ds u=>C k' ds (u4.trans u)
 intro k5 u5
 replace z0:=z0.up u5
 replace z1:=z1.up u5
 replace z2:=z2.up u5
 replace z3:=z3.up u5
 exact C _ _ u5 ⟨d0,d1,d2,d3,rfl,z0,z1,z2,z3⟩
theorem ssub_v (hx : SQ k cs v K) (hy : SQ k cs' v' L) (hK : K+L≤10000000000) (C : ∀ k' ds,Up k k'→SQ k' ds (v.sub v') (K+L+1)→R k' (.agg ds)) :
 Cl k 79 #[.agg cs,.agg cs'] R:=by
 intro k0 u0
 exact sSub_vc hx.seg hy.seg (sneg_v (hy.up u0) (by omega) fun k1 d1 u1 h1=>⟨d1,h1.seg,rfl,sadd_v ((hx.up u0).up u1) h1 hK fun k3 d3 u3 h3=>⟨d3,h3.seg,rfl,fun k4 u4=>C k4 d3 (((u0.trans u1).trans u3).trans u4) (h3.up u4)⟩⟩)
theorem real_v (hx : QV k cs q K) (hK : 2≤K) (C : ∀ k' ds,Up k k'→SQ k' ds (Q4.real q) K→R k' (.agg ds)) :
 Cl k 44 #[.agg cs] R:=by
 intro k0 u0
 refine sReal_vc hx.seg ?_
 refine whole_v (by decide) (by decide) fun k1 d1 u1 h1=>⟨d1,h1.seg,rfl,?_⟩
 refine whole_v (by decide) (by decide) fun k2 d2 u2 h2=>⟨d2,h2.seg,rfl,?_⟩
 refine whole_v (by decide) (by decide) fun k3 d3 u3 h3=>⟨d3,h3.seg,rfl,fun k4 u4=>?_⟩
 exact C k4 _ ((((u0.trans u1).trans u2).trans u3).trans u4) ⟨cs,d1,d2,d3,rfl,((((hx.up u0).up u1).up u2).up u3).up u4,(((h1.up u2).up u3).up u4).mono hK,((h2.up u3).up u4).mono hK,(h3.up u4).mono hK⟩
set_option maxHeartbeats 4000000 in
theorem smul_v (hx : SQ k cs v K) (hy : SQ k cs' v' L) (hK : 4*(K+L)+22≤10000000000) (C : ∀ k' ds,Up k k'→SQ k' ds (v.mul v') (4*(K+L)+22)→R k' (.agg ds)) :
 Cl k 57 #[.agg cs,.agg cs'] R:=by
 obtain ⟨c0,c1,c2,c3,rfl,x0,x1,x2,x3⟩:=hx
 obtain ⟨e0,e1,e2,e3,rfl,y0,y1,y2,y3⟩:=hy
 intro k0 u0
 replace x0:=x0.up u0
 replace x1:=x1.up u0
 replace x2:=x2.up u0
 replace x3:=x3.up u0
 replace y0:=y0.up u0
 replace y1:=y1.up u0
 replace y2:=y2.up u0
 replace y3:=y3.up u0
 replace C:=fun k' ds u=>C k' ds (u0.trans u)
 refine sMul_vc x0.seg x1.seg x2.seg x3.seg y0.seg y1.seg y2.seg y3.seg ?_
 refine whole_v (by decide) (by decide) ?_
 intro k1 w0 u1 hw0
 refine ⟨w0,hw0.seg,rfl,?_⟩
 replace x0:=x0.up u1
 replace x1:=x1.up u1
 replace x2:=x2.up u1
 replace x3:=x3.up u1
 replace y0:=y0.up u1
 replace y1:=y1.up u1
 replace y2:=y2.up u1
 replace y3:=y3.up u1
 replace C:=fun k' ds u=>C k' ds (u1.trans u)
 refine real_v hw0 (by decide) ?_
 rintro k2 _ u2 ⟨o0,o1,o2,o3,rfl,out0,out1,out2,out3⟩
 refine ⟨o0,out0.seg,o1,out1.seg,o2,out2.seg,o3,out3.seg,rfl,?_⟩
 replace x0:=x0.up u2
 replace x1:=x1.up u2
 replace x2:=x2.up u2
 replace x3:=x3.up u2
 replace y0:=y0.up u2
 replace y1:=y1.up u2
 replace y2:=y2.up u2
 replace y3:=y3.up u2
 replace C:=fun k' ds u=>C k' ds (u2.trans u)
 clear hw0
 refine mul_v x0 y0 (by omega) ?_
 intro k3 a00 u3 p00
 refine ⟨a00,p00.seg,rfl,?_⟩
 replace x0:=x0.up u3
 replace x1:=x1.up u3
 replace x2:=x2.up u3
 replace x3:=x3.up u3
 replace y0:=y0.up u3
 replace y1:=y1.up u3
 replace y2:=y2.up u3
 replace y3:=y3.up u3
 replace out0:=out0.up u3
 replace out1:=out1.up u3
 replace out2:=out2.up u3
 replace out3:=out3.up u3
 replace C:=fun k' ds u=>C k' ds (u3.trans u)
 refine add_v out0 p00 (by omega) ?_
 intro k4 s00 u4 o00
 refine ⟨s00,o00.seg,rfl,?_⟩
 replace x0:=x0.up u4
 replace x1:=x1.up u4
 replace x2:=x2.up u4
 replace x3:=x3.up u4
 replace y0:=y0.up u4
 replace y1:=y1.up u4
 replace y2:=y2.up u4
 replace y3:=y3.up u4
 replace out1:=out1.up u4
 replace out2:=out2.up u4
 replace out3:=out3.up u4
 replace C:=fun k' ds u=>C k' ds (u4.trans u)
 clear out0 p00
 refine mul_v x0 y1 (by omega) ?_
 intro k5 a01 u5 p01
 refine ⟨a01,p01.seg,rfl,?_⟩
 replace x0:=x0.up u5
 replace x1:=x1.up u5
 replace x2:=x2.up u5
 replace x3:=x3.up u5
 replace y0:=y0.up u5
 replace y1:=y1.up u5
 replace y2:=y2.up u5
 replace y3:=y3.up u5
 replace out1:=out1.up u5
 replace out2:=out2.up u5
 replace out3:=out3.up u5
 replace o00:=o00.up u5
 replace C:=fun k' ds u=>C k' ds (u5.trans u)
 refine add_v out1 p01 (by omega) ?_
 intro k6 s01 u6 o01
 refine ⟨s01,o01.seg,rfl,?_⟩
 replace x0:=x0.up u6
 replace x1:=x1.up u6
 replace x2:=x2.up u6
 replace x3:=x3.up u6
 replace y0:=y0.up u6
 replace y1:=y1.up u6
 replace y2:=y2.up u6
 replace y3:=y3.up u6
 replace out2:=out2.up u6
 replace out3:=out3.up u6
 replace o00:=o00.up u6
 replace C:=fun k' ds u=>C k' ds (u6.trans u)
 clear out1 p01
 refine mul_v x0 y2 (by omega) ?_
 intro k7 a02 u7 p02
 refine ⟨a02,p02.seg,rfl,?_⟩
 replace x0:=x0.up u7
 replace x1:=x1.up u7
 replace x2:=x2.up u7
 replace x3:=x3.up u7
 replace y0:=y0.up u7
 replace y1:=y1.up u7
 replace y2:=y2.up u7
 replace y3:=y3.up u7
 replace out2:=out2.up u7
 replace out3:=out3.up u7
 replace o00:=o00.up u7
 replace o01:=o01.up u7
 replace C:=fun k' ds u=>C k' ds (u7.trans u)
 refine add_v out2 p02 (by omega) ?_
 intro k8 s02 u8 o02
 refine ⟨s02,o02.seg,rfl,?_⟩
 replace x0:=x0.up u8
 replace x1:=x1.up u8
 replace x2:=x2.up u8
 replace x3:=x3.up u8
 replace y0:=y0.up u8
 replace y1:=y1.up u8
 replace y2:=y2.up u8
 replace y3:=y3.up u8
 replace out3:=out3.up u8
 replace o00:=o00.up u8
 replace o01:=o01.up u8
 replace C:=fun k' ds u=>C k' ds (u8.trans u)
 clear out2 p02
 refine mul_v x0 y3 (by omega) ?_
 intro k9 a03 u9 p03
 refine ⟨a03,p03.seg,rfl,?_⟩
 replace x1:=x1.up u9
 replace x2:=x2.up u9
 replace x3:=x3.up u9
 replace y0:=y0.up u9
 replace y1:=y1.up u9
 replace y2:=y2.up u9
 replace y3:=y3.up u9
 replace out3:=out3.up u9
 replace o00:=o00.up u9
 replace o01:=o01.up u9
 replace o02:=o02.up u9
 replace C:=fun k' ds u=>C k' ds (u9.trans u)
 refine add_v out3 p03 (by omega) ?_
 intro k10 s03 u10 o03
 refine ⟨s03,o03.seg,rfl,?_⟩
 replace x1:=x1.up u10
 replace x2:=x2.up u10
 replace x3:=x3.up u10
 replace y0:=y0.up u10
 replace y1:=y1.up u10
 replace y2:=y2.up u10
 replace y3:=y3.up u10
 replace o00:=o00.up u10
 replace o01:=o01.up u10
 replace o02:=o02.up u10
 replace C:=fun k' ds u=>C k' ds (u10.trans u)
 clear out3 p03
 refine mul_v x1 y0 (by omega) ?_
 intro k11 a10 u11 p10
 refine ⟨a10,p10.seg,rfl,?_⟩
 replace x1:=x1.up u11
 replace x2:=x2.up u11
 replace x3:=x3.up u11
 replace y0:=y0.up u11
 replace y1:=y1.up u11
 replace y2:=y2.up u11
 replace y3:=y3.up u11
 replace o00:=o00.up u11
 replace o01:=o01.up u11
 replace o02:=o02.up u11
 replace o03:=o03.up u11
 replace C:=fun k' ds u=>C k' ds (u11.trans u)
 refine add_v o01 p10 (by omega) ?_
 intro k12 s10 u12 o10
 refine ⟨s10,o10.seg,rfl,?_⟩
 replace x1:=x1.up u12
 replace x2:=x2.up u12
 replace x3:=x3.up u12
 replace y0:=y0.up u12
 replace y1:=y1.up u12
 replace y2:=y2.up u12
 replace y3:=y3.up u12
 replace o00:=o00.up u12
 replace o02:=o02.up u12
 replace o03:=o03.up u12
 replace C:=fun k' ds u=>C k' ds (u12.trans u)
 clear o01 p10
 refine mul_v x1 y1 (by omega) ?_
 intro k13 a11 u13 p11
 refine ⟨a11,p11.seg,rfl,?_⟩
 replace x1:=x1.up u13
 replace x2:=x2.up u13
 replace x3:=x3.up u13
 replace y0:=y0.up u13
 replace y1:=y1.up u13
 replace y2:=y2.up u13
 replace y3:=y3.up u13
 replace o00:=o00.up u13
 replace o02:=o02.up u13
 replace o03:=o03.up u13
 replace o10:=o10.up u13
 replace C:=fun k' ds u=>C k' ds (u13.trans u)
 refine whole_v (by decide) (by decide) ?_
 intro k14 w11 u14 hw11
 refine ⟨w11,hw11.seg,rfl,?_⟩
 replace x1:=x1.up u14
 replace x2:=x2.up u14
 replace x3:=x3.up u14
 replace y0:=y0.up u14
 replace y1:=y1.up u14
 replace y2:=y2.up u14
 replace y3:=y3.up u14
 replace o00:=o00.up u14
 replace o02:=o02.up u14
 replace o03:=o03.up u14
 replace o10:=o10.up u14
 replace p11:=p11.up u14
 replace C:=fun k' ds u=>C k' ds (u14.trans u)
 refine mul_v p11 hw11 (by omega) ?_
 intro k15 b112 u15 r112
 refine ⟨b112,r112.seg,rfl,?_⟩
 replace x1:=x1.up u15
 replace x2:=x2.up u15
 replace x3:=x3.up u15
 replace y0:=y0.up u15
 replace y1:=y1.up u15
 replace y2:=y2.up u15
 replace y3:=y3.up u15
 replace o00:=o00.up u15
 replace o02:=o02.up u15
 replace o03:=o03.up u15
 replace o10:=o10.up u15
 replace C:=fun k' ds u=>C k' ds (u15.trans u)
 clear p11 hw11
 refine add_v o00 r112 (by omega) ?_
 intro k16 s11 u16 o11
 refine ⟨s11,o11.seg,rfl,?_⟩
 replace x1:=x1.up u16
 replace x2:=x2.up u16
 replace x3:=x3.up u16
 replace y0:=y0.up u16
 replace y1:=y1.up u16
 replace y2:=y2.up u16
 replace y3:=y3.up u16
 replace o02:=o02.up u16
 replace o03:=o03.up u16
 replace o10:=o10.up u16
 replace C:=fun k' ds u=>C k' ds (u16.trans u)
 clear o00 r112
 refine mul_v x1 y2 (by omega) ?_
 intro k17 a12 u17 p12
 refine ⟨a12,p12.seg,rfl,?_⟩
 replace x1:=x1.up u17
 replace x2:=x2.up u17
 replace x3:=x3.up u17
 replace y0:=y0.up u17
 replace y1:=y1.up u17
 replace y2:=y2.up u17
 replace y3:=y3.up u17
 replace o02:=o02.up u17
 replace o03:=o03.up u17
 replace o10:=o10.up u17
 replace o11:=o11.up u17
 replace C:=fun k' ds u=>C k' ds (u17.trans u)
 refine add_v o03 p12 (by omega) ?_
 intro k18 s12 u18 o12
 refine ⟨s12,o12.seg,rfl,?_⟩
 replace x1:=x1.up u18
 replace x2:=x2.up u18
 replace x3:=x3.up u18
 replace y0:=y0.up u18
 replace y1:=y1.up u18
 replace y2:=y2.up u18
 replace y3:=y3.up u18
 replace o02:=o02.up u18
 replace o10:=o10.up u18
 replace o11:=o11.up u18
 replace C:=fun k' ds u=>C k' ds (u18.trans u)
 clear o03 p12
 refine mul_v x1 y3 (by omega) ?_
 intro k19 a13 u19 p13
 refine ⟨a13,p13.seg,rfl,?_⟩
 replace x2:=x2.up u19
 replace x3:=x3.up u19
 replace y0:=y0.up u19
 replace y1:=y1.up u19
 replace y2:=y2.up u19
 replace y3:=y3.up u19
 replace o02:=o02.up u19
 replace o10:=o10.up u19
 replace o11:=o11.up u19
 replace o12:=o12.up u19
 replace C:=fun k' ds u=>C k' ds (u19.trans u)
 refine whole_v (by decide) (by decide) ?_
 intro k20 w13 u20 hw13
 refine ⟨w13,hw13.seg,rfl,?_⟩
 replace x2:=x2.up u20
 replace x3:=x3.up u20
 replace y0:=y0.up u20
 replace y1:=y1.up u20
 replace y2:=y2.up u20
 replace y3:=y3.up u20
 replace o02:=o02.up u20
 replace o10:=o10.up u20
 replace o11:=o11.up u20
 replace o12:=o12.up u20
 replace p13:=p13.up u20
 replace C:=fun k' ds u=>C k' ds (u20.trans u)
 refine mul_v p13 hw13 (by omega) ?_
 intro k21 b132 u21 r132
 refine ⟨b132,r132.seg,rfl,?_⟩
 replace x2:=x2.up u21
 replace x3:=x3.up u21
 replace y0:=y0.up u21
 replace y1:=y1.up u21
 replace y2:=y2.up u21
 replace y3:=y3.up u21
 replace o02:=o02.up u21
 replace o10:=o10.up u21
 replace o11:=o11.up u21
 replace o12:=o12.up u21
 replace C:=fun k' ds u=>C k' ds (u21.trans u)
 clear p13 hw13
 refine add_v o02 r132 (by omega) ?_
 intro k22 s13 u22 o13
 refine ⟨s13,o13.seg,rfl,?_⟩
 replace x2:=x2.up u22
 replace x3:=x3.up u22
 replace y0:=y0.up u22
 replace y1:=y1.up u22
 replace y2:=y2.up u22
 replace y3:=y3.up u22
 replace o10:=o10.up u22
 replace o11:=o11.up u22
 replace o12:=o12.up u22
 replace C:=fun k' ds u=>C k' ds (u22.trans u)
 clear o02 r132
 refine mul_v x2 y0 (by omega) ?_
 intro k23 a20 u23 p20
 refine ⟨a20,p20.seg,rfl,?_⟩
 replace x2:=x2.up u23
 replace x3:=x3.up u23
 replace y0:=y0.up u23
 replace y1:=y1.up u23
 replace y2:=y2.up u23
 replace y3:=y3.up u23
 replace o10:=o10.up u23
 replace o11:=o11.up u23
 replace o12:=o12.up u23
 replace o13:=o13.up u23
 replace C:=fun k' ds u=>C k' ds (u23.trans u)
 refine add_v o13 p20 (by omega) ?_
 intro k24 s20 u24 o20
 refine ⟨s20,o20.seg,rfl,?_⟩
 replace x2:=x2.up u24
 replace x3:=x3.up u24
 replace y0:=y0.up u24
 replace y1:=y1.up u24
 replace y2:=y2.up u24
 replace y3:=y3.up u24
 replace o10:=o10.up u24
 replace o11:=o11.up u24
 replace o12:=o12.up u24
 replace C:=fun k' ds u=>C k' ds (u24.trans u)
 clear o13 p20
 refine mul_v x2 y1 (by omega) ?_
 intro k25 a21 u25 p21
 refine ⟨a21,p21.seg,rfl,?_⟩
 replace x2:=x2.up u25
 replace x3:=x3.up u25
 replace y0:=y0.up u25
 replace y1:=y1.up u25
 replace y2:=y2.up u25
 replace y3:=y3.up u25
 replace o10:=o10.up u25
 replace o11:=o11.up u25
 replace o12:=o12.up u25
 replace o20:=o20.up u25
 replace C:=fun k' ds u=>C k' ds (u25.trans u)
 refine add_v o12 p21 (by omega) ?_
 intro k26 s21 u26 o21
 refine ⟨s21,o21.seg,rfl,?_⟩
 replace x2:=x2.up u26
 replace x3:=x3.up u26
 replace y0:=y0.up u26
 replace y1:=y1.up u26
 replace y2:=y2.up u26
 replace y3:=y3.up u26
 replace o10:=o10.up u26
 replace o11:=o11.up u26
 replace o20:=o20.up u26
 replace C:=fun k' ds u=>C k' ds (u26.trans u)
 clear o12 p21
 refine mul_v x2 y2 (by omega) ?_
 intro k27 a22 u27 p22
 refine ⟨a22,p22.seg,rfl,?_⟩
 replace x2:=x2.up u27
 replace x3:=x3.up u27
 replace y0:=y0.up u27
 replace y1:=y1.up u27
 replace y2:=y2.up u27
 replace y3:=y3.up u27
 replace o10:=o10.up u27
 replace o11:=o11.up u27
 replace o20:=o20.up u27
 replace o21:=o21.up u27
 replace C:=fun k' ds u=>C k' ds (u27.trans u)
 refine whole_v (by decide) (by decide) ?_
 intro k28 w22 u28 hw22
 refine ⟨w22,hw22.seg,rfl,?_⟩
 replace x2:=x2.up u28
 replace x3:=x3.up u28
 replace y0:=y0.up u28
 replace y1:=y1.up u28
 replace y2:=y2.up u28
 replace y3:=y3.up u28
 replace o10:=o10.up u28
 replace o11:=o11.up u28
 replace o20:=o20.up u28
 replace o21:=o21.up u28
 replace p22:=p22.up u28
 replace C:=fun k' ds u=>C k' ds (u28.trans u)
 refine mul_v p22 hw22 (by omega) ?_
 intro k29 b223 u29 r223
 refine ⟨b223,r223.seg,rfl,?_⟩
 replace x2:=x2.up u29
 replace x3:=x3.up u29
 replace y0:=y0.up u29
 replace y1:=y1.up u29
 replace y2:=y2.up u29
 replace y3:=y3.up u29
 replace o10:=o10.up u29
 replace o11:=o11.up u29
 replace o20:=o20.up u29
 replace o21:=o21.up u29
 replace C:=fun k' ds u=>C k' ds (u29.trans u)
 clear p22 hw22
 refine add_v o11 r223 (by omega) ?_
 intro k30 s22 u30 o22
 refine ⟨s22,o22.seg,rfl,?_⟩
 replace x2:=x2.up u30
 replace x3:=x3.up u30
 replace y0:=y0.up u30
 replace y1:=y1.up u30
 replace y2:=y2.up u30
 replace y3:=y3.up u30
 replace o10:=o10.up u30
 replace o20:=o20.up u30
 replace o21:=o21.up u30
 replace C:=fun k' ds u=>C k' ds (u30.trans u)
 clear o11 r223
 refine mul_v x2 y3 (by omega) ?_
 intro k31 a23 u31 p23
 refine ⟨a23,p23.seg,rfl,?_⟩
 replace x3:=x3.up u31
 replace y0:=y0.up u31
 replace y1:=y1.up u31
 replace y2:=y2.up u31
 replace y3:=y3.up u31
 replace o10:=o10.up u31
 replace o20:=o20.up u31
 replace o21:=o21.up u31
 replace o22:=o22.up u31
 replace C:=fun k' ds u=>C k' ds (u31.trans u)
 refine whole_v (by decide) (by decide) ?_
 intro k32 w23 u32 hw23
 refine ⟨w23,hw23.seg,rfl,?_⟩
 replace x3:=x3.up u32
 replace y0:=y0.up u32
 replace y1:=y1.up u32
 replace y2:=y2.up u32
 replace y3:=y3.up u32
 replace o10:=o10.up u32
 replace o20:=o20.up u32
 replace o21:=o21.up u32
 replace o22:=o22.up u32
 replace p23:=p23.up u32
 replace C:=fun k' ds u=>C k' ds (u32.trans u)
 refine mul_v p23 hw23 (by omega) ?_
 intro k33 b233 u33 r233
 refine ⟨b233,r233.seg,rfl,?_⟩
 replace x3:=x3.up u33
 replace y0:=y0.up u33
 replace y1:=y1.up u33
 replace y2:=y2.up u33
 replace y3:=y3.up u33
 replace o10:=o10.up u33
 replace o20:=o20.up u33
 replace o21:=o21.up u33
 replace o22:=o22.up u33
 replace C:=fun k' ds u=>C k' ds (u33.trans u)
 clear p23 hw23
 refine add_v o10 r233 (by omega) ?_
 intro k34 s23 u34 o23
 refine ⟨s23,o23.seg,rfl,?_⟩
 replace x3:=x3.up u34
 replace y0:=y0.up u34
 replace y1:=y1.up u34
 replace y2:=y2.up u34
 replace y3:=y3.up u34
 replace o20:=o20.up u34
 replace o21:=o21.up u34
 replace o22:=o22.up u34
 replace C:=fun k' ds u=>C k' ds (u34.trans u)
 clear o10 r233
 refine mul_v x3 y0 (by omega) ?_
 intro k35 a30 u35 p30
 refine ⟨a30,p30.seg,rfl,?_⟩
 replace x3:=x3.up u35
 replace y1:=y1.up u35
 replace y2:=y2.up u35
 replace y3:=y3.up u35
 replace o20:=o20.up u35
 replace o21:=o21.up u35
 replace o22:=o22.up u35
 replace o23:=o23.up u35
 replace C:=fun k' ds u=>C k' ds (u35.trans u)
 refine add_v o21 p30 (by omega) ?_
 intro k36 s30 u36 o30
 refine ⟨s30,o30.seg,rfl,?_⟩
 replace x3:=x3.up u36
 replace y1:=y1.up u36
 replace y2:=y2.up u36
 replace y3:=y3.up u36
 replace o20:=o20.up u36
 replace o22:=o22.up u36
 replace o23:=o23.up u36
 replace C:=fun k' ds u=>C k' ds (u36.trans u)
 clear o21 p30
 refine mul_v x3 y1 (by omega) ?_
 intro k37 a31 u37 p31
 refine ⟨a31,p31.seg,rfl,?_⟩
 replace x3:=x3.up u37
 replace y2:=y2.up u37
 replace y3:=y3.up u37
 replace o20:=o20.up u37
 replace o22:=o22.up u37
 replace o23:=o23.up u37
 replace o30:=o30.up u37
 replace C:=fun k' ds u=>C k' ds (u37.trans u)
 refine whole_v (by decide) (by decide) ?_
 intro k38 w31 u38 hw31
 refine ⟨w31,hw31.seg,rfl,?_⟩
 replace x3:=x3.up u38
 replace y2:=y2.up u38
 replace y3:=y3.up u38
 replace o20:=o20.up u38
 replace o22:=o22.up u38
 replace o23:=o23.up u38
 replace o30:=o30.up u38
 replace p31:=p31.up u38
 replace C:=fun k' ds u=>C k' ds (u38.trans u)
 refine mul_v p31 hw31 (by omega) ?_
 intro k39 b312 u39 r312
 refine ⟨b312,r312.seg,rfl,?_⟩
 replace x3:=x3.up u39
 replace y2:=y2.up u39
 replace y3:=y3.up u39
 replace o20:=o20.up u39
 replace o22:=o22.up u39
 replace o23:=o23.up u39
 replace o30:=o30.up u39
 replace C:=fun k' ds u=>C k' ds (u39.trans u)
 clear p31 hw31
 refine add_v o20 r312 (by omega) ?_
 intro k40 s31 u40 o31
 refine ⟨s31,o31.seg,rfl,?_⟩
 replace x3:=x3.up u40
 replace y2:=y2.up u40
 replace y3:=y3.up u40
 replace o22:=o22.up u40
 replace o23:=o23.up u40
 replace o30:=o30.up u40
 replace C:=fun k' ds u=>C k' ds (u40.trans u)
 clear o20 r312
 refine mul_v x3 y2 (by omega) ?_
 intro k41 a32 u41 p32
 refine ⟨a32,p32.seg,rfl,?_⟩
 replace x3:=x3.up u41
 replace y3:=y3.up u41
 replace o22:=o22.up u41
 replace o23:=o23.up u41
 replace o30:=o30.up u41
 replace o31:=o31.up u41
 replace C:=fun k' ds u=>C k' ds (u41.trans u)
 refine whole_v (by decide) (by decide) ?_
 intro k42 w32 u42 hw32
 refine ⟨w32,hw32.seg,rfl,?_⟩
 replace x3:=x3.up u42
 replace y3:=y3.up u42
 replace o22:=o22.up u42
 replace o23:=o23.up u42
 replace o30:=o30.up u42
 replace o31:=o31.up u42
 replace p32:=p32.up u42
 replace C:=fun k' ds u=>C k' ds (u42.trans u)
 refine mul_v p32 hw32 (by omega) ?_
 intro k43 b323 u43 r323
 refine ⟨b323,r323.seg,rfl,?_⟩
 replace x3:=x3.up u43
 replace y3:=y3.up u43
 replace o22:=o22.up u43
 replace o23:=o23.up u43
 replace o30:=o30.up u43
 replace o31:=o31.up u43
 replace C:=fun k' ds u=>C k' ds (u43.trans u)
 clear p32 hw32
 refine add_v o23 r323 (by omega) ?_
 intro k44 s32 u44 o32
 refine ⟨s32,o32.seg,rfl,?_⟩
 replace x3:=x3.up u44
 replace y3:=y3.up u44
 replace o22:=o22.up u44
 replace o30:=o30.up u44
 replace o31:=o31.up u44
 replace C:=fun k' ds u=>C k' ds (u44.trans u)
 clear o23 r323
 refine mul_v x3 y3 (by omega) ?_
 intro k45 a33 u45 p33
 refine ⟨a33,p33.seg,rfl,?_⟩
 replace o22:=o22.up u45
 replace o30:=o30.up u45
 replace o31:=o31.up u45
 replace o32:=o32.up u45
 replace C:=fun k' ds u=>C k' ds (u45.trans u)
 refine whole_v (by decide) (by decide) ?_
 intro k46 w33 u46 hw33
 refine ⟨w33,hw33.seg,rfl,?_⟩
 replace o22:=o22.up u46
 replace o30:=o30.up u46
 replace o31:=o31.up u46
 replace o32:=o32.up u46
 replace p33:=p33.up u46
 replace C:=fun k' ds u=>C k' ds (u46.trans u)
 refine mul_v p33 hw33 (by omega) ?_
 intro k47 b332 u47 r332
 refine ⟨b332,r332.seg,rfl,?_⟩
 replace o22:=o22.up u47
 replace o30:=o30.up u47
 replace o31:=o31.up u47
 replace o32:=o32.up u47
 replace hw33:=hw33.up u47
 replace C:=fun k' ds u=>C k' ds (u47.trans u)
 clear p33 hw33
 refine whole_v (by decide) (by decide) ?_
 intro k48 w33 u48 hw33
 refine ⟨w33,hw33.seg,rfl,?_⟩
 replace o22:=o22.up u48
 replace o30:=o30.up u48
 replace o31:=o31.up u48
 replace o32:=o32.up u48
 replace r332:=r332.up u48
 replace C:=fun k' ds u=>C k' ds (u48.trans u)
 refine mul_v r332 hw33 (by omega) ?_
 intro k49 b333 u49 r333
 refine ⟨b333,r333.seg,rfl,?_⟩
 replace o22:=o22.up u49
 replace o30:=o30.up u49
 replace o31:=o31.up u49
 replace o32:=o32.up u49
 replace C:=fun k' ds u=>C k' ds (u49.trans u)
 clear r332 hw33
 refine add_v o22 r333 (by omega) ?_
 intro k50 s33 u50 o33
 refine ⟨s33,o33.seg,rfl,?_⟩
 replace o30:=o30.up u50
 replace o31:=o31.up u50
 replace o32:=o32.up u50
 replace C:=fun k' ds u=>C k' ds (u50.trans u)
 clear o22 r333
 intro k51 u51
 replace o30:=o30.up u51
 replace o31:=o31.up u51
 replace o32:=o32.up u51
 replace o33:=o33.up u51
 exact C _ _ u51 ⟨_,_,_,_,rfl,(o33.mono (by omega)).cast (by simp only [Q4.mul,Q4.real,zero_lit]; grind),(o32.mono (by omega)).cast (by simp only [Q4.mul,Q4.real,zero_lit]; grind),(o31.mono (by omega)).cast (by simp only [Q4.mul,Q4.real,zero_lit,two_lit]; grind),(o30.mono (by omega)).cast (by simp only [Q4.mul,Q4.real,zero_lit]; grind)⟩
end
end Go.Proofs.YtmilhgkacmofmaaGreat.W32

namespace Go.Proofs.YtmilhgkacmofmaaGreat.W32
open Go.RowKit Num
open Sy (Up Sees CallsG Seg)
section
variable {k k' : World} {cs cs' c0 c1 c2 c3 : Array Value} {R : World→Value→Prop} {x y q q' : Rat} {v v' : Q4} {K L : Nat}
theorem szero_v (hx : SQ k cs v K)  (C : ∀ k',Up k k'→R k' (.bool (decide (v = Q4.zero)))) :
 Cl k 42 #[.agg cs] R:=by
 intro k0 u0
 replace C:=fun k' u=>C k' (u0.trans u)
 obtain ⟨c0,c1,c2,c3,rfl,x0,x1,x2,x3⟩:=hx.up u0
 refine sZero_vc x0.seg x1.seg x2.seg x3.seg ?_
 refine zero_v x0 fun k1 u1=>⟨_,rfl,fun h0=>?_,fun h0=>fun k11 u11=>?_⟩
 ·refine zero_v (x1.up u1) fun k3 u3=>⟨_,rfl,fun h1=>?_,fun h1=>fun k10 u10=>?_⟩
  ·refine zero_v (x2.up (u1.trans u3)) fun k5 u5=>⟨_,rfl,fun h2=>?_,fun h2=>fun k9 u9=>?_⟩
   ·refine zero_v (x3.up ((u1.trans u3).trans u5)) fun k7 u7=>⟨_,rfl,fun k8 u8=>?_⟩
    have e : decide (v = Q4.zero) = decide (v.d = 0):=by rw [Q4.zero_iff,h0,h1,h2]; rfl
    have:=C k8 ((((u1.trans u3).trans u5).trans u7).trans u8)
    rw [e] at this
    exact this
   ·have e : decide (v = Q4.zero) = false:=by rw [Q4.zero_iff,h0,h1,h2]; rfl
    have:=C k9 (((u1.trans u3).trans u5).trans u9)
    rw [e] at this
    exact this
  ·have e : decide (v = Q4.zero) = false:=by rw [Q4.zero_iff,h0,h1]; rfl
   have:=C k10 ((u1.trans u3).trans u10)
   rw [e] at this
   exact this
 ·have e : decide (v = Q4.zero) = false:=by rw [Q4.zero_iff,h0]; rfl
  have:=C k11 (u1.trans u11)
  rw [e] at this
  exact this
theorem ssame_v (hx : SQ k cs v K) (hy : SQ k cs' v' L) (hK : K+L≤10000000000) (C : ∀ k',Up k k'→R k' (.bool (decide (v = v')))) :
 Cl k 43 #[.agg cs,.agg cs'] R:=by
 intro k0 u0
 have e : decide (v.sub v' = Q4.zero) = decide (v = v'):=decide_eq_decide.2 Q4.sub_zero_iff
 refine sSame_vc hx.seg hy.seg (ssub_v (hx.up u0) (hy.up u0) hK fun k1 d1 u1 h1=>⟨d1,h1.seg,rfl,szero_v h1 fun k3 u3=>⟨_,rfl,fun k4 u4=>?_⟩⟩)
 rw [e]
 exact C k4 (((u0.trans u1).trans u3).trans u4)
theorem squad_v {n0 n1 n2 n3 n4 n5 n6 n7 : Int} (h0 : In64 n0) (h1 : In64 n1) (h2 : In64 n2) (h3 : In64 n3) (h4 : In64 n4) (h5 : In64 n5) (h6 : In64 n6) (h7 : In64 n7) (C : ∀ k' ds,Up k k'→SQ k' ds ⟨ofQ n0 n1,ofQ n2 n3,ofQ n4 n5,ofQ n6 n7⟩ 2→R k' (.agg ds)) :
 Cl k 15 #[.agg #[.int .i64 n0,.int .i64 n1,.int .i64 n2,.int .i64 n3,.int .i64 n4,.int .i64 n5,.int .i64 n6,.int .i64 n7]] R:=by
 intro k0 u0
 refine sOfQuad_vc (of_v h0 h1 fun k1 d1 u1 q1=>⟨d1,q1.seg,rfl,?_⟩)
 refine of_v h2 h3 fun k3 d3 u3 q3=>⟨d3,q3.seg,rfl,?_⟩
 refine of_v h4 h5 fun k5 d5 u5 q5=>⟨d5,q5.seg,rfl,?_⟩
 refine of_v h6 h7 fun k7 d7 u7 q7=>⟨d7,q7.seg,rfl,fun k8 u8=>?_⟩
 exact C k8 _ (((((u0.trans u1).trans u3).trans u5).trans u7).trans u8) ⟨d1,d3,d5,d7,rfl,(((q1.up u3).up u5).up u7).up u8,((q3.up u5).up u7).up u8,(q5.up u7).up u8,q7.up u8⟩
end
end Go.Proofs.YtmilhgkacmofmaaGreat.W32

namespace Go.Proofs.YtmilhgkacmofmaaGreat.W32
open Go.RowKit Num
open Sy (Up Sees CallsG Seg)
def WQ (k : World) (cs : Array Value) (w : W4) (K : Nat) : Prop:=∃ c0 c1 : Array Value,cs = cat2 c0 c1∧SQ k c0 w.re K∧SQ k c1 w.im K
section
variable {k k' : World} {cs cs' c0 c1 : Array Value} {R : World→Value→Prop} {v v' : Q4} {x y : W4} {q : Rat} {K L : Nat}
theorem WQ.up (h : WQ k cs x K) (u : Up k k') : WQ k' cs x K:=by
 obtain ⟨c0,c1,e,h0,h1⟩:=h
 exact ⟨c0,c1,e,h0.up u,h1.up u⟩
theorem WQ.mono (h : WQ k cs x K) (hL : K≤L) : WQ k cs x L:=by
 obtain ⟨c0,c1,e,h0,h1⟩:=h
 exact ⟨c0,c1,e,h0.mono hL,h1.mono hL⟩
theorem WQ.seg (h : WQ k cs x K) : Seg 24 cs:=by
 obtain ⟨c0,c1,rfl,h0,h1⟩:=h
 exact seg_cat2 h0.seg h1.seg
theorem wadd_v (hx : WQ k cs x K) (hy : WQ k cs' y L) (hK : K+L≤10000000000) (C : ∀ k' ds,Up k k'→WQ k' ds (x.add y) (K+L+1)→R k' (.agg ds)) :
 Cl k 19 #[.agg cs,.agg cs'] R:=by
 intro k0 u0
 obtain ⟨a,b,rfl,a0,b0⟩:=hx.up u0
 obtain ⟨c,d,rfl,c0,d0⟩:=hy.up u0
 refine rwAdd_vc a0.seg b0.seg c0.seg d0.seg ?_
 refine sadd_v a0 c0 hK fun k1 e1 u1 h1=>⟨e1,h1.seg,rfl,?_⟩
 refine sadd_v (b0.up u1) (d0.up u1) hK fun k3 e3 u3 h3=>⟨e3,h3.seg,rfl,fun k4 u4=>?_⟩
 exact C k4 _ (((u0.trans u1).trans u3).trans u4) ⟨e1,e3,rfl,(h1.up u3).up u4,h3.up u4⟩
theorem wsub_v (hx : WQ k cs x K) (hy : WQ k cs' y L) (hK : K+L≤10000000000) (C : ∀ k' ds,Up k k'→WQ k' ds (x.sub y) (K+L+1)→R k' (.agg ds)) :
 Cl k 78 #[.agg cs,.agg cs'] R:=by
 intro k0 u0
 obtain ⟨a,b,rfl,a0,b0⟩:=hx.up u0
 obtain ⟨c,d,rfl,c0,d0⟩:=hy.up u0
 refine rwSub_vc a0.seg b0.seg c0.seg d0.seg ?_
 refine ssub_v a0 c0 hK fun k1 e1 u1 h1=>⟨e1,h1.seg,rfl,?_⟩
 refine ssub_v (b0.up u1) (d0.up u1) hK fun k3 e3 u3 h3=>⟨e3,h3.seg,rfl,fun k4 u4=>?_⟩
 exact C k4 _ (((u0.trans u1).trans u3).trans u4) ⟨e1,e3,rfl,(h1.up u3).up u4,h3.up u4⟩
theorem wmul_v (hx : WQ k cs x K) (hy : WQ k cs' y L) (hK : 8*(K+L)+45≤10000000000) (C : ∀ k' ds,Up k k'→WQ k' ds (x.mul y) (8*(K+L)+45)→R k' (.agg ds)) :
 Cl k 80 #[.agg cs,.agg cs'] R:=by
 intro k0 u0
 obtain ⟨a,b,rfl,a0,b0⟩:=hx.up u0
 obtain ⟨c,d,rfl,c0,d0⟩:=hy.up u0
 refine rwMul_vc a0.seg b0.seg c0.seg d0.seg ?_
 refine smul_v a0 c0 (by omega) fun k1 e1 u1 h1=>⟨e1,h1.seg,rfl,?_⟩
 refine smul_v (b0.up u1) (d0.up u1) (by omega) fun k2 e2 u2 h2=>⟨e2,h2.seg,rfl,?_⟩
 refine ssub_v (h1.up u2) h2 (by omega) fun k3 e3 u3 h3=>⟨e3,h3.seg,rfl,?_⟩
 have u123:=(u1.trans u2).trans u3
 refine smul_v (a0.up u123) (d0.up u123) (by omega) fun k4 e4 u4 h4=>⟨e4,h4.seg,rfl,?_⟩
 refine smul_v (b0.up (u123.trans u4)) (c0.up (u123.trans u4)) (by omega) fun k5 e5 u5 h5=>⟨e5,h5.seg,rfl,?_⟩
 refine sadd_v (h4.up u5) h5 (by omega) fun k6 e6 u6 h6=>⟨e6,h6.seg,rfl,fun k7 u7=>?_⟩
 exact C k7 _ (((((u0.trans u123).trans u4).trans u5).trans u6).trans u7) ⟨e3,e6,rfl,((((h3.up u4).up u5).up u6).up u7).mono (by omega),(h6.up u7).mono (by omega)⟩
theorem wconj_v (hx : WQ k cs x K) (hK : K≤10000000000) (C : ∀ k' ds,Up k k'→WQ k' ds x.conj K→R k' (.agg ds)) :
 Cl k 81 #[.agg cs] R:=by
 intro k0 u0
 obtain ⟨a,b,rfl,a0,b0⟩:=hx.up u0
 refine rwConj_vc a0.seg b0.seg ?_
 refine sneg_v b0 hK fun k2 e2 u2 h2=>⟨e2,h2.seg,rfl,fun k4 u4=>?_⟩
 exact C k4 _ ((u0.trans u2).trans u4) ⟨a,e2,rfl,(a0.up u2).up u4,h2.up u4⟩
theorem wreal_v (hx : QV k cs q K) (hK : 2≤K) (C : ∀ k' ds,Up k k'→WQ k' ds (W4.real q) K→R k' (.agg ds)) :
 Cl k 55 #[.agg cs] R:=by
 intro k0 u0
 refine rwReal_vc hx.seg (real_v (hx.up u0) hK fun k1 e1 u1 h1=>⟨e1,h1.seg,rfl,?_⟩)
 refine whole_v (by decide) (by decide) fun k2 e2 u2 h2=>⟨e2,h2.seg,rfl,?_⟩
 refine real_v h2 (by decide) fun k3 e3 u3 h3=>⟨e3,h3.seg,rfl,fun k4 u4=>?_⟩
 exact C k4 _ ((((u0.trans u1).trans u2).trans u3).trans u4) ⟨e1,e3,rfl,((h1.up u2).up u3).up u4,(h3.up u4).mono hK⟩
theorem wzero_v (hx : WQ k cs x K) (C : ∀ k',Up k k'→R k' (.bool (decide (x = W4.zero)))) :
 Cl k 77 #[.agg cs] R:=by
 intro k0 u0
 obtain ⟨a,b,rfl,a0,b0⟩:=hx.up u0
 rw [W4.zero_iff] at C
 refine rwZero_vc a0.seg b0.seg (szero_v a0 fun k1 u1=>⟨_,rfl,fun h=>?_,fun h k5 u5=>?_⟩)
 ·rw [h] at C
  exact szero_v (b0.up u1) fun k2 u2=>⟨_,rfl,fun k3 u3=>C k3 (((u0.trans u1).trans u2).trans u3)⟩
 ·rw [h] at C
  exact C k5 ((u0.trans u1).trans u5)
theorem wsame_v (hx : WQ k cs x K) (hy : WQ k cs' y L) (hK : K+L≤10000000000) (C : ∀ k',Up k k'→R k' (.bool (decide (x = y)))) :
 Cl k 38 #[.agg cs,.agg cs'] R:=by
 intro k0 u0
 have hx':=hx.up u0
 have hy':=hy.up u0
 obtain ⟨a,b,rfl,a0,b0⟩:=hx
 obtain ⟨c,d,rfl,c0,d0⟩:=hy
 have e : decide (x.sub y = W4.zero) = decide (x = y):=decide_eq_decide.2 W4.sub_zero_iff
 refine rwSame_vc a0.seg b0.seg c0.seg d0.seg (wsub_v hx' hy' hK fun k1 e1 u1 h1=>?_)
 have h1':=h1
 obtain ⟨p,q,rfl,p0,q0⟩:=h1'
 refine ⟨p,p0.seg,q,q0.seg,rfl,wzero_v h1 fun k3 u3=>⟨_,rfl,fun k4 u4=>?_⟩⟩
 rw [e]
 exact C k4 (((u0.trans u1).trans u3).trans u4)
theorem wofwave_v {n0 n1 n2 n3 n4 n5 n6 n7 n8 n9 n10 n11 n12 n13 n14 n15 : Int} (h0 : In64 n0) (h1 : In64 n1) (h2 : In64 n2) (h3 : In64 n3) (h4 : In64 n4) (h5 : In64 n5) (h6 : In64 n6) (h7 : In64 n7) (h8 : In64 n8) (h9 : In64 n9) (h10 : In64 n10) (h11 : In64 n11) (h12 : In64 n12) (h13 : In64 n13) (h14 : In64 n14) (h15 : In64 n15) (C : ∀ k' ds,Up k k'→WQ k' ds ⟨⟨ofQ n0 n1,ofQ n2 n3,ofQ n4 n5,ofQ n6 n7⟩,⟨ofQ n8 n9,ofQ n10 n11,ofQ n12 n13,ofQ n14 n15⟩⟩ 2→R k' (.agg ds)) :
 Cl k 6 #[.agg #[.int .i64 n0,.int .i64 n1,.int .i64 n2,.int .i64 n3,.int .i64 n4,.int .i64 n5,.int .i64 n6,.int .i64 n7,.int .i64 n8,.int .i64 n9,.int .i64 n10,.int .i64 n11,.int .i64 n12,.int .i64 n13,.int .i64 n14,.int .i64 n15]] R:=by
 intro k0 u0
 refine wOfWave_vc (squad_v h0 h1 h2 h3 h4 h5 h6 h7 fun k1 d1 u1 q1=>⟨d1,q1.seg,rfl,?_⟩)
 refine squad_v h8 h9 h10 h11 h12 h13 h14 h15 fun k3 d3 u3 q3=>⟨d3,q3.seg,rfl,fun k4 u4=>?_⟩
 exact C k4 _ (((u0.trans u1).trans u3).trans u4) ⟨d1,d3,rfl,(q1.up u3).up u4,q3.up u4⟩
end
end Go.Proofs.YtmilhgkacmofmaaGreat.W32

namespace Go.Proofs.YtmilhgkacmofmaaGreat.W32
open Go.RowKit Num
open Sy (Up Sees CallsG Seg)
section
variable {k k' : World} {cs cs' c0 c1 : Array Value} {R : World→Value→Prop} {v v' : Q4} {x y : W4} {K L : Nat}
theorem in64s {z : Int} (h : z.natAbs≤100) : In64 z:=⟨by omega,by omega⟩
theorem rcos0_v (C : ∀ k' ds,Up k k'→SQ k' ds (cosQ 0) 2→R k' (.agg ds)) :
 Cl k 58 #[.int .i64 0] R:=by
 intro k0 u0
 refine rcos0_vc (new_v (in64s (by decide)) (in64s (by decide)) fun k1 d1 u1 h1=>⟨d1,h1.seg,_,rfl,?_⟩)
 refine new_v (in64s (by decide)) (in64s (by decide)) fun k2 d2 u2 h2=>⟨d2,h2.seg,_,rfl,?_⟩
 refine new_v (in64s (by decide)) (in64s (by decide)) fun k3 d3 u3 h3=>⟨d3,h3.seg,_,rfl,?_⟩
 refine new_v (in64s (by decide)) (in64s (by decide)) fun k4 d4 u4 h4=>⟨d4,h4.seg,_,rfl,fun k9 u9=>?_⟩
 exact C k9 _ (((((u0.trans u1).trans u2).trans u3).trans u4).trans u9) ⟨d1,d2,d3,d4,rfl,((((h1.up u2).up u3).up u4).up u9).cast (by decide +kernel),(((h2.up u3).up u4).up u9).cast (by decide +kernel),((h3.up u4).up u9).cast (by decide +kernel),(h4.up u9).cast (by decide +kernel)⟩
theorem rcos1_v (C : ∀ k' ds,Up k k'→SQ k' ds (cosQ 1) 2→R k' (.agg ds)) :
 Cl k 58 #[.int .i64 1] R:=by
 intro k0 u0
 refine rcos1_vc (new_v (in64s (by decide)) (in64s (by decide)) fun k1 d1 u1 h1=>⟨d1,h1.seg,_,rfl,?_⟩)
 refine new_v (in64s (by decide)) (in64s (by decide)) fun k2 d2 u2 h2=>⟨d2,h2.seg,_,rfl,?_⟩
 refine new_v (in64s (by decide)) (in64s (by decide)) fun k3 d3 u3 h3=>⟨d3,h3.seg,_,rfl,?_⟩
 refine new_v (in64s (by decide)) (in64s (by decide)) fun k4 d4 u4 h4=>⟨d4,h4.seg,_,rfl,fun k9 u9=>?_⟩
 exact C k9 _ (((((u0.trans u1).trans u2).trans u3).trans u4).trans u9) ⟨d1,d2,d3,d4,rfl,((((h1.up u2).up u3).up u4).up u9).cast (by decide +kernel),(((h2.up u3).up u4).up u9).cast (by decide +kernel),((h3.up u4).up u9).cast (by decide +kernel),(h4.up u9).cast (by decide +kernel)⟩
theorem rcos2_v (C : ∀ k' ds,Up k k'→SQ k' ds (cosQ 2) 2→R k' (.agg ds)) :
 Cl k 58 #[.int .i64 2] R:=by
 intro k0 u0
 refine rcos2_vc (new_v (in64s (by decide)) (in64s (by decide)) fun k1 d1 u1 h1=>⟨d1,h1.seg,_,rfl,?_⟩)
 refine new_v (in64s (by decide)) (in64s (by decide)) fun k2 d2 u2 h2=>⟨d2,h2.seg,_,rfl,?_⟩
 refine new_v (in64s (by decide)) (in64s (by decide)) fun k3 d3 u3 h3=>⟨d3,h3.seg,_,rfl,?_⟩
 refine new_v (in64s (by decide)) (in64s (by decide)) fun k4 d4 u4 h4=>⟨d4,h4.seg,_,rfl,fun k9 u9=>?_⟩
 exact C k9 _ (((((u0.trans u1).trans u2).trans u3).trans u4).trans u9) ⟨d1,d2,d3,d4,rfl,((((h1.up u2).up u3).up u4).up u9).cast (by decide +kernel),(((h2.up u3).up u4).up u9).cast (by decide +kernel),((h3.up u4).up u9).cast (by decide +kernel),(h4.up u9).cast (by decide +kernel)⟩
theorem rcos3_v (C : ∀ k' ds,Up k k'→SQ k' ds (cosQ 3) 2→R k' (.agg ds)) :
 Cl k 58 #[.int .i64 3] R:=by
 intro k0 u0
 refine rcos3_vc (new_v (in64s (by decide)) (in64s (by decide)) fun k1 d1 u1 h1=>⟨d1,h1.seg,_,rfl,?_⟩)
 refine new_v (in64s (by decide)) (in64s (by decide)) fun k2 d2 u2 h2=>⟨d2,h2.seg,_,rfl,?_⟩
 refine new_v (in64s (by decide)) (in64s (by decide)) fun k3 d3 u3 h3=>⟨d3,h3.seg,_,rfl,?_⟩
 refine new_v (in64s (by decide)) (in64s (by decide)) fun k4 d4 u4 h4=>⟨d4,h4.seg,_,rfl,fun k9 u9=>?_⟩
 exact C k9 _ (((((u0.trans u1).trans u2).trans u3).trans u4).trans u9) ⟨d1,d2,d3,d4,rfl,((((h1.up u2).up u3).up u4).up u9).cast (by decide +kernel),(((h2.up u3).up u4).up u9).cast (by decide +kernel),((h3.up u4).up u9).cast (by decide +kernel),(h4.up u9).cast (by decide +kernel)⟩
theorem rcos4_v (C : ∀ k' ds,Up k k'→SQ k' ds (cosQ 4) 2→R k' (.agg ds)) :
 Cl k 58 #[.int .i64 4] R:=by
 intro k0 u0
 refine rcos4_vc (new_v (in64s (by decide)) (in64s (by decide)) fun k1 d1 u1 h1=>⟨d1,h1.seg,_,rfl,?_⟩)
 refine new_v (in64s (by decide)) (in64s (by decide)) fun k2 d2 u2 h2=>⟨d2,h2.seg,_,rfl,?_⟩
 refine new_v (in64s (by decide)) (in64s (by decide)) fun k3 d3 u3 h3=>⟨d3,h3.seg,_,rfl,?_⟩
 refine new_v (in64s (by decide)) (in64s (by decide)) fun k4 d4 u4 h4=>⟨d4,h4.seg,_,rfl,fun k9 u9=>?_⟩
 exact C k9 _ (((((u0.trans u1).trans u2).trans u3).trans u4).trans u9) ⟨d1,d2,d3,d4,rfl,((((h1.up u2).up u3).up u4).up u9).cast (by decide +kernel),(((h2.up u3).up u4).up u9).cast (by decide +kernel),((h3.up u4).up u9).cast (by decide +kernel),(h4.up u9).cast (by decide +kernel)⟩
theorem rcos5_v (C : ∀ k' ds,Up k k'→SQ k' ds (cosQ 5) 2→R k' (.agg ds)) :
 Cl k 58 #[.int .i64 5] R:=by
 intro k0 u0
 refine rcos5_vc (new_v (in64s (by decide)) (in64s (by decide)) fun k1 d1 u1 h1=>⟨d1,h1.seg,_,rfl,?_⟩)
 refine new_v (in64s (by decide)) (in64s (by decide)) fun k2 d2 u2 h2=>⟨d2,h2.seg,_,rfl,?_⟩
 refine new_v (in64s (by decide)) (in64s (by decide)) fun k3 d3 u3 h3=>⟨d3,h3.seg,_,rfl,?_⟩
 refine new_v (in64s (by decide)) (in64s (by decide)) fun k4 d4 u4 h4=>⟨d4,h4.seg,_,rfl,fun k9 u9=>?_⟩
 exact C k9 _ (((((u0.trans u1).trans u2).trans u3).trans u4).trans u9) ⟨d1,d2,d3,d4,rfl,((((h1.up u2).up u3).up u4).up u9).cast (by decide +kernel),(((h2.up u3).up u4).up u9).cast (by decide +kernel),((h3.up u4).up u9).cast (by decide +kernel),(h4.up u9).cast (by decide +kernel)⟩
theorem rcos6_v (C : ∀ k' ds,Up k k'→SQ k' ds (cosQ 6) 2→R k' (.agg ds)) :
 Cl k 58 #[.int .i64 6] R:=by
 intro k0 u0
 refine rcos6_vc (new_v (in64s (by decide)) (in64s (by decide)) fun k1 d1 u1 h1=>⟨d1,h1.seg,_,rfl,?_⟩)
 refine new_v (in64s (by decide)) (in64s (by decide)) fun k2 d2 u2 h2=>⟨d2,h2.seg,_,rfl,?_⟩
 refine new_v (in64s (by decide)) (in64s (by decide)) fun k3 d3 u3 h3=>⟨d3,h3.seg,_,rfl,?_⟩
 refine new_v (in64s (by decide)) (in64s (by decide)) fun k4 d4 u4 h4=>⟨d4,h4.seg,_,rfl,fun k9 u9=>?_⟩
 exact C k9 _ (((((u0.trans u1).trans u2).trans u3).trans u4).trans u9) ⟨d1,d2,d3,d4,rfl,((((h1.up u2).up u3).up u4).up u9).cast (by decide +kernel),(((h2.up u3).up u4).up u9).cast (by decide +kernel),((h3.up u4).up u9).cast (by decide +kernel),(h4.up u9).cast (by decide +kernel)⟩
theorem rcos7_v (C : ∀ k' ds,Up k k'→SQ k' ds (cosQ 7) 2→R k' (.agg ds)) :
 Cl k 58 #[.int .i64 7] R:=by
 intro k0 u0
 refine rcos7_vc (rcos5_v fun k1 d1 u1 h1=>?_)
 have h1':=h1
 obtain ⟨a0,a1,a2,a3,rfl,q0,q1,q2,q3⟩:=h1'
 refine ⟨a0,q0.seg,a1,q1.seg,a2,q2.seg,a3,q3.seg,rfl,?_⟩
 refine sneg_v h1 (by decide) fun k3 d3 u3 h3=>?_
 have h3':=h3
 obtain ⟨b0,b1,b2,b3,rfl,r0,r1,r2,r3⟩:=h3'
 exact ⟨b0,r0.seg,b1,r1.seg,b2,r2.seg,b3,r3.seg,rfl,fun k4 u4=>C k4 _ (((u0.trans u1).trans u3).trans u4) (h3.up u4)⟩
theorem rcos8_v (C : ∀ k' ds,Up k k'→SQ k' ds (cosQ 8) 2→R k' (.agg ds)) :
 Cl k 58 #[.int .i64 8] R:=by
 intro k0 u0
 refine rcos8_vc (rcos4_v fun k1 d1 u1 h1=>?_)
 have h1':=h1
 obtain ⟨a0,a1,a2,a3,rfl,q0,q1,q2,q3⟩:=h1'
 refine ⟨a0,q0.seg,a1,q1.seg,a2,q2.seg,a3,q3.seg,rfl,?_⟩
 refine sneg_v h1 (by decide) fun k3 d3 u3 h3=>?_
 have h3':=h3
 obtain ⟨b0,b1,b2,b3,rfl,r0,r1,r2,r3⟩:=h3'
 exact ⟨b0,r0.seg,b1,r1.seg,b2,r2.seg,b3,r3.seg,rfl,fun k4 u4=>C k4 _ (((u0.trans u1).trans u3).trans u4) (h3.up u4)⟩
theorem rcos9_v (C : ∀ k' ds,Up k k'→SQ k' ds (cosQ 9) 2→R k' (.agg ds)) :
 Cl k 58 #[.int .i64 9] R:=by
 intro k0 u0
 refine rcos9_vc (rcos3_v fun k1 d1 u1 h1=>?_)
 have h1':=h1
 obtain ⟨a0,a1,a2,a3,rfl,q0,q1,q2,q3⟩:=h1'
 refine ⟨a0,q0.seg,a1,q1.seg,a2,q2.seg,a3,q3.seg,rfl,?_⟩
 refine sneg_v h1 (by decide) fun k3 d3 u3 h3=>?_
 have h3':=h3
 obtain ⟨b0,b1,b2,b3,rfl,r0,r1,r2,r3⟩:=h3'
 exact ⟨b0,r0.seg,b1,r1.seg,b2,r2.seg,b3,r3.seg,rfl,fun k4 u4=>C k4 _ (((u0.trans u1).trans u3).trans u4) (h3.up u4)⟩
theorem rcos10_v (C : ∀ k' ds,Up k k'→SQ k' ds (cosQ 10) 2→R k' (.agg ds)) :
 Cl k 58 #[.int .i64 10] R:=by
 intro k0 u0
 refine rcos10_vc (rcos2_v fun k1 d1 u1 h1=>?_)
 have h1':=h1
 obtain ⟨a0,a1,a2,a3,rfl,q0,q1,q2,q3⟩:=h1'
 refine ⟨a0,q0.seg,a1,q1.seg,a2,q2.seg,a3,q3.seg,rfl,?_⟩
 refine sneg_v h1 (by decide) fun k3 d3 u3 h3=>?_
 have h3':=h3
 obtain ⟨b0,b1,b2,b3,rfl,r0,r1,r2,r3⟩:=h3'
 exact ⟨b0,r0.seg,b1,r1.seg,b2,r2.seg,b3,r3.seg,rfl,fun k4 u4=>C k4 _ (((u0.trans u1).trans u3).trans u4) (h3.up u4)⟩
theorem rcos11_v (C : ∀ k' ds,Up k k'→SQ k' ds (cosQ 11) 2→R k' (.agg ds)) :
 Cl k 58 #[.int .i64 11] R:=by
 intro k0 u0
 refine rcos11_vc (rcos1_v fun k1 d1 u1 h1=>?_)
 have h1':=h1
 obtain ⟨a0,a1,a2,a3,rfl,q0,q1,q2,q3⟩:=h1'
 refine ⟨a0,q0.seg,a1,q1.seg,a2,q2.seg,a3,q3.seg,rfl,?_⟩
 refine sneg_v h1 (by decide) fun k3 d3 u3 h3=>?_
 have h3':=h3
 obtain ⟨b0,b1,b2,b3,rfl,r0,r1,r2,r3⟩:=h3'
 exact ⟨b0,r0.seg,b1,r1.seg,b2,r2.seg,b3,r3.seg,rfl,fun k4 u4=>C k4 _ (((u0.trans u1).trans u3).trans u4) (h3.up u4)⟩
theorem rcos12_v (C : ∀ k' ds,Up k k'→SQ k' ds (cosQ 12) 2→R k' (.agg ds)) :
 Cl k 58 #[.int .i64 12] R:=by
 intro k0 u0
 refine rcos12_vc (rcos0_v fun k1 d1 u1 h1=>?_)
 have h1':=h1
 obtain ⟨a0,a1,a2,a3,rfl,q0,q1,q2,q3⟩:=h1'
 refine ⟨a0,q0.seg,a1,q1.seg,a2,q2.seg,a3,q3.seg,rfl,?_⟩
 refine sneg_v h1 (by decide) fun k3 d3 u3 h3=>?_
 have h3':=h3
 obtain ⟨b0,b1,b2,b3,rfl,r0,r1,r2,r3⟩:=h3'
 exact ⟨b0,r0.seg,b1,r1.seg,b2,r2.seg,b3,r3.seg,rfl,fun k4 u4=>C k4 _ (((u0.trans u1).trans u3).trans u4) (h3.up u4)⟩
theorem rcos13_v (C : ∀ k' ds,Up k k'→SQ k' ds (cosQ 13) 2→R k' (.agg ds)) :
 Cl k 58 #[.int .i64 13] R:=by
 intro k0 u0
 refine rcos13_vc (rcos1_v fun k1 d1 u1 h1=>?_)
 have h1':=h1
 obtain ⟨a0,a1,a2,a3,rfl,q0,q1,q2,q3⟩:=h1'
 refine ⟨a0,q0.seg,a1,q1.seg,a2,q2.seg,a3,q3.seg,rfl,?_⟩
 refine sneg_v h1 (by decide) fun k3 d3 u3 h3=>?_
 have h3':=h3
 obtain ⟨b0,b1,b2,b3,rfl,r0,r1,r2,r3⟩:=h3'
 exact ⟨b0,r0.seg,b1,r1.seg,b2,r2.seg,b3,r3.seg,rfl,fun k4 u4=>C k4 _ (((u0.trans u1).trans u3).trans u4) (h3.up u4)⟩
theorem rcos14_v (C : ∀ k' ds,Up k k'→SQ k' ds (cosQ 14) 2→R k' (.agg ds)) :
 Cl k 58 #[.int .i64 14] R:=by
 intro k0 u0
 refine rcos14_vc (rcos2_v fun k1 d1 u1 h1=>?_)
 have h1':=h1
 obtain ⟨a0,a1,a2,a3,rfl,q0,q1,q2,q3⟩:=h1'
 refine ⟨a0,q0.seg,a1,q1.seg,a2,q2.seg,a3,q3.seg,rfl,?_⟩
 refine sneg_v h1 (by decide) fun k3 d3 u3 h3=>?_
 have h3':=h3
 obtain ⟨b0,b1,b2,b3,rfl,r0,r1,r2,r3⟩:=h3'
 exact ⟨b0,r0.seg,b1,r1.seg,b2,r2.seg,b3,r3.seg,rfl,fun k4 u4=>C k4 _ (((u0.trans u1).trans u3).trans u4) (h3.up u4)⟩
theorem rcos15_v (C : ∀ k' ds,Up k k'→SQ k' ds (cosQ 15) 2→R k' (.agg ds)) :
 Cl k 58 #[.int .i64 15] R:=by
 intro k0 u0
 refine rcos15_vc (rcos3_v fun k1 d1 u1 h1=>?_)
 have h1':=h1
 obtain ⟨a0,a1,a2,a3,rfl,q0,q1,q2,q3⟩:=h1'
 refine ⟨a0,q0.seg,a1,q1.seg,a2,q2.seg,a3,q3.seg,rfl,?_⟩
 refine sneg_v h1 (by decide) fun k3 d3 u3 h3=>?_
 have h3':=h3
 obtain ⟨b0,b1,b2,b3,rfl,r0,r1,r2,r3⟩:=h3'
 exact ⟨b0,r0.seg,b1,r1.seg,b2,r2.seg,b3,r3.seg,rfl,fun k4 u4=>C k4 _ (((u0.trans u1).trans u3).trans u4) (h3.up u4)⟩
theorem rcos16_v (C : ∀ k' ds,Up k k'→SQ k' ds (cosQ 16) 2→R k' (.agg ds)) :
 Cl k 58 #[.int .i64 16] R:=by
 intro k0 u0
 refine rcos16_vc (rcos4_v fun k1 d1 u1 h1=>?_)
 have h1':=h1
 obtain ⟨a0,a1,a2,a3,rfl,q0,q1,q2,q3⟩:=h1'
 refine ⟨a0,q0.seg,a1,q1.seg,a2,q2.seg,a3,q3.seg,rfl,?_⟩
 refine sneg_v h1 (by decide) fun k3 d3 u3 h3=>?_
 have h3':=h3
 obtain ⟨b0,b1,b2,b3,rfl,r0,r1,r2,r3⟩:=h3'
 exact ⟨b0,r0.seg,b1,r1.seg,b2,r2.seg,b3,r3.seg,rfl,fun k4 u4=>C k4 _ (((u0.trans u1).trans u3).trans u4) (h3.up u4)⟩
theorem rcos17_v (C : ∀ k' ds,Up k k'→SQ k' ds (cosQ 17) 2→R k' (.agg ds)) :
 Cl k 58 #[.int .i64 17] R:=by
 intro k0 u0
 refine rcos17_vc (rcos5_v fun k1 d1 u1 h1=>?_)
 have h1':=h1
 obtain ⟨a0,a1,a2,a3,rfl,q0,q1,q2,q3⟩:=h1'
 refine ⟨a0,q0.seg,a1,q1.seg,a2,q2.seg,a3,q3.seg,rfl,?_⟩
 refine sneg_v h1 (by decide) fun k3 d3 u3 h3=>?_
 have h3':=h3
 obtain ⟨b0,b1,b2,b3,rfl,r0,r1,r2,r3⟩:=h3'
 exact ⟨b0,r0.seg,b1,r1.seg,b2,r2.seg,b3,r3.seg,rfl,fun k4 u4=>C k4 _ (((u0.trans u1).trans u3).trans u4) (h3.up u4)⟩
theorem rcos18_v (C : ∀ k' ds,Up k k'→SQ k' ds (cosQ 18) 2→R k' (.agg ds)) :
 Cl k 58 #[.int .i64 18] R:=by
 intro k0 u0
 refine rcos18_vc (new_v (in64s (by decide)) (in64s (by decide)) fun k1 d1 u1 h1=>⟨d1,h1.seg,_,rfl,?_⟩)
 refine new_v (in64s (by decide)) (in64s (by decide)) fun k2 d2 u2 h2=>⟨d2,h2.seg,_,rfl,?_⟩
 refine new_v (in64s (by decide)) (in64s (by decide)) fun k3 d3 u3 h3=>⟨d3,h3.seg,_,rfl,?_⟩
 refine new_v (in64s (by decide)) (in64s (by decide)) fun k4 d4 u4 h4=>⟨d4,h4.seg,_,rfl,fun k9 u9=>?_⟩
 exact C k9 _ (((((u0.trans u1).trans u2).trans u3).trans u4).trans u9) ⟨d1,d2,d3,d4,rfl,((((h1.up u2).up u3).up u4).up u9).cast (by decide +kernel),(((h2.up u3).up u4).up u9).cast (by decide +kernel),((h3.up u4).up u9).cast (by decide +kernel),(h4.up u9).cast (by decide +kernel)⟩
theorem rcos19_v (C : ∀ k' ds,Up k k'→SQ k' ds (cosQ 19) 2→R k' (.agg ds)) :
 Cl k 58 #[.int .i64 19] R:=by
 intro k0 u0
 refine rcos19_vc (new_v (in64s (by decide)) (in64s (by decide)) fun k1 d1 u1 h1=>⟨d1,h1.seg,_,rfl,?_⟩)
 refine new_v (in64s (by decide)) (in64s (by decide)) fun k2 d2 u2 h2=>⟨d2,h2.seg,_,rfl,?_⟩
 refine new_v (in64s (by decide)) (in64s (by decide)) fun k3 d3 u3 h3=>⟨d3,h3.seg,_,rfl,?_⟩
 refine new_v (in64s (by decide)) (in64s (by decide)) fun k4 d4 u4 h4=>⟨d4,h4.seg,_,rfl,fun k9 u9=>?_⟩
 exact C k9 _ (((((u0.trans u1).trans u2).trans u3).trans u4).trans u9) ⟨d1,d2,d3,d4,rfl,((((h1.up u2).up u3).up u4).up u9).cast (by decide +kernel),(((h2.up u3).up u4).up u9).cast (by decide +kernel),((h3.up u4).up u9).cast (by decide +kernel),(h4.up u9).cast (by decide +kernel)⟩
theorem rcos20_v (C : ∀ k' ds,Up k k'→SQ k' ds (cosQ 20) 2→R k' (.agg ds)) :
 Cl k 58 #[.int .i64 20] R:=by
 intro k0 u0
 refine rcos20_vc (new_v (in64s (by decide)) (in64s (by decide)) fun k1 d1 u1 h1=>⟨d1,h1.seg,_,rfl,?_⟩)
 refine new_v (in64s (by decide)) (in64s (by decide)) fun k2 d2 u2 h2=>⟨d2,h2.seg,_,rfl,?_⟩
 refine new_v (in64s (by decide)) (in64s (by decide)) fun k3 d3 u3 h3=>⟨d3,h3.seg,_,rfl,?_⟩
 refine new_v (in64s (by decide)) (in64s (by decide)) fun k4 d4 u4 h4=>⟨d4,h4.seg,_,rfl,fun k9 u9=>?_⟩
 exact C k9 _ (((((u0.trans u1).trans u2).trans u3).trans u4).trans u9) ⟨d1,d2,d3,d4,rfl,((((h1.up u2).up u3).up u4).up u9).cast (by decide +kernel),(((h2.up u3).up u4).up u9).cast (by decide +kernel),((h3.up u4).up u9).cast (by decide +kernel),(h4.up u9).cast (by decide +kernel)⟩
theorem rcos21_v (C : ∀ k' ds,Up k k'→SQ k' ds (cosQ 21) 2→R k' (.agg ds)) :
 Cl k 58 #[.int .i64 21] R:=by
 intro k0 u0
 refine rcos21_vc (new_v (in64s (by decide)) (in64s (by decide)) fun k1 d1 u1 h1=>⟨d1,h1.seg,_,rfl,?_⟩)
 refine new_v (in64s (by decide)) (in64s (by decide)) fun k2 d2 u2 h2=>⟨d2,h2.seg,_,rfl,?_⟩
 refine new_v (in64s (by decide)) (in64s (by decide)) fun k3 d3 u3 h3=>⟨d3,h3.seg,_,rfl,?_⟩
 refine new_v (in64s (by decide)) (in64s (by decide)) fun k4 d4 u4 h4=>⟨d4,h4.seg,_,rfl,fun k9 u9=>?_⟩
 exact C k9 _ (((((u0.trans u1).trans u2).trans u3).trans u4).trans u9) ⟨d1,d2,d3,d4,rfl,((((h1.up u2).up u3).up u4).up u9).cast (by decide +kernel),(((h2.up u3).up u4).up u9).cast (by decide +kernel),((h3.up u4).up u9).cast (by decide +kernel),(h4.up u9).cast (by decide +kernel)⟩
theorem rcos22_v (C : ∀ k' ds,Up k k'→SQ k' ds (cosQ 22) 2→R k' (.agg ds)) :
 Cl k 58 #[.int .i64 22] R:=by
 intro k0 u0
 refine rcos22_vc (new_v (in64s (by decide)) (in64s (by decide)) fun k1 d1 u1 h1=>⟨d1,h1.seg,_,rfl,?_⟩)
 refine new_v (in64s (by decide)) (in64s (by decide)) fun k2 d2 u2 h2=>⟨d2,h2.seg,_,rfl,?_⟩
 refine new_v (in64s (by decide)) (in64s (by decide)) fun k3 d3 u3 h3=>⟨d3,h3.seg,_,rfl,?_⟩
 refine new_v (in64s (by decide)) (in64s (by decide)) fun k4 d4 u4 h4=>⟨d4,h4.seg,_,rfl,fun k9 u9=>?_⟩
 exact C k9 _ (((((u0.trans u1).trans u2).trans u3).trans u4).trans u9) ⟨d1,d2,d3,d4,rfl,((((h1.up u2).up u3).up u4).up u9).cast (by decide +kernel),(((h2.up u3).up u4).up u9).cast (by decide +kernel),((h3.up u4).up u9).cast (by decide +kernel),(h4.up u9).cast (by decide +kernel)⟩
theorem rcos23_v (C : ∀ k' ds,Up k k'→SQ k' ds (cosQ 23) 2→R k' (.agg ds)) :
 Cl k 58 #[.int .i64 23] R:=by
 intro k0 u0
 refine rcos23_vc (new_v (in64s (by decide)) (in64s (by decide)) fun k1 d1 u1 h1=>⟨d1,h1.seg,_,rfl,?_⟩)
 refine new_v (in64s (by decide)) (in64s (by decide)) fun k2 d2 u2 h2=>⟨d2,h2.seg,_,rfl,?_⟩
 refine new_v (in64s (by decide)) (in64s (by decide)) fun k3 d3 u3 h3=>⟨d3,h3.seg,_,rfl,?_⟩
 refine new_v (in64s (by decide)) (in64s (by decide)) fun k4 d4 u4 h4=>⟨d4,h4.seg,_,rfl,fun k9 u9=>?_⟩
 exact C k9 _ (((((u0.trans u1).trans u2).trans u3).trans u4).trans u9) ⟨d1,d2,d3,d4,rfl,((((h1.up u2).up u3).up u4).up u9).cast (by decide +kernel),(((h2.up u3).up u4).up u9).cast (by decide +kernel),((h3.up u4).up u9).cast (by decide +kernel),(h4.up u9).cast (by decide +kernel)⟩
theorem rcos_v {n : Nat} (hn : n < 24) (C : ∀ k' ds,Up k k'→SQ k' ds (cosQ n) 2→R k' (.agg ds)) :
 Cl k 58 #[.int .i64 (n : Int)] R:=by
 match n,hn with
 | 0,_=>exact rcos0_v C
 | 1,_=>exact rcos1_v C
 | 2,_=>exact rcos2_v C
 | 3,_=>exact rcos3_v C
 | 4,_=>exact rcos4_v C
 | 5,_=>exact rcos5_v C
 | 6,_=>exact rcos6_v C
 | 7,_=>exact rcos7_v C
 | 8,_=>exact rcos8_v C
 | 9,_=>exact rcos9_v C
 | 10,_=>exact rcos10_v C
 | 11,_=>exact rcos11_v C
 | 12,_=>exact rcos12_v C
 | 13,_=>exact rcos13_v C
 | 14,_=>exact rcos14_v C
 | 15,_=>exact rcos15_v C
 | 16,_=>exact rcos16_v C
 | 17,_=>exact rcos17_v C
 | 18,_=>exact rcos18_v C
 | 19,_=>exact rcos19_v C
 | 20,_=>exact rcos20_v C
 | 21,_=>exact rcos21_v C
 | 22,_=>exact rcos22_v C
 | 23,_=>exact rcos23_v C
 | n+24,h=>exact absurd h (by omega)
theorem rturn_v {n : Int} (C : ∀ k' ds,Up k k'→WQ k' ds (turnW (plc n)) 2→R k' (.agg ds)) :
 Cl k 21 #[.int .i64 n] R:=by
 intro k0 u0
 have hl:=plc_lt n
 have e : Int.tmod (IntKind.wrap .i64 ((plc n : Int)+18)) 24 = (((plc n+18) % 24 : Nat) : Int):=by
  generalize plc n = m at hl ⊢
  rw [IntKind.wrap_i64,Int.tmod_eq_emod_of_nonneg (by omega)]
  omega
 refine rTurn_vc ?_
 rw [plc_eq,e]
 refine rcos_v hl fun k2 d2 u2 h2=>⟨d2,h2.seg,rfl,?_⟩
 refine rcos_v (Nat.mod_lt _ (by decide)) fun k4 d4 u4 h4=>⟨d4,h4.seg,rfl,fun k5 u5=>?_⟩
 exact C k5 _ (((u0.trans u2).trans u4).trans u5) ⟨d2,d4,rfl,(h2.up u4).up u5,h4.up u5⟩
end
end Go.Proofs.YtmilhgkacmofmaaGreat.W32

namespace Go.Proofs.YtmilhgkacmofmaaGreat
open Go.RowKit
open Value (agg slice int bool tuple)
open Sy (Up Sees CallsG Seg execFn_use)
set_option maxRecDepth 100000
variable {k : World} {R : World→Value→Prop}
theorem Of_vc {n0 n1 : Int}
 (h : (((n1 : Int) == 0) = true →
 (Cl k 34 #[int .i64 n0] fun k1 r0=>Gt 3 r0 fun cs2 =>
 ∀ k2,Up k1 k2→R k2 (agg cs2))) ∧
 (((n1 : Int) == 0) = false →
 (Cl k 35 #[int .i64 n0,int .i64 n1] fun k4 r3=>∃ cs2,Seg 3 cs2∧∃ n3,some (tuple #[agg cs2,int .i64 n3]) = some r3 ∧
 ∀ k5,Up k4 k5→R k5 (agg cs2)))) :
  CallsG Tryz.prog 10 #[agg #[int .i64 n0,int .i64 n1]] k R :=
  execFn_use (cfg:={ opq:=[63] }) (args:=[.agg [.var 0,.var 1]]) (vals:=[int .i64 n0,int .i64 n1]) (kinds:=[.int .i64,.int .i64]) (by kernel_rfl) ⟨⟨_,rfl⟩,⟨⟨_,rfl⟩,trivial⟩⟩ (by kernel_rfl) (by kernel_rfl) h
end Go.Proofs.YtmilhgkacmofmaaGreat

namespace Go.Proofs.YtmilhgkacmofmaaGreat
open Go.RowKit Num W32
open Sy (Up Sees CallsG)
section
variable {k k' : World} {R : World→Value→Prop} {x y q : Rat} {K L : Nat} {cs cs' : Array Value} {g : Bool} {A A' : Option Addr} {l c l' c' : Nat}
theorem Of_s {n d : Int} (hn : In64 n) (hd : In64 d) (C : ∀ k' ds,Up k k'→RatV k' ds (ofQ n d) 1→R k' (.agg ds)) : Cl k 10 #[.agg #[.int .i64 n,.int .i64 d]] R:=by
 intro k0 u0
 refine Of_vc ⟨fun hb=>?_,fun hb=>?_⟩
 ·have e : d = 0:=eq_of_beq hb
  refine QInt_s hn.1 hn.2 ?_
  intro k1 c1 u1 h1
  refine ⟨c1,h1.seg,rfl,?_⟩
  intro k2 u2
  refine C k2 c1 (u0.trans (u1.trans u2)) ?_
  unfold ofQ
  rw [if_pos e]
  exact h1.up u2
 ·have e : ¬ d = 0:=by simpa using hb
  refine QNew_s hn.1 hn.2 hd.1 hd.2 ?_
  intro k1 c1 u1 h1
  refine ⟨c1,h1.seg,_,rfl,?_⟩
  intro k2 u2
  refine C k2 c1 (u0.trans (u1.trans u2)) ?_
  unfold ofQ
  rw [if_neg e]
  exact h1.up u2
end
end Go.Proofs.YtmilhgkacmofmaaGreat

namespace Go.Proofs.YtmilhgkacmofmaaGreat
open Go.RowKit
open Value (agg slice int bool tuple)
open Sy (Up Sees CallsG Seg execFn_use)
set_option maxRecDepth 100000
variable {k : World} {R : World→Value→Prop}
end Go.Proofs.YtmilhgkacmofmaaGreat

namespace Go.Proofs.YtmilhgkacmofmaaGreat.W32
open Go.RowKit Num
open Sy (Up Sees CallsG Seg)
section
variable {k k' : World} {cs cs' c0 c1 c2 c3 : Array Value} {R : World→Value→Prop} {x y q q' : Rat} {v v' : Q4} {K L : Nat}
end
end Go.Proofs.YtmilhgkacmofmaaGreat.W32

namespace Go.Proofs.YtmilhgkacmofmaaGreat
open Go.RowKit
open Value (agg slice int bool tuple)
open Sy (Up Sees CallsG Seg execFn_use)
set_option maxRecDepth 100000
variable {k : World} {R : World→Value→Prop}
theorem OfQuad_vc {n0 n1 n2 n3 n4 n5 n6 n7 : Int}
 (h : Cl k 10 #[agg #[int .i64 n0,int .i64 n1]] fun k1 r0=>Gt 3 r0 fun cs8 =>
 Cl k1 10 #[agg #[int .i64 n2,int .i64 n3]] fun k3 r2=>Gt 3 r2 fun cs9 =>
 Cl k3 10 #[agg #[int .i64 n4,int .i64 n5]] fun k5 r4=>Gt 3 r4 fun cs10 =>
 Cl k5 10 #[agg #[int .i64 n6,int .i64 n7]] fun k7 r6=>Gt 3 r6 fun cs11 =>
 Cl k7 51 #[agg (cs8.toList ++ (cs9.toList ++ (cs10.toList ++ (cs11.toList ++ ([]))))).toArray] fun k9 r8=>Gt 9 r8 fun cs12 =>
 ∀ k10,Up k9 k10→R k10 (agg cs12)) :
  CallsG Tryz.prog 14 #[agg #[int .i64 n0,int .i64 n1,int .i64 n2,int .i64 n3,int .i64 n4,int .i64 n5,int .i64 n6,int .i64 n7]] k R :=
  execFn_use (cfg:={ opq:=[63,35] }) (args:=[.agg [.var 0,.var 1,.var 2,.var 3,.var 4,.var 5,.var 6,.var 7]]) (vals:=[int .i64 n0,int .i64 n1,int .i64 n2,int .i64 n3,int .i64 n4,int .i64 n5,int .i64 n6,int .i64 n7]) (kinds:=[.int .i64,.int .i64,.int .i64,.int .i64,.int .i64,.int .i64,.int .i64,.int .i64]) (by kernel_rfl) ⟨⟨_,rfl⟩,⟨⟨_,rfl⟩,⟨⟨_,rfl⟩,⟨⟨_,rfl⟩,⟨⟨_,rfl⟩,⟨⟨_,rfl⟩,⟨⟨_,rfl⟩,⟨⟨_,rfl⟩,trivial⟩⟩⟩⟩⟩⟩⟩⟩ (by kernel_rfl) (by kernel_rfl) h
theorem OfWave_vc {n0 n1 n2 n3 n4 n5 n6 n7 n8 n9 n10 n11 n12 n13 n14 n15 : Int}
 (h : Cl k 14 #[agg #[int .i64 n0,int .i64 n1,int .i64 n2,int .i64 n3,int .i64 n4,int .i64 n5,int .i64 n6,int .i64 n7]] fun k1 r0=>Gt 9 r0 fun cs16 =>
 Cl k1 14 #[agg #[int .i64 n8,int .i64 n9,int .i64 n10,int .i64 n11,int .i64 n12,int .i64 n13,int .i64 n14,int .i64 n15]] fun k3 r2=>Gt 9 r2 fun cs17 =>
 Cl k3 16 #[agg cs16,agg cs17] fun k5 r4=>∃ cs18,Seg 9 cs18∧∃ cs19,Seg 9 cs19∧some (agg (cs18.toList ++ (cs19.toList ++ ([]))).toArray) = some r4 ∧
 ∀ k6,Up k5 k6→R k6 (agg (cs18.toList ++ (cs19.toList ++ ([]))).toArray)) :
  CallsG Tryz.prog 5 #[agg #[int .i64 n0,int .i64 n1,int .i64 n2,int .i64 n3,int .i64 n4,int .i64 n5,int .i64 n6,int .i64 n7,int .i64 n8,int .i64 n9,int .i64 n10,int .i64 n11,int .i64 n12,int .i64 n13,int .i64 n14,int .i64 n15]] k R :=
  execFn_use (cfg:={ opq:=[35] }) (args:=[.agg [.var 0,.var 1,.var 2,.var 3,.var 4,.var 5,.var 6,.var 7,.var 8,.var 9,.var 10,.var 11,.var 12,.var 13,.var 14,.var 15]]) (vals:=[int .i64 n0,int .i64 n1,int .i64 n2,int .i64 n3,int .i64 n4,int .i64 n5,int .i64 n6,int .i64 n7,int .i64 n8,int .i64 n9,int .i64 n10,int .i64 n11,int .i64 n12,int .i64 n13,int .i64 n14,int .i64 n15]) (kinds:=[.int .i64,.int .i64,.int .i64,.int .i64,.int .i64,.int .i64,.int .i64,.int .i64,.int .i64,.int .i64,.int .i64,.int .i64,.int .i64,.int .i64,.int .i64,.int .i64]) (by kernel_rfl) ⟨⟨_,rfl⟩,⟨⟨_,rfl⟩,⟨⟨_,rfl⟩,⟨⟨_,rfl⟩,⟨⟨_,rfl⟩,⟨⟨_,rfl⟩,⟨⟨_,rfl⟩,⟨⟨_,rfl⟩,⟨⟨_,rfl⟩,⟨⟨_,rfl⟩,⟨⟨_,rfl⟩,⟨⟨_,rfl⟩,⟨⟨_,rfl⟩,⟨⟨_,rfl⟩,⟨⟨_,rfl⟩,⟨⟨_,rfl⟩,trivial⟩⟩⟩⟩⟩⟩⟩⟩⟩⟩⟩⟩⟩⟩⟩⟩ (by kernel_rfl) (by kernel_rfl) h
end Go.Proofs.YtmilhgkacmofmaaGreat

namespace Go.Proofs.YtmilhgkacmofmaaGreat
open Go.RowKit Num Plain W32
open Sy (Up Sees CallsG Seg)
section
variable {k k' : World} {R : World→Value→Prop} {x q : Rat} {K L : Nat} {cs cs' : Array Value} {v : Q4} {w : W4}
theorem OfQuad_s {n0 n1 n2 n3 n4 n5 n6 n7 : Int} (h0 : In64 n0) (h1 : In64 n1) (h2 : In64 n2) (h3 : In64 n3) (h4 : In64 n4) (h5 : In64 n5) (h6 : In64 n6) (h7 : In64 n7) (C : ∀ k' ds,Up k k'→SurdV k' ds ⟨ofQ n0 n1,ofQ n2 n3,ofQ n4 n5,ofQ n6 n7⟩ 6→R k' (.agg ds)) :
 Cl k 14 #[.agg #[.int .i64 n0,.int .i64 n1,.int .i64 n2,.int .i64 n3,.int .i64 n4,.int .i64 n5,.int .i64 n6,.int .i64 n7]] R:=by
 intro k0 u0
 replace C:=fun k' ds u=>C k' ds (u0.trans u)
 refine OfQuad_vc ?_
 refine Of_s h0 h1 ?_
 intro k1 c1 u1 q1
 refine ⟨c1,q1.seg,rfl,?_⟩
 refine Of_s h2 h3 ?_
 intro k2 c2 u2 q2
 refine ⟨c2,q2.seg,rfl,?_⟩
 refine Of_s h4 h5 ?_
 intro k3 c3 u3 q3
 refine ⟨c3,q3.seg,rfl,?_⟩
 refine Of_s h6 h7 ?_
 intro k4 c4 u4 q4
 refine ⟨c4,q4.seg,rfl,?_⟩
 refine Make_s (((q1.up u2).up u3).up u4) ((q2.up u3).up u4) (q3.up u4) q4 (by omega) (by omega) ?_
 intro k5 c5 u5 h5
 refine ⟨c5,h5.seg,rfl,?_⟩
 intro k6 u6
 exact C k6 c5 (((((u1.trans u2).trans u3).trans u4).trans u5).trans u6) (h5.up u6)
theorem OfWave_s {n0 n1 n2 n3 n4 n5 n6 n7 n8 n9 n10 n11 n12 n13 n14 n15 : Int} (h0 : In64 n0) (h1 : In64 n1) (h2 : In64 n2) (h3 : In64 n3) (h4 : In64 n4) (h5 : In64 n5) (h6 : In64 n6) (h7 : In64 n7) (h8 : In64 n8) (h9 : In64 n9) (h10 : In64 n10) (h11 : In64 n11) (h12 : In64 n12) (h13 : In64 n13) (h14 : In64 n14) (h15 : In64 n15) (C : ∀ k' ds,Up k k'→WaveV k' ds ⟨⟨ofQ n0 n1,ofQ n2 n3,ofQ n4 n5,ofQ n6 n7⟩,⟨ofQ n8 n9,ofQ n10 n11,ofQ n12 n13,ofQ n14 n15⟩⟩ 6→R k' (.agg ds)) :
 Cl k 5 #[.agg #[.int .i64 n0,.int .i64 n1,.int .i64 n2,.int .i64 n3,.int .i64 n4,.int .i64 n5,.int .i64 n6,.int .i64 n7,.int .i64 n8,.int .i64 n9,.int .i64 n10,.int .i64 n11,.int .i64 n12,.int .i64 n13,.int .i64 n14,.int .i64 n15]] R:=by
 intro k0 u0
 refine OfWave_vc (OfQuad_s h0 h1 h2 h3 h4 h5 h6 h7 fun k1 d1 u1 q1=>⟨d1,q1.seg,rfl,?_⟩)
 refine OfQuad_s h8 h9 h10 h11 h12 h13 h14 h15 fun k3 d3 u3 q3=>⟨d3,q3.seg,rfl,?_⟩
 refine pair_s (q1.up u3) q3 fun k5 d5 u5 q5=>?_
 have q5':=q5
 obtain ⟨a,b,rfl,a0,b0⟩:=q5'
 exact ⟨a,a0.seg,b,b0.seg,rfl,fun k6 u6=>C k6 _ ((((u0.trans u1).trans u3).trans u5).trans u6) (q5.up u6)⟩
end
end Go.Proofs.YtmilhgkacmofmaaGreat

