/- Several texts in one. (Printed by prep.py.) -/
import Derived.Test.YtpjakokgmgggiaaGreatSuVS
import Derived.Test.YtpjakokgmgggiaaGreatProg
import Derived.Test.YtpjakokgmgggiaaGreatSuSy14
import Derived.Test.YtpjakokgmgggiaaGreatSuQ5
import Derived.Test.YtpjakokgmgggiaaGreatSuG2
import Derived.Test.YtpjakokgmgggiaaGreatSuS4
import Derived.Test.YtpjakokgmgggiaaGreatSuS5
import Derived.Test.YtpjakokgmgggiaaGreatSuS6
/- What is to be shown of the calls of some functions. (Printed by gen/vc.py.) -/
namespace Go.Proofs.YtpjakokgmgggiaaGreat
open Go.RowKit
open Value (agg slice int bool tuple)
open Sy (Up Sees CallsG Seg execFn_use)
set_option maxRecDepth 100000
variable {k : World} {R : World→Value→Prop}
theorem Is_vc {cs0 : Array Value} {b1 : Bool} {A2 : Option Addr} {l2 c2 : Nat} {A3 : Option Addr} {l3 c3 : Nat} (hcs0 : Seg 3 cs0)
 (h : Cl k 137 #[agg cs0] fun k1 r0=>∃ s4,some (Value.string s4) = some r0 ∧
 Cl k1 138 #[agg #[bool b1,slice A2 l2 c2,slice A3 l3 c3]] fun k3 r2=>∃ s5,some (Value.string s5) = some r2 ∧
 ∀ k4,Up k3 k4→R k4 (bool (ByteArray.toList s4 == ByteArray.toList s5))) :
  CallsG Tryz.prog 19 #[agg cs0,agg #[bool b1,slice A2 l2 c2,slice A3 l3 c3]] k R :=
  execFn_use (cfg:={ opq:=[30] }) (args:=[.agg [.seg 0 3],.agg [.var 1,.var 2,.var 3]]) (vals:=[agg cs0,bool b1,slice A2 l2 c2,slice A3 l3 c3]) (kinds:=[.seg 3,.bool,.slice,.slice]) (by kernel_rfl) ⟨⟨cs0,rfl,hcs0⟩,⟨⟨_,rfl⟩,⟨⟨_,_,_,rfl⟩,⟨⟨_,_,_,rfl⟩,trivial⟩⟩⟩⟩ (by kernel_rfl) (by kernel_rfl) h
theorem Of_vc {n0 n1 : Int}
 (h : (((n1 : Int) == 0) = true →
 (Cl k 94 #[int .i64 n0] fun k1 r0=>Gt 3 r0 fun cs2 =>
 ∀ k2,Up k1 k2→R k2 (agg cs2))) ∧
 (((n1 : Int) == 0) = false →
 (Cl k 127 #[int .i64 n0,int .i64 n1] fun k4 r3=>∃ cs2,Seg 3 cs2∧∃ n3,some (tuple #[agg cs2,int .i64 n3]) = some r3 ∧
 ∀ k5,Up k4 k5→R k5 (agg cs2)))) :
  CallsG Tryz.prog 15 #[agg #[int .i64 n0,int .i64 n1]] k R :=
  execFn_use (cfg:={ opq:=[30] }) (args:=[.agg [.var 0,.var 1]]) (vals:=[int .i64 n0,int .i64 n1]) (kinds:=[.int .i64,.int .i64]) (by kernel_rfl) ⟨⟨_,rfl⟩,⟨⟨_,rfl⟩,trivial⟩⟩ (by kernel_rfl) (by kernel_rfl) h
end Go.Proofs.YtpjakokgmgggiaaGreat

/- Laws of layer 1: a fraction is the reference's; plain data. -/
namespace Go.Proofs.YtpjakokgmgggiaaGreat
open Go.RowKit Num W32
open Sy (Up Sees CallsG)
section
variable {k k' : World} {R : World→Value→Prop} {x y q : Rat} {K L : Nat} {cs cs' : Array Value} {g : Bool} {A A' : Option Addr} {l c l' c' : Nat}
theorem is_s (hx : RatV k cs x K) (hK : K≤8589934592) (h : QN k g A l c A' l' c' x) (hl : l≤34359738368) (hl' : l'≤34359738368) (C : ∀ k',Up k k'→R k' (.bool true)) :
 Cl k 19 #[.agg cs,.agg #[.bool g,.slice A l c,.slice A' l' c']] R:=by
 intro k0 u0
 refine Is_vc (hx.seg) (QText_s (hx.up u0) hK fun k1 u1=>⟨_,rfl,rtext_s ((h.up u0).up u1) hl hl' fun k3 u3=>⟨_,rfl,fun k4 u4=>?_⟩⟩)
 have:=C k4 (((u0.trans u1).trans u3).trans u4)
 rw [show (ByteArray.toList ⟨(ratText x).toArray⟩ == ByteArray.toList ⟨(ratText x).toArray⟩) = true from beq_self_eq_true _]
 exact this
theorem Of_s {n d : Int} (hn : In64 n) (hd : In64 d) (C : ∀ k' ds,Up k k'→RatV k' ds (ofQ n d) 1→R k' (.agg ds)) : Cl k 15 #[.agg #[.int .i64 n,.int .i64 d]] R:=by
 intro k0 u0
 refine Of_vc ⟨fun hb=>?_,fun hb=>?_⟩
 ·have e : d = 0:=eq_of_beq hb
  refine QInt_s hn.1 hn.2 ?_
  intro k1 c1 u1 h1
  refine ⟨c1,h1.seg,rfl,?_⟩
  intro k2 u2
  refine C k2 c1 (u0.trans (u1.trans u2)) ?_
  unfold ofQ
  rw [if_pos e]
  exact h1.up u2
 ·have e : ¬ d = 0:=by simpa using hb
  refine QNew_s hn.1 hn.2 hd.1 hd.2 ?_
  intro k1 c1 u1 h1
  refine ⟨c1,h1.seg,_,rfl,?_⟩
  intro k2 u2
  refine C k2 c1 (u0.trans (u1.trans u2)) ?_
  unfold ofQ
  rw [if_neg e]
  exact h1.up u2
theorem is_v (hx : RatV k cs x K) (hK : K≤8589934592) (h : QV k cs' x L) (hL : L≤34359738368) (C : ∀ k',Up k k'→R k' (.bool true)) :
 Cl k 19 #[.agg cs,.agg cs'] R:=by
 obtain ⟨_,_,_,_,_,_,_,rfl,h,l1,l2⟩:=h
 exact is_s hx hK h (by omega) (by omega) C
end
end Go.Proofs.YtpjakokgmgggiaaGreat

/- Complex numbers of Surds, the turns by 24ths, and their sums. No program. -/
namespace Go.Proofs.YtpjakokgmgggiaaGreat
open Num Plain
structure W4 where
 (re im : Q4)
theorem W4.ext' {x y : W4} (h1 : x.re = y.re) (h2 : x.im = y.im) : x = y:=by cases x; cases y; simp_all
instance : DecidableEq Q4:=fun x y=>decidable_of_iff (x.a = y.a∧x.b = y.b∧x.c = y.c∧x.d = y.d)
 ⟨fun ⟨h1,h2,h3,h4⟩=>Q4.ext' h1 h2 h3 h4,fun h=>by rw [h]; exact ⟨rfl,rfl,rfl,rfl⟩⟩
instance : DecidableEq W4:=fun x y=>decidable_of_iff (x.re = y.re∧x.im = y.im)
 ⟨fun ⟨h1,h2⟩=>W4.ext' h1 h2,fun h=>by rw [h]; exact ⟨rfl,rfl⟩⟩
def W4.add (x y : W4) : W4:=⟨x.re.add y.re,x.im.add y.im⟩
def W4.sub (x y : W4) : W4:=⟨x.re.sub y.re,x.im.sub y.im⟩
def W4.mul (x y : W4) : W4:=⟨(x.re.mul y.re).sub (x.im.mul y.im),(x.re.mul y.im).add (x.im.mul y.re)⟩
def W4.neg (x : W4) : W4:=⟨x.re.neg,x.im.neg⟩
def W4.conj (x : W4) : W4:=⟨x.re,x.im.neg⟩
def W4.norm (x : W4) : Q4:=(x.re.mul x.re).add (x.im.mul x.im)
def W4.zero : W4:=⟨Q4.zero,Q4.zero⟩
def W4.real (q : Rat) : W4:=⟨Q4.real q,Q4.zero⟩
theorem Q4.sub_zero_iff {x y : Q4} : x.sub y = Q4.zero↔x = y:=by
 constructor
 ·intro h
  have ha:=congrArg Q4.a h
  have hb:=congrArg Q4.b h
  have hc:=congrArg Q4.c h
  have hd:=congrArg Q4.d h
  simp only [Q4.sub,Q4.add,Q4.neg,Q4.zero] at ha hb hc hd
  exact Q4.ext' (by grind) (by grind) (by grind) (by grind)
 ·intro h
  subst h
  simp only [Q4.sub,Q4.add,Q4.neg,Q4.zero]
  exact Q4.ext' (by grind) (by grind) (by grind) (by grind)
def cosB : Nat→Q4
 | 0=>⟨1,0,0,0⟩
 | 1=>⟨0,1 / 4,0,1 / 4⟩
 | 2=>⟨0,0,1 / 2,0⟩
 | 3=>⟨0,1 / 2,0,0⟩
 | 4=>⟨1 / 2,0,0,0⟩
 | 5=>⟨0,-1 / 4,0,1 / 4⟩
 | _=>⟨0,0,0,0⟩
def cosM (m : Nat) : Q4:=if 6 < m then (cosB (12 - m)).neg else cosB m
def cosQ (n : Nat) : Q4:=if 12 < n then cosM (24 - n) else cosM n
def turnW (n : Nat) : W4:=⟨cosQ n,cosQ ((n+18) % 24)⟩
def plc (k : Int) : Nat:=(k % 24).toNat
def sumP (k : Nat) : Nat→W4
 | 0=>W4.zero
 | j+1=>(sumP k j).add (turnW (j*k % 24))
def q4s (q : Rat) : Bool:=(4*q).den == 1 && decide ((4*q).num.natAbs≤1000)
def Q4.small (v : Q4) : Bool:=q4s v.a && q4s v.b && q4s v.c && q4s v.d
def W4.small (v : W4) : Bool:=v.re.small && v.im.small
end Go.Proofs.YtpjakokgmgggiaaGreat

/- Quotients of Surds and of complex numbers. No program. -/
namespace Go.Proofs.YtpjakokgmgggiaaGreat
open Num Plain
def Q4.t1 (y : Q4) : Q4:=⟨y.a,-y.b,y.c,-y.d⟩
def Q4.t2 (y : Q4) : Q4:=⟨y.a,y.b,-y.c,-y.d⟩
def Q4.cnj (y : Q4) : Q4:=(y.t1.mul y.t2).mul y.t1.t2
def Q4.div (x y : Q4) : Q4:=⟨(x.mul y.cnj).a / (y.mul y.cnj).a,(x.mul y.cnj).b / (y.mul y.cnj).a,(x.mul y.cnj).c / (y.mul y.cnj).a,(x.mul y.cnj).d / (y.mul y.cnj).a⟩
theorem Q4.cnj_norm (y : Q4) : (y.mul y.cnj).b = 0∧(y.mul y.cnj).c = 0∧(y.mul y.cnj).d = 0:=by
 obtain ⟨a,b,c,d⟩:=y
 simp only [Q4.cnj,Q4.mul,Q4.t1,Q4.t2]
 refine ⟨?_,?_,?_⟩ <;> grind
theorem Q4.t1_ne {y : Q4} (h : y ≠ Q4.zero) : y.t1 ≠ Q4.zero:=fun e=>h (by
 have ha:=congrArg Q4.a e
 have hb:=congrArg Q4.b e
 have hc:=congrArg Q4.c e
 have hd:=congrArg Q4.d e
 simp only [Q4.t1,Q4.zero] at ha hb hc hd
 exact Q4.ext' ha (by show y.b = 0; grind) hc (by show y.d = 0; grind))
theorem Q4.t2_ne {y : Q4} (h : y ≠ Q4.zero) : y.t2 ≠ Q4.zero:=fun e=>h (by
 have ha:=congrArg Q4.a e
 have hb:=congrArg Q4.b e
 have hc:=congrArg Q4.c e
 have hd:=congrArg Q4.d e
 simp only [Q4.t2,Q4.zero] at ha hb hc hd
 exact Q4.ext' ha hb (by show y.c = 0; grind) (by show y.d = 0; grind))
theorem Q4.norm_ne {y : Q4} (h : y ≠ Q4.zero) : (y.mul y.cnj).a ≠ 0:=by
 intro ha
 obtain ⟨hb,hc,hd⟩:=Q4.cnj_norm y
 have e : y.mul y.cnj = Q4.zero:=Q4.ext' ha hb hc hd
 have e2 : y.toQ*((y.t1.toQ*y.t2.toQ)*y.t1.t2.toQ) = 0:=by
  rw [← toQ_mul,← toQ_mul,← toQ_mul]
  exact (congrArg Q4.toQ e).trans toQ_zero
 exact C.mul_ne (e4_ne.2 h) (C.mul_ne (C.mul_ne (e4_ne.2 (Q4.t1_ne h)) (e4_ne.2 (Q4.t2_ne h))) (e4_ne.2 (Q4.t2_ne (Q4.t1_ne h)))) e2
theorem Q4.div_mul {x y : Q4} (h : y ≠ Q4.zero) : (x.div y).toQ*y.toQ = x.toQ:=by
 have hn:=Q4.norm_ne h
 obtain ⟨hb,hc,hd⟩:=Q4.cnj_norm y
 have e2 : y.toQ*y.cnj.toQ = em (y.mul y.cnj).a:=by
  rw [← toQ_mul]
  show e4 _ _ _ _ = e4 _ 0 0 0
  rw [hb,hc,hd]
 have e1 : (x.div y).toQ = (x.toQ*y.cnj.toQ)*em (1 / (y.mul y.cnj).a):=by
  rw [← toQ_mul]
  show e4 _ _ _ _ = e4 _ _ _ _*_
  rw [e4_em]
  simp only [Rat.div_def,Rat.one_mul]
  rfl
 have e3 : em (y.mul y.cnj).a*em (1 / (y.mul y.cnj).a) = 1:=by
  rw [em_mul,Rat.div_def,Rat.one_mul,Rat.mul_inv_cancel _ hn,em_one]
 rw [e1]
 generalize em (1 / (y.mul y.cnj).a) = r at e3 ⊢
 rw [← e2] at e3
 generalize x.toQ = a at e3 ⊢
 generalize y.toQ = b at e3 ⊢
 generalize y.cnj.toQ = c at e3 ⊢
 have e4 : (a*c*r)*b = a*(b*c*r):=by
  (refine Q23.ext' (Q2.ext' ?_ ?_) (Q2.ext' ?_ ?_) <;> (simp only [Q23.mul_re,Q23.mul_im,Q2.add_re,Q2.add_im,Q2.mul_re,Q2.mul_im,Q2.three_re,Q2.three_im]; grind))
 rw [e4,e3]
 (refine Q23.ext' (Q2.ext' ?_ ?_) (Q2.ext' ?_ ?_) <;> (simp only [Q23.mul_re,Q23.mul_im,Q23.one_re,Q23.one_im,Q2.add_re,Q2.add_im,Q2.mul_re,Q2.mul_im,Q2.one_re,Q2.one_im,Q2.zero_re,Q2.zero_im,Q2.three_re,Q2.three_im]; grind))
theorem Q4.div_uniq {x y q : Q4} (h : y ≠ Q4.zero) (hq : q.toQ*y.toQ = x.toQ) : q = x.div y:=by
 have e:=Q4.div_mul (x:=x) h
 apply toQ_inj
 have e1 : (q.sub (x.div y)).toQ*y.toQ = 0:=by
  rw [toQ_sub]
  have : (q.toQ - (x.div y).toQ)*y.toQ = q.toQ*y.toQ - (x.div y).toQ*y.toQ:=by
   generalize q.toQ = a
   generalize (x.div y).toQ = b
   generalize y.toQ = c
   (refine Q23.ext' (Q2.ext' ?_ ?_) (Q2.ext' ?_ ?_) <;> (simp only [Q23.mul_re,Q23.mul_im,Q23.sub_re,Q23.sub_im,Q2.add_re,Q2.add_im,Q2.mul_re,Q2.mul_im,Q2.sub_re,Q2.sub_im,Q2.three_re,Q2.three_im]; grind))
  rw [this,hq,e]
  generalize x.toQ = a
  (refine Q23.ext' (Q2.ext' ?_ ?_) (Q2.ext' ?_ ?_) <;> (simp only [Q23.sub_re,Q23.sub_im,Q23.zero_re,Q23.zero_im,Q2.sub_re,Q2.sub_im,Q2.zero_re,Q2.zero_im]; grind))
 have e2 : q.sub (x.div y) = Q4.zero:=Classical.byContradiction fun hn=>C.mul_ne (e4_ne.2 hn) (e4_ne.2 h) e1
 rw [Q4.sub_zero_iff.1 e2]
theorem Q4.div_zero (x : Q4) : x.div Q4.zero = Q4.zero:=by
 have h : (Q4.zero.mul Q4.zero.cnj).a = 0:=by simp only [Q4.cnj,Q4.mul,Q4.zero,Q4.t1,Q4.t2]; grind
 unfold Q4.div
 rw [h]
 refine Q4.ext' ?_ ?_ ?_ ?_ <;> (show _ / (0 : Rat) = 0; rw [Rat.div_def]; simp)
theorem Q4.zero_iff (v : Q4) : decide (v = Q4.zero) = (decide (v.a = 0) && decide (v.b = 0) && decide (v.c = 0) && decide (v.d = 0)):=by
 rw [Bool.eq_iff_iff]
 simp only [Bool.and_eq_true,decide_eq_true_iff]
 constructor
 ·intro h; subst h; exact ⟨⟨⟨rfl,rfl⟩,rfl⟩,rfl⟩
 ·intro ⟨⟨⟨h1,h2⟩,h3⟩,h4⟩; exact Q4.ext' h1 h2 h3 h4
def W4.div (x y : W4) : W4:=⟨(x.mul y.conj).re.div y.norm,(x.mul y.conj).im.div y.norm⟩
end Go.Proofs.YtpjakokgmgggiaaGreat

/- What is to be shown of the calls of some functions. (Printed by gen/vc.py.) -/
namespace Go.Proofs.YtpjakokgmgggiaaGreat
open Go.RowKit
open Value (agg slice int bool tuple)
open Sy (Up Sees CallsG Seg execFn_use)
set_option maxRecDepth 100000
variable {k : World} {R : World→Value→Prop}
end Go.Proofs.YtpjakokgmgggiaaGreat

/- Waves of the program. (Printed by gen/waves.py.) -/
namespace Go.Proofs.YtpjakokgmgggiaaGreat
open Go.RowKit Num Plain
open Sy (Up Sees CallsG Seg)
def cat2 (c0 c1 : Array Value) : Array Value:=(c0.toList ++ (c1.toList ++ ([]))).toArray
def WaveV (k : World) (cs : Array Value) (w : W4) (K : Nat) : Prop:=∃ c0 c1 : Array Value,cs = cat2 c0 c1∧SurdV k c0 w.re K∧SurdV k c1 w.im K
section
variable {k k' : World} {cs cs' c0 c1 : Array Value} {R : World→Value→Prop} {v v' : Q4} {x y : W4} {K L : Nat}
theorem SZero_d (hx : SurdV k cs v K) (hK : K≤268435456) (C : ∀ k',Up k k'→R k' (.bool (decide (v = Q4.zero)))) :
 Cl k 90 #[.agg cs] R :=
 SZero_s hx hK fun k' u b hb=>by
  have e : b = decide (v = Q4.zero):=by rw [Bool.eq_iff_iff,hb,decide_eq_true_iff]
  rw [e]; exact C k' u
theorem SSame_d (hx : SurdV k cs v K) (hy : SurdV k cs' v' K) (hK1 : 1≤K) (hK : K≤134217727) (C : ∀ k',Up k k'→R k' (.bool (decide (v = v')))) :
 Cl k 88 #[.agg cs,.agg cs'] R :=
 SSame_s hx hy hK1 hK fun k' u b hb=>by
  have e : b = decide (v = v'):=by rw [Bool.eq_iff_iff,hb,decide_eq_true_iff,Q4.sub_zero_iff]
  rw [e]; exact C k' u
theorem SDiv_z (hx : SurdV k cs v K) (hy : SurdV k cs' v' K) (hz : v' = Q4.zero) (hK : K≤33554431) (C : ∀ k',Up k k'→R k' (.tuple #[.agg #[.bool false,.slice none 0 0,.bool false,.slice none 0 0,.bool false,.slice none 0 0,.bool false,.slice none 0 0,.slice none 0 0],.int .i64 3])) :
 Cl k 69 #[.agg cs,.agg cs'] R:=by
 intro k0 u0
 obtain ⟨_,_,_,_,D,d,e,x0,x1,x2,x3,m,rfl,hm,hg,rfl,i0,i1,i2,i3,lx,hd⟩:=hx.up u0
 have hy':=hy.up u0
 obtain ⟨_,_,_,_,D',d',e',y0,y1,y2,y3,n,rfl,hn,hg',rfl,j0,j1,j2,j3,ly,hd'⟩:=hy'
 obtain ⟨bx0,Ax0,nx0,cx0,rfl,i0⟩:=i0.dest
 obtain ⟨by0,Ay0,ny0,cy0,rfl,j0⟩:=j0.dest
 obtain ⟨bx1,Ax1,nx1,cx1,rfl,i1⟩:=i1.dest
 obtain ⟨by1,Ay1,ny1,cy1,rfl,j1⟩:=j1.dest
 obtain ⟨bx2,Ax2,nx2,cx2,rfl,i2⟩:=i2.dest
 obtain ⟨by2,Ay2,ny2,cy2,rfl,j2⟩:=j2.dest
 obtain ⟨bx3,Ax3,nx3,cx3,rfl,i3⟩:=i3.dest
 obtain ⟨by3,Ay3,ny3,cy3,rfl,j3⟩:=j3.dest
 replace hy:=hy.up u0
 replace C:=fun k' u=>C k' (u0.trans u)
 refine SDiv_vc2 ?_
 refine SZero_s hy (by omega) ?_
 intro k1 u1 b hb
 refine ⟨b,rfl,fun _ k2 u2=>C k2 (u1.trans u2),fun hbf=>?_⟩
 rw [hb.2 hz] at hbf
 cases hbf
theorem SDiv_d (hx : SurdV k cs v K) (hy : SurdV k cs' v' K) (hK1 : 1≤K) (hK : K≤33554431)
 (C : ∀ k' ds,Up k k'→SurdV k' ds (v.div v') (5*K+12)→R k' (.tuple #[.agg ds,.int .i64 (if v' = Q4.zero then 3 else 0)])) :
 Cl k 69 #[.agg cs,.agg cs'] R:=by
 by_cases hz : v' = Q4.zero
 ·rw [if_pos hz,hz,Q4.div_zero] at C
  exact SDiv_z hx hy hz hK (fun k' u=>C k' _ u (SurdV.nil (Nat.zero_le _)))
 ·rw [if_neg hz] at C
  refine SDiv_s hx hy hK1 hK (fun k' u h=>absurd h hz) (fun k' ds q u h e=>?_)
  rw [Q4.div_uniq hz e] at h
  exact C k' ds u (h.mono (by omega))
end
end Go.Proofs.YtpjakokgmgggiaaGreat

/- What is to be shown of the calls of some functions. (Printed by gen/vc.py.) -/
namespace Go.Proofs.YtpjakokgmgggiaaGreat
open Go.RowKit
open Value (agg slice int bool tuple)
open Sy (Up Sees CallsG Seg execFn_use)
set_option maxRecDepth 100000
variable {k : World} {R : World→Value→Prop}
theorem qBy_vc {cs0 cs1 : Array Value} (hcs0 : Seg 3 cs0) (hcs1 : Seg 3 cs1)
 (h : Cl k 18 #[agg cs0,agg cs1] fun k1 r0=>∃ cs2,Seg 3 cs2∧∃ n3,some (tuple #[agg cs2,int .i64 n3]) = some r0 ∧
 ∀ k2,Up k1 k2→R k2 (agg cs2)) :
  CallsG Tryz.prog 152 #[agg cs0,agg cs1] k R :=
  execFn_use (cfg:={ opq:=[34] }) (args:=[.agg [.seg 0 3],.agg [.seg 1 3]]) (vals:=[agg cs0,agg cs1]) (kinds:=[.seg 3,.seg 3]) (by kernel_rfl) ⟨⟨cs0,rfl,hcs0⟩,⟨⟨cs1,rfl,hcs1⟩,trivial⟩⟩ (by kernel_rfl) (by kernel_rfl) h
theorem sOfQuad_vc {n0 n1 n2 n3 n4 n5 n6 n7 : Int}
 (h : Cl k 16 #[agg #[int .i64 n0,int .i64 n1]] fun k1 r0=>Gt 3 r0 fun cs8 =>
 Cl k1 16 #[agg #[int .i64 n2,int .i64 n3]] fun k3 r2=>Gt 3 r2 fun cs9 =>
 Cl k3 16 #[agg #[int .i64 n4,int .i64 n5]] fun k5 r4=>Gt 3 r4 fun cs10 =>
 Cl k5 16 #[agg #[int .i64 n6,int .i64 n7]] fun k7 r6=>Gt 3 r6 fun cs11 =>
 ∀ k8,Up k7 k8→R k8 (agg (cs8.toList ++ (cs9.toList ++ (cs10.toList ++ (cs11.toList ++ ([]))))).toArray)) :
  CallsG Tryz.prog 68 #[agg #[int .i64 n0,int .i64 n1,int .i64 n2,int .i64 n3,int .i64 n4,int .i64 n5,int .i64 n6,int .i64 n7]] k R :=
  execFn_use (cfg:={ opq:=[34] }) (args:=[.agg [.var 0,.var 1,.var 2,.var 3,.var 4,.var 5,.var 6,.var 7]]) (vals:=[int .i64 n0,int .i64 n1,int .i64 n2,int .i64 n3,int .i64 n4,int .i64 n5,int .i64 n6,int .i64 n7]) (kinds:=[.int .i64,.int .i64,.int .i64,.int .i64,.int .i64,.int .i64,.int .i64,.int .i64]) (by kernel_rfl) ⟨⟨_,rfl⟩,⟨⟨_,rfl⟩,⟨⟨_,rfl⟩,⟨⟨_,rfl⟩,⟨⟨_,rfl⟩,⟨⟨_,rfl⟩,⟨⟨_,rfl⟩,⟨⟨_,rfl⟩,trivial⟩⟩⟩⟩⟩⟩⟩⟩ (by kernel_rfl) (by kernel_rfl) h
theorem sReal_vc {cs0 : Array Value} (hcs0 : Seg 3 cs0)
 (h : Cl k 108 #[int .i64 0] fun k1 r0=>Gt 3 r0 fun cs1 =>
 Cl k1 108 #[int .i64 0] fun k3 r2=>Gt 3 r2 fun cs2 =>
 Cl k3 108 #[int .i64 0] fun k5 r4=>Gt 3 r4 fun cs3 =>
 ∀ k6,Up k5 k6→R k6 (agg (cs0.toList ++ (cs1.toList ++ (cs2.toList ++ (cs3.toList ++ ([]))))).toArray)) :
  CallsG Tryz.prog 82 #[agg cs0] k R :=
  execFn_use (cfg:={ opq:=[34] }) (args:=[.agg [.seg 0 3]]) (vals:=[agg cs0]) (kinds:=[.seg 3]) (by kernel_rfl) ⟨⟨cs0,rfl,hcs0⟩,trivial⟩ (by kernel_rfl) (by kernel_rfl) h
theorem sNeg_vc {cs0 cs1 cs2 cs3 : Array Value} (hcs0 : Seg 3 cs0) (hcs1 : Seg 3 cs1) (hcs2 : Seg 3 cs2) (hcs3 : Seg 3 cs3)
 (h : Cl k 27 #[agg cs0] fun k1 r0=>Gt 3 r0 fun cs4 =>
 Cl k1 27 #[agg cs1] fun k3 r2=>Gt 3 r2 fun cs5 =>
 Cl k3 27 #[agg cs2] fun k5 r4=>Gt 3 r4 fun cs6 =>
 Cl k5 27 #[agg cs3] fun k7 r6=>Gt 3 r6 fun cs7 =>
 ∀ k8,Up k7 k8→R k8 (agg (cs4.toList ++ (cs5.toList ++ (cs6.toList ++ (cs7.toList ++ ([]))))).toArray)) :
  CallsG Tryz.prog 84 #[agg (cs0.toList ++ (cs1.toList ++ (cs2.toList ++ (cs3.toList ++ ([]))))).toArray] k R :=
  execFn_use (cfg:={ opq:=[34] }) (args:=[.agg [.seg 0 3,.seg 1 3,.seg 2 3,.seg 3 3]]) (vals:=[agg cs0,agg cs1,agg cs2,agg cs3]) (kinds:=[.seg 3,.seg 3,.seg 3,.seg 3]) (by kernel_rfl) ⟨⟨cs0,rfl,hcs0⟩,⟨⟨cs1,rfl,hcs1⟩,⟨⟨cs2,rfl,hcs2⟩,⟨⟨cs3,rfl,hcs3⟩,trivial⟩⟩⟩⟩ (by kernel_rfl) (by kernel_rfl) h
theorem sAdd_vc {cs0 cs1 cs2 cs3 cs4 cs5 cs6 cs7 : Array Value} (hcs0 : Seg 3 cs0) (hcs1 : Seg 3 cs1) (hcs2 : Seg 3 cs2) (hcs3 : Seg 3 cs3) (hcs4 : Seg 3 cs4) (hcs5 : Seg 3 cs5) (hcs6 : Seg 3 cs6) (hcs7 : Seg 3 cs7)
 (h : Cl k 21 #[agg cs0,agg cs4] fun k1 r0=>Gt 3 r0 fun cs8 =>
 Cl k1 21 #[agg cs1,agg cs5] fun k3 r2=>Gt 3 r2 fun cs9 =>
 Cl k3 21 #[agg cs2,agg cs6] fun k5 r4=>Gt 3 r4 fun cs10 =>
 Cl k5 21 #[agg cs3,agg cs7] fun k7 r6=>Gt 3 r6 fun cs11 =>
 ∀ k8,Up k7 k8→R k8 (agg (cs8.toList ++ (cs9.toList ++ (cs10.toList ++ (cs11.toList ++ ([]))))).toArray)) :
  CallsG Tryz.prog 72 #[agg (cs0.toList ++ (cs1.toList ++ (cs2.toList ++ (cs3.toList ++ ([]))))).toArray,agg (cs4.toList ++ (cs5.toList ++ (cs6.toList ++ (cs7.toList ++ ([]))))).toArray] k R :=
  execFn_use (cfg:={ opq:=[34] }) (args:=[.agg [.seg 0 3,.seg 1 3,.seg 2 3,.seg 3 3],.agg [.seg 4 3,.seg 5 3,.seg 6 3,.seg 7 3]]) (vals:=[agg cs0,agg cs1,agg cs2,agg cs3,agg cs4,agg cs5,agg cs6,agg cs7]) (kinds:=[.seg 3,.seg 3,.seg 3,.seg 3,.seg 3,.seg 3,.seg 3,.seg 3]) (by kernel_rfl) ⟨⟨cs0,rfl,hcs0⟩,⟨⟨cs1,rfl,hcs1⟩,⟨⟨cs2,rfl,hcs2⟩,⟨⟨cs3,rfl,hcs3⟩,⟨⟨cs4,rfl,hcs4⟩,⟨⟨cs5,rfl,hcs5⟩,⟨⟨cs6,rfl,hcs6⟩,⟨⟨cs7,rfl,hcs7⟩,trivial⟩⟩⟩⟩⟩⟩⟩⟩ (by kernel_rfl) (by kernel_rfl) h
theorem sSub_vc {cs0 cs1 : Array Value} (hcs0 : Seg 12 cs0) (hcs1 : Seg 12 cs1)
 (h : Cl k 84 #[agg cs1] fun k1 r0=>Gt 12 r0 fun cs2 =>
 Cl k1 72 #[agg cs0,agg cs2] fun k3 r2=>Gt 12 r2 fun cs3 =>
 ∀ k4,Up k3 k4→R k4 (agg cs3)) :
  CallsG Tryz.prog 74 #[agg cs0,agg cs1] k R :=
  execFn_use (cfg:={ opq:=[62] }) (args:=[.agg [.seg 0 12],.agg [.seg 1 12]]) (vals:=[agg cs0,agg cs1]) (kinds:=[.seg 12,.seg 12]) (by kernel_rfl) ⟨⟨cs0,rfl,hcs0⟩,⟨⟨cs1,rfl,hcs1⟩,trivial⟩⟩ (by kernel_rfl) (by kernel_rfl) h
theorem sMul_vc {cs0 cs1 cs2 cs3 cs4 cs5 cs6 cs7 : Array Value} (hcs0 : Seg 3 cs0) (hcs1 : Seg 3 cs1) (hcs2 : Seg 3 cs2) (hcs3 : Seg 3 cs3) (hcs4 : Seg 3 cs4) (hcs5 : Seg 3 cs5) (hcs6 : Seg 3 cs6) (hcs7 : Seg 3 cs7)
 (h : Cl k 108 #[int .i64 0] fun k1 r0=>Gt 3 r0 fun cs8 =>
 Cl k1 82 #[agg cs8] fun k3 r2=>∃ cs9,Seg 3 cs9∧∃ cs10,Seg 3 cs10∧∃ cs11,Seg 3 cs11∧∃ cs12,Seg 3 cs12∧some (agg (cs9.toList ++ (cs10.toList ++ (cs11.toList ++ (cs12.toList ++ ([]))))).toArray) = some r2 ∧
 Cl k3 25 #[agg cs0,agg cs4] fun k5 r4=>Gt 3 r4 fun cs13 =>
 Cl k5 21 #[agg cs9,agg cs13] fun k7 r6=>Gt 3 r6 fun cs14 =>
 Cl k7 25 #[agg cs0,agg cs5] fun k9 r8=>Gt 3 r8 fun cs15 =>
 Cl k9 21 #[agg cs10,agg cs15] fun k11 r10=>Gt 3 r10 fun cs16 =>
 Cl k11 25 #[agg cs0,agg cs6] fun k13 r12=>Gt 3 r12 fun cs17 =>
 Cl k13 21 #[agg cs11,agg cs17] fun k15 r14=>Gt 3 r14 fun cs18 =>
 Cl k15 25 #[agg cs0,agg cs7] fun k17 r16=>Gt 3 r16 fun cs19 =>
 Cl k17 21 #[agg cs12,agg cs19] fun k19 r18=>Gt 3 r18 fun cs20 =>
 Cl k19 25 #[agg cs1,agg cs4] fun k21 r20=>Gt 3 r20 fun cs21 =>
 Cl k21 21 #[agg cs16,agg cs21] fun k23 r22=>Gt 3 r22 fun cs22 =>
 Cl k23 25 #[agg cs1,agg cs5] fun k25 r24=>Gt 3 r24 fun cs23 =>
 Cl k25 108 #[int .i64 2] fun k27 r26=>Gt 3 r26 fun cs24 =>
 Cl k27 25 #[agg cs23,agg cs24] fun k29 r28=>Gt 3 r28 fun cs25 =>
 Cl k29 21 #[agg cs14,agg cs25] fun k31 r30=>Gt 3 r30 fun cs26 =>
 Cl k31 25 #[agg cs1,agg cs6] fun k33 r32=>Gt 3 r32 fun cs27 =>
 Cl k33 21 #[agg cs20,agg cs27] fun k35 r34=>Gt 3 r34 fun cs28 =>
 Cl k35 25 #[agg cs1,agg cs7] fun k37 r36=>Gt 3 r36 fun cs29 =>
 Cl k37 108 #[int .i64 2] fun k39 r38=>Gt 3 r38 fun cs30 =>
 Cl k39 25 #[agg cs29,agg cs30] fun k41 r40=>Gt 3 r40 fun cs31 =>
 Cl k41 21 #[agg cs18,agg cs31] fun k43 r42=>Gt 3 r42 fun cs32 =>
 Cl k43 25 #[agg cs2,agg cs4] fun k45 r44=>Gt 3 r44 fun cs33 =>
 Cl k45 21 #[agg cs32,agg cs33] fun k47 r46=>Gt 3 r46 fun cs34 =>
 Cl k47 25 #[agg cs2,agg cs5] fun k49 r48=>Gt 3 r48 fun cs35 =>
 Cl k49 21 #[agg cs28,agg cs35] fun k51 r50=>Gt 3 r50 fun cs36 =>
 Cl k51 25 #[agg cs2,agg cs6] fun k53 r52=>Gt 3 r52 fun cs37 =>
 Cl k53 108 #[int .i64 3] fun k55 r54=>Gt 3 r54 fun cs38 =>
 Cl k55 25 #[agg cs37,agg cs38] fun k57 r56=>Gt 3 r56 fun cs39 =>
 Cl k57 21 #[agg cs26,agg cs39] fun k59 r58=>Gt 3 r58 fun cs40 =>
 Cl k59 25 #[agg cs2,agg cs7] fun k61 r60=>Gt 3 r60 fun cs41 =>
 Cl k61 108 #[int .i64 3] fun k63 r62=>Gt 3 r62 fun cs42 =>
 Cl k63 25 #[agg cs41,agg cs42] fun k65 r64=>Gt 3 r64 fun cs43 =>
 Cl k65 21 #[agg cs22,agg cs43] fun k67 r66=>Gt 3 r66 fun cs44 =>
 Cl k67 25 #[agg cs3,agg cs4] fun k69 r68=>Gt 3 r68 fun cs45 =>
 Cl k69 21 #[agg cs36,agg cs45] fun k71 r70=>Gt 3 r70 fun cs46 =>
 Cl k71 25 #[agg cs3,agg cs5] fun k73 r72=>Gt 3 r72 fun cs47 =>
 Cl k73 108 #[int .i64 2] fun k75 r74=>Gt 3 r74 fun cs48 =>
 Cl k75 25 #[agg cs47,agg cs48] fun k77 r76=>Gt 3 r76 fun cs49 =>
 Cl k77 21 #[agg cs34,agg cs49] fun k79 r78=>Gt 3 r78 fun cs50 =>
 Cl k79 25 #[agg cs3,agg cs6] fun k81 r80=>Gt 3 r80 fun cs51 =>
 Cl k81 108 #[int .i64 3] fun k83 r82=>Gt 3 r82 fun cs52 =>
 Cl k83 25 #[agg cs51,agg cs52] fun k85 r84=>Gt 3 r84 fun cs53 =>
 Cl k85 21 #[agg cs44,agg cs53] fun k87 r86=>Gt 3 r86 fun cs54 =>
 Cl k87 25 #[agg cs3,agg cs7] fun k89 r88=>Gt 3 r88 fun cs55 =>
 Cl k89 108 #[int .i64 2] fun k91 r90=>Gt 3 r90 fun cs56 =>
 Cl k91 25 #[agg cs55,agg cs56] fun k93 r92=>Gt 3 r92 fun cs57 =>
 Cl k93 108 #[int .i64 3] fun k95 r94=>Gt 3 r94 fun cs58 =>
 Cl k95 25 #[agg cs57,agg cs58] fun k97 r96=>Gt 3 r96 fun cs59 =>
 Cl k97 21 #[agg cs40,agg cs59] fun k99 r98=>Gt 3 r98 fun cs60 =>
 ∀ k100,Up k99 k100→R k100 (agg (cs60.toList ++ (cs54.toList ++ (cs50.toList ++ (cs46.toList ++ ([]))))).toArray)) :
  CallsG Tryz.prog 76 #[agg (cs0.toList ++ (cs1.toList ++ (cs2.toList ++ (cs3.toList ++ ([]))))).toArray,agg (cs4.toList ++ (cs5.toList ++ (cs6.toList ++ (cs7.toList ++ ([]))))).toArray] k R :=
  execFn_use (cfg:={ opq:=[34] }) (args:=[.agg [.seg 0 3,.seg 1 3,.seg 2 3,.seg 3 3],.agg [.seg 4 3,.seg 5 3,.seg 6 3,.seg 7 3]]) (vals:=[agg cs0,agg cs1,agg cs2,agg cs3,agg cs4,agg cs5,agg cs6,agg cs7]) (kinds:=[.seg 3,.seg 3,.seg 3,.seg 3,.seg 3,.seg 3,.seg 3,.seg 3]) (by kernel_rfl) ⟨⟨cs0,rfl,hcs0⟩,⟨⟨cs1,rfl,hcs1⟩,⟨⟨cs2,rfl,hcs2⟩,⟨⟨cs3,rfl,hcs3⟩,⟨⟨cs4,rfl,hcs4⟩,⟨⟨cs5,rfl,hcs5⟩,⟨⟨cs6,rfl,hcs6⟩,⟨⟨cs7,rfl,hcs7⟩,trivial⟩⟩⟩⟩⟩⟩⟩⟩ (by kernel_rfl) (by kernel_rfl) h
theorem sZero_vc {cs0 cs1 cs2 cs3 : Array Value} (hcs0 : Seg 3 cs0) (hcs1 : Seg 3 cs1) (hcs2 : Seg 3 cs2) (hcs3 : Seg 3 cs3)
 (h : Cl k 79 #[agg cs0] fun k1 r0=>∃ b4,some (bool b4) = some r0 ∧
 (b4 = true →
 (Cl k1 79 #[agg cs1] fun k3 r2=>∃ b5,some (bool b5) = some r2 ∧
 (b5 = true →
 (Cl k3 79 #[agg cs2] fun k5 r4=>∃ b6,some (bool b6) = some r4 ∧
 (b6 = true →
 (Cl k5 79 #[agg cs3] fun k7 r6=>∃ b7,some (bool b7) = some r6 ∧
 ∀ k8,Up k7 k8→R k8 (bool b7))) ∧
 (b6 = false →
 (∀ k9,Up k5 k9→R k9 (bool false))))) ∧
 (b5 = false →
 (∀ k10,Up k3 k10→R k10 (bool false))))) ∧
 (b4 = false →
 (∀ k11,Up k1 k11→R k11 (bool false)))) :
   CallsG Tryz.prog 91 #[agg (cs0.toList ++ (cs1.toList ++ (cs2.toList ++ (cs3.toList ++ ([]))))).toArray] k R :=
  execFn_use (cfg:={ opq:=[34] }) (args:=[.agg [.seg 0 3,.seg 1 3,.seg 2 3,.seg 3 3]]) (vals:=[agg cs0,agg cs1,agg cs2,agg cs3]) (kinds:=[.seg 3,.seg 3,.seg 3,.seg 3]) (by kernel_rfl) ⟨⟨cs0,rfl,hcs0⟩,⟨⟨cs1,rfl,hcs1⟩,⟨⟨cs2,rfl,hcs2⟩,⟨⟨cs3,rfl,hcs3⟩,trivial⟩⟩⟩⟩ (by kernel_rfl) (by kernel_rfl) h
theorem turned1_vc {cs0 cs1 cs2 cs3 : Array Value} (hcs0 : Seg 3 cs0) (hcs1 : Seg 3 cs1) (hcs2 : Seg 3 cs2) (hcs3 : Seg 3 cs3)
 (h : Cl k 27 #[agg cs1] fun k1 r0=>Gt 3 r0 fun cs4 =>
 Cl k1 27 #[agg cs3] fun k3 r2=>Gt 3 r2 fun cs5 =>
 ∀ k4,Up k3 k4→R k4 (agg (cs0.toList ++ (cs4.toList ++ (cs2.toList ++ (cs5.toList ++ ([]))))).toArray)) :
  CallsG Tryz.prog 162 #[agg (cs0.toList ++ (cs1.toList ++ (cs2.toList ++ (cs3.toList ++ ([]))))).toArray,int .i64 1] k R :=
  Sy.execFn_use_heap (cfg:={ opq:=[34] }) (args:=[.agg [.seg 0 3,.seg 1 3,.seg 2 3,.seg 3 3],.one (.lit (.int .i64 (1)))]) (vals:=[agg cs0,agg cs1,agg cs2,agg cs3]) (kinds:=[.seg 3,.seg 3,.seg 3,.seg 3]) (blks:=[]) (heap:=[]) (by kernel_rfl) ⟨⟨cs0,rfl,hcs0⟩,⟨⟨cs1,rfl,hcs1⟩,⟨⟨cs2,rfl,hcs2⟩,⟨⟨cs3,rfl,hcs3⟩,trivial⟩⟩⟩⟩ (by kernel_rfl) trivial (by kernel_rfl) h
theorem turned2_vc {cs0 cs1 cs2 cs3 : Array Value} (hcs0 : Seg 3 cs0) (hcs1 : Seg 3 cs1) (hcs2 : Seg 3 cs2) (hcs3 : Seg 3 cs3)
 (h : Cl k 27 #[agg cs2] fun k1 r0=>Gt 3 r0 fun cs4 =>
 Cl k1 27 #[agg cs3] fun k3 r2=>Gt 3 r2 fun cs5 =>
 ∀ k4,Up k3 k4→R k4 (agg (cs0.toList ++ (cs1.toList ++ (cs4.toList ++ (cs5.toList ++ ([]))))).toArray)) :
  CallsG Tryz.prog 162 #[agg (cs0.toList ++ (cs1.toList ++ (cs2.toList ++ (cs3.toList ++ ([]))))).toArray,int .i64 2] k R :=
  Sy.execFn_use_heap (cfg:={ opq:=[34] }) (args:=[.agg [.seg 0 3,.seg 1 3,.seg 2 3,.seg 3 3],.one (.lit (.int .i64 (2)))]) (vals:=[agg cs0,agg cs1,agg cs2,agg cs3]) (kinds:=[.seg 3,.seg 3,.seg 3,.seg 3]) (blks:=[]) (heap:=[]) (by kernel_rfl) ⟨⟨cs0,rfl,hcs0⟩,⟨⟨cs1,rfl,hcs1⟩,⟨⟨cs2,rfl,hcs2⟩,⟨⟨cs3,rfl,hcs3⟩,trivial⟩⟩⟩⟩ (by kernel_rfl) trivial (by kernel_rfl) h
theorem sDiv_vc {cs0 cs1 cs2 cs3 cs4 cs5 cs6 cs7 : Array Value} (hcs0 : Seg 3 cs0) (hcs1 : Seg 3 cs1) (hcs2 : Seg 3 cs2) (hcs3 : Seg 3 cs3) (hcs4 : Seg 3 cs4) (hcs5 : Seg 3 cs5) (hcs6 : Seg 3 cs6) (hcs7 : Seg 3 cs7)
 (h : Cl k 91 #[agg (cs4.toList ++ (cs5.toList ++ (cs6.toList ++ (cs7.toList ++ ([]))))).toArray] fun k1 r0=>∃ b8,some (bool b8) = some r0 ∧
 (b8 = true →
 (Cl k1 108 #[int .i64 0] fun k3 r2=>Gt 3 r2 fun cs9 =>
 Cl k3 82 #[agg cs9] fun k5 r4=>∃ cs10,Seg 3 cs10∧∃ cs11,Seg 3 cs11∧∃ cs12,Seg 3 cs12∧∃ cs13,Seg 3 cs13∧some (agg (cs10.toList ++ (cs11.toList ++ (cs12.toList ++ (cs13.toList ++ ([]))))).toArray) = some r4 ∧
 ∀ k6,Up k5 k6→R k6 (tuple #[agg (cs10.toList ++ (cs11.toList ++ (cs12.toList ++ (cs13.toList ++ ([]))))).toArray,int .i64 3]))) ∧
 (b8 = false →
 (Cl k1 162 #[agg (cs4.toList ++ (cs5.toList ++ (cs6.toList ++ (cs7.toList ++ ([]))))).toArray,int .i64 1] fun k8 r7=>∃ cs9,Seg 3 cs9∧∃ cs10,Seg 3 cs10∧∃ cs11,Seg 3 cs11∧∃ cs12,Seg 3 cs12∧some (agg (cs9.toList ++ (cs10.toList ++ (cs11.toList ++ (cs12.toList ++ ([]))))).toArray) = some r7 ∧
 Cl k8 162 #[agg (cs4.toList ++ (cs5.toList ++ (cs6.toList ++ (cs7.toList ++ ([]))))).toArray,int .i64 2] fun k10 r9=>∃ cs13,Seg 3 cs13∧∃ cs14,Seg 3 cs14∧∃ cs15,Seg 3 cs15∧∃ cs16,Seg 3 cs16∧some (agg (cs13.toList ++ (cs14.toList ++ (cs15.toList ++ (cs16.toList ++ ([]))))).toArray) = some r9 ∧
 Cl k10 76 #[agg (cs9.toList ++ (cs10.toList ++ (cs11.toList ++ (cs12.toList ++ ([]))))).toArray,agg (cs13.toList ++ (cs14.toList ++ (cs15.toList ++ (cs16.toList ++ ([]))))).toArray] fun k12 r11=>∃ cs17,Seg 3 cs17∧∃ cs18,Seg 3 cs18∧∃ cs19,Seg 3 cs19∧∃ cs20,Seg 3 cs20∧some (agg (cs17.toList ++ (cs18.toList ++ (cs19.toList ++ (cs20.toList ++ ([]))))).toArray) = some r11 ∧
 Cl k12 162 #[agg (cs4.toList ++ (cs5.toList ++ (cs6.toList ++ (cs7.toList ++ ([]))))).toArray,int .i64 1] fun k14 r13=>∃ cs21,Seg 3 cs21∧∃ cs22,Seg 3 cs22∧∃ cs23,Seg 3 cs23∧∃ cs24,Seg 3 cs24∧some (agg (cs21.toList ++ (cs22.toList ++ (cs23.toList ++ (cs24.toList ++ ([]))))).toArray) = some r13 ∧
 Cl k14 162 #[agg (cs21.toList ++ (cs22.toList ++ (cs23.toList ++ (cs24.toList ++ ([]))))).toArray,int .i64 2] fun k16 r15=>∃ cs25,Seg 3 cs25∧∃ cs26,Seg 3 cs26∧∃ cs27,Seg 3 cs27∧∃ cs28,Seg 3 cs28∧some (agg (cs25.toList ++ (cs26.toList ++ (cs27.toList ++ (cs28.toList ++ ([]))))).toArray) = some r15 ∧
 Cl k16 76 #[agg (cs17.toList ++ (cs18.toList ++ (cs19.toList ++ (cs20.toList ++ ([]))))).toArray,agg (cs25.toList ++ (cs26.toList ++ (cs27.toList ++ (cs28.toList ++ ([]))))).toArray] fun k18 r17=>∃ cs29,Seg 3 cs29∧∃ cs30,Seg 3 cs30∧∃ cs31,Seg 3 cs31∧∃ cs32,Seg 3 cs32∧some (agg (cs29.toList ++ (cs30.toList ++ (cs31.toList ++ (cs32.toList ++ ([]))))).toArray) = some r17 ∧
 Cl k18 76 #[agg (cs4.toList ++ (cs5.toList ++ (cs6.toList ++ (cs7.toList ++ ([]))))).toArray,agg (cs29.toList ++ (cs30.toList ++ (cs31.toList ++ (cs32.toList ++ ([]))))).toArray] fun k20 r19=>∃ cs33,Seg 3 cs33∧∃ cs34,Seg 3 cs34∧∃ cs35,Seg 3 cs35∧∃ cs36,Seg 3 cs36∧some (agg (cs33.toList ++ (cs34.toList ++ (cs35.toList ++ (cs36.toList ++ ([]))))).toArray) = some r19 ∧
 Cl k20 76 #[agg (cs0.toList ++ (cs1.toList ++ (cs2.toList ++ (cs3.toList ++ ([]))))).toArray,agg (cs29.toList ++ (cs30.toList ++ (cs31.toList ++ (cs32.toList ++ ([]))))).toArray] fun k22 r21=>∃ cs37,Seg 3 cs37∧∃ cs38,Seg 3 cs38∧∃ cs39,Seg 3 cs39∧∃ cs40,Seg 3 cs40∧some (agg (cs37.toList ++ (cs38.toList ++ (cs39.toList ++ (cs40.toList ++ ([]))))).toArray) = some r21 ∧
 Cl k22 152 #[agg cs37,agg cs33] fun k24 r23=>Gt 3 r23 fun cs41 =>
 Cl k24 152 #[agg cs38,agg cs33] fun k26 r25=>Gt 3 r25 fun cs42 =>
 Cl k26 152 #[agg cs39,agg cs33] fun k28 r27=>Gt 3 r27 fun cs43 =>
 Cl k28 152 #[agg cs40,agg cs33] fun k30 r29=>Gt 3 r29 fun cs44 =>
 ∀ k31,Up k30 k31→R k31 (tuple #[agg (cs41.toList ++ (cs42.toList ++ (cs43.toList ++ (cs44.toList ++ ([]))))).toArray,int .i64 0])))) :
  CallsG Tryz.prog 70 #[agg (cs0.toList ++ (cs1.toList ++ (cs2.toList ++ (cs3.toList ++ ([]))))).toArray,agg (cs4.toList ++ (cs5.toList ++ (cs6.toList ++ (cs7.toList ++ ([]))))).toArray] k R :=
  execFn_use (cfg:={ opq:=[34] }) (args:=[.agg [.seg 0 3,.seg 1 3,.seg 2 3,.seg 3 3],.agg [.seg 4 3,.seg 5 3,.seg 6 3,.seg 7 3]]) (vals:=[agg cs0,agg cs1,agg cs2,agg cs3,agg cs4,agg cs5,agg cs6,agg cs7]) (kinds:=[.seg 3,.seg 3,.seg 3,.seg 3,.seg 3,.seg 3,.seg 3,.seg 3]) (by kernel_rfl) ⟨⟨cs0,rfl,hcs0⟩,⟨⟨cs1,rfl,hcs1⟩,⟨⟨cs2,rfl,hcs2⟩,⟨⟨cs3,rfl,hcs3⟩,⟨⟨cs4,rfl,hcs4⟩,⟨⟨cs5,rfl,hcs5⟩,⟨⟨cs6,rfl,hcs6⟩,⟨⟨cs7,rfl,hcs7⟩,trivial⟩⟩⟩⟩⟩⟩⟩⟩ (by kernel_rfl) (by kernel_rfl) h
theorem sSame_vc {cs0 cs1 : Array Value} (hcs0 : Seg 12 cs0) (hcs1 : Seg 12 cs1)
 (h : Cl k 74 #[agg cs0,agg cs1] fun k1 r0=>Gt 12 r0 fun cs2 =>
 Cl k1 91 #[agg cs2] fun k3 r2=>∃ b3,some (bool b3) = some r2 ∧
 ∀ k4,Up k3 k4→R k4 (bool b3)) :
  CallsG Tryz.prog 89 #[agg cs0,agg cs1] k R :=
  execFn_use (cfg:={ opq:=[62] }) (args:=[.agg [.seg 0 12],.agg [.seg 1 12]]) (vals:=[agg cs0,agg cs1]) (kinds:=[.seg 12,.seg 12]) (by kernel_rfl) ⟨⟨cs0,rfl,hcs0⟩,⟨⟨cs1,rfl,hcs1⟩,trivial⟩⟩ (by kernel_rfl) (by kernel_rfl) h
end Go.Proofs.YtpjakokgmgggiaaGreat

/- The reference's Surds: sums, products, quotients. (Printed by gen/refs.py.) -/
namespace Go.Proofs.YtpjakokgmgggiaaGreat.W32
open Go.RowKit Num
open Sy (Up Sees CallsG Seg)
def cat4 (c0 c1 c2 c3 : Array Value) : Array Value:=(c0.toList ++ (c1.toList ++ (c2.toList ++ (c3.toList ++ ([]))))).toArray
def SQ (k : World) (cs : Array Value) (v : Q4) (K : Nat) : Prop:=∃ c0 c1 c2 c3 : Array Value,cs = cat4 c0 c1 c2 c3∧QV k c0 v.a K∧QV k c1 v.b K∧QV k c2 v.c K∧QV k c3 v.d K
section
variable {k k' : World} {cs cs' c0 c1 c2 c3 : Array Value} {R : World→Value→Prop} {x y q q' : Rat} {v v' : Q4} {K L : Nat}
theorem QV.cast (h : QV k cs q K) (e : q = q') : QV k cs q' K:=e ▸ h
theorem SQ.up (h : SQ k cs v K) (u : Up k k') : SQ k' cs v K:=by
 obtain ⟨c0,c1,c2,c3,e,h0,h1,h2,h3⟩:=h
 exact ⟨c0,c1,c2,c3,e,h0.up u,h1.up u,h2.up u,h3.up u⟩
theorem SQ.mono (h : SQ k cs v K) (hL : K≤L) : SQ k cs v L:=by
 obtain ⟨c0,c1,c2,c3,e,h0,h1,h2,h3⟩:=h
 exact ⟨c0,c1,c2,c3,e,h0.mono hL,h1.mono hL,h2.mono hL,h3.mono hL⟩
theorem seg_cat4 (h0 : Seg 3 c0) (h1 : Seg 3 c1) (h2 : Seg 3 c2) (h3 : Seg 3 c3) : Seg 12 (cat4 c0 c1 c2 c3):=by
 obtain ⟨a0,b0⟩:=h0
 obtain ⟨a1,b1⟩:=h1
 obtain ⟨a2,b2⟩:=h2
 obtain ⟨a3,b3⟩:=h3
 refine ⟨by simp [cat4,a0,a1,a2,a3],fun u hu=>?_⟩
 simp only [cat4,List.append_nil,List.mem_append] at hu
 rcases hu with hu | hu | hu | hu
 ·exact b0 u hu
 ·exact b1 u hu
 ·exact b2 u hu
 ·exact b3 u hu
theorem SQ.seg (h : SQ k cs v K) : Seg 12 cs:=by
 obtain ⟨c0,c1,c2,c3,rfl,h0,h1,h2,h3⟩:=h
 exact seg_cat4 h0.seg h1.seg h2.seg h3.seg
theorem two_lit : ((2 : Int) : Rat) = 2:=rfl
theorem zero_lit : ((0 : Int) : Rat) = 0:=rfl
theorem by_v (hx : QV k cs x K) (hy : QV k cs' y L) (hK1 : 1≤K) (hL1 : 1≤L) (hK : K+L≤10000000000) (C : ∀ k' ds,Up k k'→QV k' ds (x / y) (K+L)→R k' (.agg ds)) :
 Cl k 152 #[.agg cs,.agg cs'] R :=
 fun _ u0=>qBy_vc hx.seg hy.seg (div_v (hx.up u0) (hy.up u0) hK1 hL1 hK fun __k1 ds u1 hD=>⟨ds,hD.seg,_,rfl,fun k2 u2=>C k2 ds ((u0.trans u1).trans u2) (hD.up u2)⟩)
theorem sadd_v (hx : SQ k cs v K) (hy : SQ k cs' v' L) (hK : K+L≤10000000000) (C : ∀ k' ds,Up k k'→SQ k' ds (v.add v') (K+L+1)→R k' (.agg ds)) :
 Cl k 72 #[.agg cs,.agg cs'] R:=by
 obtain ⟨c0,c1,c2,c3,rfl,x0,x1,x2,x3⟩:=hx
 obtain ⟨e0,e1,e2,e3,rfl,y0,y1,y2,y3⟩:=hy
 intro k0 u0
 replace x0:=x0.up u0
 replace x1:=x1.up u0
 replace x2:=x2.up u0
 replace x3:=x3.up u0
 replace y0:=y0.up u0
 replace y1:=y1.up u0
 replace y2:=y2.up u0
 replace y3:=y3.up u0
 replace C:=fun k' ds u=>C k' ds (u0.trans u)
 refine sAdd_vc x0.seg x1.seg x2.seg x3.seg y0.seg y1.seg y2.seg y3.seg ?_
 refine add_v x0 y0 hK ?_
 intro k1 d0 u1 z0
 refine ⟨d0,z0.seg,rfl,?_⟩
 replace x1:=x1.up u1
 replace x2:=x2.up u1
 replace x3:=x3.up u1
 replace y1:=y1.up u1
 replace y2:=y2.up u1
 replace y3:=y3.up u1
 replace C:=fun k' ds u=>C k' ds (u1.trans u)
 refine add_v x1 y1 hK ?_
 intro k2 d1 u2 z1
 refine ⟨d1,z1.seg,rfl,?_⟩
 replace x2:=x2.up u2
 replace x3:=x3.up u2
 replace y2:=y2.up u2
 replace y3:=y3.up u2
 replace z0:=z0.up u2
 replace C:=fun k' ds u=>C k' ds (u2.trans u)
 refine add_v x2 y2 hK ?_
 intro k3 d2 u3 z2
 refine ⟨d2,z2.seg,rfl,?_⟩
 replace x3:=x3.up u3
 replace y3:=y3.up u3
 replace z0:=z0.up u3
 replace z1:=z1.up u3
 replace C:=fun k' ds u=>C k' ds (u3.trans u)
 refine add_v x3 y3 hK ?_
 intro k4 d3 u4 z3
 refine ⟨d3,z3.seg,rfl,?_⟩
 replace z0:=z0.up u4
 replace z1:=z1.up u4
 replace z2:=z2.up u4
 replace C:=fun k' ds u=>C k' ds (u4.trans u)
 intro k5 u5
 replace z0:=z0.up u5
 replace z1:=z1.up u5
 replace z2:=z2.up u5
 replace z3:=z3.up u5
 exact C _ _ u5 ⟨d0,d1,d2,d3,rfl,z0,z1,z2,z3⟩
theorem sneg_v (hx : SQ k cs v K) (hK : K≤10000000000) (C : ∀ k' ds,Up k k'→SQ k' ds v.neg K→R k' (.agg ds)) :
 Cl k 84 #[.agg cs] R:=by
 obtain ⟨c0,c1,c2,c3,rfl,x0,x1,x2,x3⟩:=hx
 intro k0 u0
 replace x0:=x0.up u0
 replace x1:=x1.up u0
 replace x2:=x2.up u0
 replace x3:=x3.up u0
 replace C:=fun k' ds u=>C k' ds (u0.trans u)
 refine sNeg_vc x0.seg x1.seg x2.seg x3.seg ?_
 refine neg_v x0 hK ?_
 intro k1 d0 u1 z0
 refine ⟨d0,z0.seg,rfl,?_⟩
 replace x1:=x1.up u1
 replace x2:=x2.up u1
 replace x3:=x3.up u1
 replace C:=fun k' ds u=>C k' ds (u1.trans u)
 refine neg_v x1 hK ?_
 intro k2 d1 u2 z1
 refine ⟨d1,z1.seg,rfl,?_⟩
 replace x2:=x2.up u2
 replace x3:=x3.up u2
 replace z0:=z0.up u2
 replace C:=fun k' ds u=>C k' ds (u2.trans u)
 refine neg_v x2 hK ?_
 intro k3 d2 u3 z2
 refine ⟨d2,z2.seg,rfl,?_⟩
 replace x3:=x3.up u3
 replace z0:=z0.up u3
 replace z1:=z1.up u3
 replace C:=fun k' ds u=>C k' ds (u3.trans u)
 refine neg_v x3 hK ?_
 intro k4 d3 u4 z3
 refine ⟨d3,z3.seg,rfl,?_⟩
 replace z0:=z0.up u4
 replace z1:=z1.up u4
 replace z2:=z2.up u4
 replace C:=fun k' ds u=>C k' ds (u4.trans u)
 intro k5 u5
 replace z0:=z0.up u5
 replace z1:=z1.up u5
 replace z2:=z2.up u5
 replace z3:=z3.up u5
 exact C _ _ u5 ⟨d0,d1,d2,d3,rfl,z0,z1,z2,z3⟩
theorem ssub_v (hx : SQ k cs v K) (hy : SQ k cs' v' L) (hK : K+L≤10000000000) (C : ∀ k' ds,Up k k'→SQ k' ds (v.sub v') (K+L+1)→R k' (.agg ds)) :
 Cl k 74 #[.agg cs,.agg cs'] R:=by
 intro k0 u0
 exact sSub_vc hx.seg hy.seg (sneg_v (hy.up u0) (by omega) fun k1 d1 u1 h1=>⟨d1,h1.seg,rfl,sadd_v ((hx.up u0).up u1) h1 hK fun k3 d3 u3 h3=>⟨d3,h3.seg,rfl,fun k4 u4=>C k4 d3 (((u0.trans u1).trans u3).trans u4) (h3.up u4)⟩⟩)
theorem real_v (hx : QV k cs q K) (hK : 2≤K) (C : ∀ k' ds,Up k k'→SQ k' ds (Q4.real q) K→R k' (.agg ds)) :
 Cl k 82 #[.agg cs] R:=by
 intro k0 u0
 refine sReal_vc hx.seg ?_
 refine whole_v (by decide) (by decide) fun k1 d1 u1 h1=>⟨d1,h1.seg,rfl,?_⟩
 refine whole_v (by decide) (by decide) fun k2 d2 u2 h2=>⟨d2,h2.seg,rfl,?_⟩
 refine whole_v (by decide) (by decide) fun k3 d3 u3 h3=>⟨d3,h3.seg,rfl,fun k4 u4=>?_⟩
 exact C k4 _ ((((u0.trans u1).trans u2).trans u3).trans u4) ⟨cs,d1,d2,d3,rfl,((((hx.up u0).up u1).up u2).up u3).up u4,(((h1.up u2).up u3).up u4).mono hK,((h2.up u3).up u4).mono hK,(h3.up u4).mono hK⟩
set_option maxHeartbeats 4000000 in
theorem smul_v (hx : SQ k cs v K) (hy : SQ k cs' v' L) (hK : 4*(K+L)+22≤10000000000) (C : ∀ k' ds,Up k k'→SQ k' ds (v.mul v') (4*(K+L)+22)→R k' (.agg ds)) :
 Cl k 76 #[.agg cs,.agg cs'] R:=by
 obtain ⟨c0,c1,c2,c3,rfl,x0,x1,x2,x3⟩:=hx
 obtain ⟨e0,e1,e2,e3,rfl,y0,y1,y2,y3⟩:=hy
 intro k0 u0
 replace x0:=x0.up u0
 replace x1:=x1.up u0
 replace x2:=x2.up u0
 replace x3:=x3.up u0
 replace y0:=y0.up u0
 replace y1:=y1.up u0
 replace y2:=y2.up u0
 replace y3:=y3.up u0
 replace C:=fun k' ds u=>C k' ds (u0.trans u)
 refine sMul_vc x0.seg x1.seg x2.seg x3.seg y0.seg y1.seg y2.seg y3.seg ?_
 refine whole_v (by decide) (by decide) ?_
 intro k1 w0 u1 hw0
 refine ⟨w0,hw0.seg,rfl,?_⟩
 replace x0:=x0.up u1
 replace x1:=x1.up u1
 replace x2:=x2.up u1
 replace x3:=x3.up u1
 replace y0:=y0.up u1
 replace y1:=y1.up u1
 replace y2:=y2.up u1
 replace y3:=y3.up u1
 replace C:=fun k' ds u=>C k' ds (u1.trans u)
 refine real_v hw0 (by decide) ?_
 rintro k2 _ u2 ⟨o0,o1,o2,o3,rfl,out0,out1,out2,out3⟩
 refine ⟨o0,out0.seg,o1,out1.seg,o2,out2.seg,o3,out3.seg,rfl,?_⟩
 replace x0:=x0.up u2
 replace x1:=x1.up u2
 replace x2:=x2.up u2
 replace x3:=x3.up u2
 replace y0:=y0.up u2
 replace y1:=y1.up u2
 replace y2:=y2.up u2
 replace y3:=y3.up u2
 replace C:=fun k' ds u=>C k' ds (u2.trans u)
 clear hw0
 refine mul_v x0 y0 (by omega) ?_
 intro k3 a00 u3 p00
 refine ⟨a00,p00.seg,rfl,?_⟩
 replace x0:=x0.up u3
 replace x1:=x1.up u3
 replace x2:=x2.up u3
 replace x3:=x3.up u3
 replace y0:=y0.up u3
 replace y1:=y1.up u3
 replace y2:=y2.up u3
 replace y3:=y3.up u3
 replace out0:=out0.up u3
 replace out1:=out1.up u3
 replace out2:=out2.up u3
 replace out3:=out3.up u3
 replace C:=fun k' ds u=>C k' ds (u3.trans u)
 refine add_v out0 p00 (by omega) ?_
 intro k4 s00 u4 o00
 refine ⟨s00,o00.seg,rfl,?_⟩
 replace x0:=x0.up u4
 replace x1:=x1.up u4
 replace x2:=x2.up u4
 replace x3:=x3.up u4
 replace y0:=y0.up u4
 replace y1:=y1.up u4
 replace y2:=y2.up u4
 replace y3:=y3.up u4
 replace out1:=out1.up u4
 replace out2:=out2.up u4
 replace out3:=out3.up u4
 replace C:=fun k' ds u=>C k' ds (u4.trans u)
 clear out0 p00
 refine mul_v x0 y1 (by omega) ?_
 intro k5 a01 u5 p01
 refine ⟨a01,p01.seg,rfl,?_⟩
 replace x0:=x0.up u5
 replace x1:=x1.up u5
 replace x2:=x2.up u5
 replace x3:=x3.up u5
 replace y0:=y0.up u5
 replace y1:=y1.up u5
 replace y2:=y2.up u5
 replace y3:=y3.up u5
 replace out1:=out1.up u5
 replace out2:=out2.up u5
 replace out3:=out3.up u5
 replace o00:=o00.up u5
 replace C:=fun k' ds u=>C k' ds (u5.trans u)
 refine add_v out1 p01 (by omega) ?_
 intro k6 s01 u6 o01
 refine ⟨s01,o01.seg,rfl,?_⟩
 replace x0:=x0.up u6
 replace x1:=x1.up u6
 replace x2:=x2.up u6
 replace x3:=x3.up u6
 replace y0:=y0.up u6
 replace y1:=y1.up u6
 replace y2:=y2.up u6
 replace y3:=y3.up u6
 replace out2:=out2.up u6
 replace out3:=out3.up u6
 replace o00:=o00.up u6
 replace C:=fun k' ds u=>C k' ds (u6.trans u)
 clear out1 p01
 refine mul_v x0 y2 (by omega) ?_
 intro k7 a02 u7 p02
 refine ⟨a02,p02.seg,rfl,?_⟩
 replace x0:=x0.up u7
 replace x1:=x1.up u7
 replace x2:=x2.up u7
 replace x3:=x3.up u7
 replace y0:=y0.up u7
 replace y1:=y1.up u7
 replace y2:=y2.up u7
 replace y3:=y3.up u7
 replace out2:=out2.up u7
 replace out3:=out3.up u7
 replace o00:=o00.up u7
 replace o01:=o01.up u7
 replace C:=fun k' ds u=>C k' ds (u7.trans u)
 refine add_v out2 p02 (by omega) ?_
 intro k8 s02 u8 o02
 refine ⟨s02,o02.seg,rfl,?_⟩
 replace x0:=x0.up u8
 replace x1:=x1.up u8
 replace x2:=x2.up u8
 replace x3:=x3.up u8
 replace y0:=y0.up u8
 replace y1:=y1.up u8
 replace y2:=y2.up u8
 replace y3:=y3.up u8
 replace out3:=out3.up u8
 replace o00:=o00.up u8
 replace o01:=o01.up u8
 replace C:=fun k' ds u=>C k' ds (u8.trans u)
 clear out2 p02
 refine mul_v x0 y3 (by omega) ?_
 intro k9 a03 u9 p03
 refine ⟨a03,p03.seg,rfl,?_⟩
 replace x1:=x1.up u9
 replace x2:=x2.up u9
 replace x3:=x3.up u9
 replace y0:=y0.up u9
 replace y1:=y1.up u9
 replace y2:=y2.up u9
 replace y3:=y3.up u9
 replace out3:=out3.up u9
 replace o00:=o00.up u9
 replace o01:=o01.up u9
 replace o02:=o02.up u9
 replace C:=fun k' ds u=>C k' ds (u9.trans u)
 refine add_v out3 p03 (by omega) ?_
 intro k10 s03 u10 o03
 refine ⟨s03,o03.seg,rfl,?_⟩
 replace x1:=x1.up u10
 replace x2:=x2.up u10
 replace x3:=x3.up u10
 replace y0:=y0.up u10
 replace y1:=y1.up u10
 replace y2:=y2.up u10
 replace y3:=y3.up u10
 replace o00:=o00.up u10
 replace o01:=o01.up u10
 replace o02:=o02.up u10
 replace C:=fun k' ds u=>C k' ds (u10.trans u)
 clear out3 p03
 refine mul_v x1 y0 (by omega) ?_
 intro k11 a10 u11 p10
 refine ⟨a10,p10.seg,rfl,?_⟩
 replace x1:=x1.up u11
 replace x2:=x2.up u11
 replace x3:=x3.up u11
 replace y0:=y0.up u11
 replace y1:=y1.up u11
 replace y2:=y2.up u11
 replace y3:=y3.up u11
 replace o00:=o00.up u11
 replace o01:=o01.up u11
 replace o02:=o02.up u11
 replace o03:=o03.up u11
 replace C:=fun k' ds u=>C k' ds (u11.trans u)
 refine add_v o01 p10 (by omega) ?_
 intro k12 s10 u12 o10
 refine ⟨s10,o10.seg,rfl,?_⟩
 replace x1:=x1.up u12
 replace x2:=x2.up u12
 replace x3:=x3.up u12
 replace y0:=y0.up u12
 replace y1:=y1.up u12
 replace y2:=y2.up u12
 replace y3:=y3.up u12
 replace o00:=o00.up u12
 replace o02:=o02.up u12
 replace o03:=o03.up u12
 replace C:=fun k' ds u=>C k' ds (u12.trans u)
 clear o01 p10
 refine mul_v x1 y1 (by omega) ?_
 intro k13 a11 u13 p11
 refine ⟨a11,p11.seg,rfl,?_⟩
 replace x1:=x1.up u13
 replace x2:=x2.up u13
 replace x3:=x3.up u13
 replace y0:=y0.up u13
 replace y1:=y1.up u13
 replace y2:=y2.up u13
 replace y3:=y3.up u13
 replace o00:=o00.up u13
 replace o02:=o02.up u13
 replace o03:=o03.up u13
 replace o10:=o10.up u13
 replace C:=fun k' ds u=>C k' ds (u13.trans u)
 refine whole_v (by decide) (by decide) ?_
 intro k14 w11 u14 hw11
 refine ⟨w11,hw11.seg,rfl,?_⟩
 replace x1:=x1.up u14
 replace x2:=x2.up u14
 replace x3:=x3.up u14
 replace y0:=y0.up u14
 replace y1:=y1.up u14
 replace y2:=y2.up u14
 replace y3:=y3.up u14
 replace o00:=o00.up u14
 replace o02:=o02.up u14
 replace o03:=o03.up u14
 replace o10:=o10.up u14
 replace p11:=p11.up u14
 replace C:=fun k' ds u=>C k' ds (u14.trans u)
 refine mul_v p11 hw11 (by omega) ?_
 intro k15 b112 u15 r112
 refine ⟨b112,r112.seg,rfl,?_⟩
 replace x1:=x1.up u15
 replace x2:=x2.up u15
 replace x3:=x3.up u15
 replace y0:=y0.up u15
 replace y1:=y1.up u15
 replace y2:=y2.up u15
 replace y3:=y3.up u15
 replace o00:=o00.up u15
 replace o02:=o02.up u15
 replace o03:=o03.up u15
 replace o10:=o10.up u15
 replace C:=fun k' ds u=>C k' ds (u15.trans u)
 clear p11 hw11
 refine add_v o00 r112 (by omega) ?_
 intro k16 s11 u16 o11
 refine ⟨s11,o11.seg,rfl,?_⟩
 replace x1:=x1.up u16
 replace x2:=x2.up u16
 replace x3:=x3.up u16
 replace y0:=y0.up u16
 replace y1:=y1.up u16
 replace y2:=y2.up u16
 replace y3:=y3.up u16
 replace o02:=o02.up u16
 replace o03:=o03.up u16
 replace o10:=o10.up u16
 replace C:=fun k' ds u=>C k' ds (u16.trans u)
 clear o00 r112
 refine mul_v x1 y2 (by omega) ?_
 intro k17 a12 u17 p12
 refine ⟨a12,p12.seg,rfl,?_⟩
 replace x1:=x1.up u17
 replace x2:=x2.up u17
 replace x3:=x3.up u17
 replace y0:=y0.up u17
 replace y1:=y1.up u17
 replace y2:=y2.up u17
 replace y3:=y3.up u17
 replace o02:=o02.up u17
 replace o03:=o03.up u17
 replace o10:=o10.up u17
 replace o11:=o11.up u17
 replace C:=fun k' ds u=>C k' ds (u17.trans u)
 refine add_v o03 p12 (by omega) ?_
 intro k18 s12 u18 o12
 refine ⟨s12,o12.seg,rfl,?_⟩
 replace x1:=x1.up u18
 replace x2:=x2.up u18
 replace x3:=x3.up u18
 replace y0:=y0.up u18
 replace y1:=y1.up u18
 replace y2:=y2.up u18
 replace y3:=y3.up u18
 replace o02:=o02.up u18
 replace o10:=o10.up u18
 replace o11:=o11.up u18
 replace C:=fun k' ds u=>C k' ds (u18.trans u)
 clear o03 p12
 refine mul_v x1 y3 (by omega) ?_
 intro k19 a13 u19 p13
 refine ⟨a13,p13.seg,rfl,?_⟩
 replace x2:=x2.up u19
 replace x3:=x3.up u19
 replace y0:=y0.up u19
 replace y1:=y1.up u19
 replace y2:=y2.up u19
 replace y3:=y3.up u19
 replace o02:=o02.up u19
 replace o10:=o10.up u19
 replace o11:=o11.up u19
 replace o12:=o12.up u19
 replace C:=fun k' ds u=>C k' ds (u19.trans u)
 refine whole_v (by decide) (by decide) ?_
 intro k20 w13 u20 hw13
 refine ⟨w13,hw13.seg,rfl,?_⟩
 replace x2:=x2.up u20
 replace x3:=x3.up u20
 replace y0:=y0.up u20
 replace y1:=y1.up u20
 replace y2:=y2.up u20
 replace y3:=y3.up u20
 replace o02:=o02.up u20
 replace o10:=o10.up u20
 replace o11:=o11.up u20
 replace o12:=o12.up u20
 replace p13:=p13.up u20
 replace C:=fun k' ds u=>C k' ds (u20.trans u)
 refine mul_v p13 hw13 (by omega) ?_
 intro k21 b132 u21 r132
 refine ⟨b132,r132.seg,rfl,?_⟩
 replace x2:=x2.up u21
 replace x3:=x3.up u21
 replace y0:=y0.up u21
 replace y1:=y1.up u21
 replace y2:=y2.up u21
 replace y3:=y3.up u21
 replace o02:=o02.up u21
 replace o10:=o10.up u21
 replace o11:=o11.up u21
 replace o12:=o12.up u21
 replace C:=fun k' ds u=>C k' ds (u21.trans u)
 clear p13 hw13
 refine add_v o02 r132 (by omega) ?_
 intro k22 s13 u22 o13
 refine ⟨s13,o13.seg,rfl,?_⟩
 replace x2:=x2.up u22
 replace x3:=x3.up u22
 replace y0:=y0.up u22
 replace y1:=y1.up u22
 replace y2:=y2.up u22
 replace y3:=y3.up u22
 replace o10:=o10.up u22
 replace o11:=o11.up u22
 replace o12:=o12.up u22
 replace C:=fun k' ds u=>C k' ds (u22.trans u)
 clear o02 r132
 refine mul_v x2 y0 (by omega) ?_
 intro k23 a20 u23 p20
 refine ⟨a20,p20.seg,rfl,?_⟩
 replace x2:=x2.up u23
 replace x3:=x3.up u23
 replace y0:=y0.up u23
 replace y1:=y1.up u23
 replace y2:=y2.up u23
 replace y3:=y3.up u23
 replace o10:=o10.up u23
 replace o11:=o11.up u23
 replace o12:=o12.up u23
 replace o13:=o13.up u23
 replace C:=fun k' ds u=>C k' ds (u23.trans u)
 refine add_v o13 p20 (by omega) ?_
 intro k24 s20 u24 o20
 refine ⟨s20,o20.seg,rfl,?_⟩
 replace x2:=x2.up u24
 replace x3:=x3.up u24
 replace y0:=y0.up u24
 replace y1:=y1.up u24
 replace y2:=y2.up u24
 replace y3:=y3.up u24
 replace o10:=o10.up u24
 replace o11:=o11.up u24
 replace o12:=o12.up u24
 replace C:=fun k' ds u=>C k' ds (u24.trans u)
 clear o13 p20
 refine mul_v x2 y1 (by omega) ?_
 intro k25 a21 u25 p21
 refine ⟨a21,p21.seg,rfl,?_⟩
 replace x2:=x2.up u25
 replace x3:=x3.up u25
 replace y0:=y0.up u25
 replace y1:=y1.up u25
 replace y2:=y2.up u25
 replace y3:=y3.up u25
 replace o10:=o10.up u25
 replace o11:=o11.up u25
 replace o12:=o12.up u25
 replace o20:=o20.up u25
 replace C:=fun k' ds u=>C k' ds (u25.trans u)
 refine add_v o12 p21 (by omega) ?_
 intro k26 s21 u26 o21
 refine ⟨s21,o21.seg,rfl,?_⟩
 replace x2:=x2.up u26
 replace x3:=x3.up u26
 replace y0:=y0.up u26
 replace y1:=y1.up u26
 replace y2:=y2.up u26
 replace y3:=y3.up u26
 replace o10:=o10.up u26
 replace o11:=o11.up u26
 replace o20:=o20.up u26
 replace C:=fun k' ds u=>C k' ds (u26.trans u)
 clear o12 p21
 refine mul_v x2 y2 (by omega) ?_
 intro k27 a22 u27 p22
 refine ⟨a22,p22.seg,rfl,?_⟩
 replace x2:=x2.up u27
 replace x3:=x3.up u27
 replace y0:=y0.up u27
 replace y1:=y1.up u27
 replace y2:=y2.up u27
 replace y3:=y3.up u27
 replace o10:=o10.up u27
 replace o11:=o11.up u27
 replace o20:=o20.up u27
 replace o21:=o21.up u27
 replace C:=fun k' ds u=>C k' ds (u27.trans u)
 refine whole_v (by decide) (by decide) ?_
 intro k28 w22 u28 hw22
 refine ⟨w22,hw22.seg,rfl,?_⟩
 replace x2:=x2.up u28
 replace x3:=x3.up u28
 replace y0:=y0.up u28
 replace y1:=y1.up u28
 replace y2:=y2.up u28
 replace y3:=y3.up u28
 replace o10:=o10.up u28
 replace o11:=o11.up u28
 replace o20:=o20.up u28
 replace o21:=o21.up u28
 replace p22:=p22.up u28
 replace C:=fun k' ds u=>C k' ds (u28.trans u)
 refine mul_v p22 hw22 (by omega) ?_
 intro k29 b223 u29 r223
 refine ⟨b223,r223.seg,rfl,?_⟩
 replace x2:=x2.up u29
 replace x3:=x3.up u29
 replace y0:=y0.up u29
 replace y1:=y1.up u29
 replace y2:=y2.up u29
 replace y3:=y3.up u29
 replace o10:=o10.up u29
 replace o11:=o11.up u29
 replace o20:=o20.up u29
 replace o21:=o21.up u29
 replace C:=fun k' ds u=>C k' ds (u29.trans u)
 clear p22 hw22
 refine add_v o11 r223 (by omega) ?_
 intro k30 s22 u30 o22
 refine ⟨s22,o22.seg,rfl,?_⟩
 replace x2:=x2.up u30
 replace x3:=x3.up u30
 replace y0:=y0.up u30
 replace y1:=y1.up u30
 replace y2:=y2.up u30
 replace y3:=y3.up u30
 replace o10:=o10.up u30
 replace o20:=o20.up u30
 replace o21:=o21.up u30
 replace C:=fun k' ds u=>C k' ds (u30.trans u)
 clear o11 r223
 refine mul_v x2 y3 (by omega) ?_
 intro k31 a23 u31 p23
 refine ⟨a23,p23.seg,rfl,?_⟩
 replace x3:=x3.up u31
 replace y0:=y0.up u31
 replace y1:=y1.up u31
 replace y2:=y2.up u31
 replace y3:=y3.up u31
 replace o10:=o10.up u31
 replace o20:=o20.up u31
 replace o21:=o21.up u31
 replace o22:=o22.up u31
 replace C:=fun k' ds u=>C k' ds (u31.trans u)
 refine whole_v (by decide) (by decide) ?_
 intro k32 w23 u32 hw23
 refine ⟨w23,hw23.seg,rfl,?_⟩
 replace x3:=x3.up u32
 replace y0:=y0.up u32
 replace y1:=y1.up u32
 replace y2:=y2.up u32
 replace y3:=y3.up u32
 replace o10:=o10.up u32
 replace o20:=o20.up u32
 replace o21:=o21.up u32
 replace o22:=o22.up u32
 replace p23:=p23.up u32
 replace C:=fun k' ds u=>C k' ds (u32.trans u)
 refine mul_v p23 hw23 (by omega) ?_
 intro k33 b233 u33 r233
 refine ⟨b233,r233.seg,rfl,?_⟩
 replace x3:=x3.up u33
 replace y0:=y0.up u33
 replace y1:=y1.up u33
 replace y2:=y2.up u33
 replace y3:=y3.up u33
 replace o10:=o10.up u33
 replace o20:=o20.up u33
 replace o21:=o21.up u33
 replace o22:=o22.up u33
 replace C:=fun k' ds u=>C k' ds (u33.trans u)
 clear p23 hw23
 refine add_v o10 r233 (by omega) ?_
 intro k34 s23 u34 o23
 refine ⟨s23,o23.seg,rfl,?_⟩
 replace x3:=x3.up u34
 replace y0:=y0.up u34
 replace y1:=y1.up u34
 replace y2:=y2.up u34
 replace y3:=y3.up u34
 replace o20:=o20.up u34
 replace o21:=o21.up u34
 replace o22:=o22.up u34
 replace C:=fun k' ds u=>C k' ds (u34.trans u)
 clear o10 r233
 refine mul_v x3 y0 (by omega) ?_
 intro k35 a30 u35 p30
 refine ⟨a30,p30.seg,rfl,?_⟩
 replace x3:=x3.up u35
 replace y1:=y1.up u35
 replace y2:=y2.up u35
 replace y3:=y3.up u35
 replace o20:=o20.up u35
 replace o21:=o21.up u35
 replace o22:=o22.up u35
 replace o23:=o23.up u35
 replace C:=fun k' ds u=>C k' ds (u35.trans u)
 refine add_v o21 p30 (by omega) ?_
 intro k36 s30 u36 o30
 refine ⟨s30,o30.seg,rfl,?_⟩
 replace x3:=x3.up u36
 replace y1:=y1.up u36
 replace y2:=y2.up u36
 replace y3:=y3.up u36
 replace o20:=o20.up u36
 replace o22:=o22.up u36
 replace o23:=o23.up u36
 replace C:=fun k' ds u=>C k' ds (u36.trans u)
 clear o21 p30
 refine mul_v x3 y1 (by omega) ?_
 intro k37 a31 u37 p31
 refine ⟨a31,p31.seg,rfl,?_⟩
 replace x3:=x3.up u37
 replace y2:=y2.up u37
 replace y3:=y3.up u37
 replace o20:=o20.up u37
 replace o22:=o22.up u37
 replace o23:=o23.up u37
 replace o30:=o30.up u37
 replace C:=fun k' ds u=>C k' ds (u37.trans u)
 refine whole_v (by decide) (by decide) ?_
 intro k38 w31 u38 hw31
 refine ⟨w31,hw31.seg,rfl,?_⟩
 replace x3:=x3.up u38
 replace y2:=y2.up u38
 replace y3:=y3.up u38
 replace o20:=o20.up u38
 replace o22:=o22.up u38
 replace o23:=o23.up u38
 replace o30:=o30.up u38
 replace p31:=p31.up u38
 replace C:=fun k' ds u=>C k' ds (u38.trans u)
 refine mul_v p31 hw31 (by omega) ?_
 intro k39 b312 u39 r312
 refine ⟨b312,r312.seg,rfl,?_⟩
 replace x3:=x3.up u39
 replace y2:=y2.up u39
 replace y3:=y3.up u39
 replace o20:=o20.up u39
 replace o22:=o22.up u39
 replace o23:=o23.up u39
 replace o30:=o30.up u39
 replace C:=fun k' ds u=>C k' ds (u39.trans u)
 clear p31 hw31
 refine add_v o20 r312 (by omega) ?_
 intro k40 s31 u40 o31
 refine ⟨s31,o31.seg,rfl,?_⟩
 replace x3:=x3.up u40
 replace y2:=y2.up u40
 replace y3:=y3.up u40
 replace o22:=o22.up u40
 replace o23:=o23.up u40
 replace o30:=o30.up u40
 replace C:=fun k' ds u=>C k' ds (u40.trans u)
 clear o20 r312
 refine mul_v x3 y2 (by omega) ?_
 intro k41 a32 u41 p32
 refine ⟨a32,p32.seg,rfl,?_⟩
 replace x3:=x3.up u41
 replace y3:=y3.up u41
 replace o22:=o22.up u41
 replace o23:=o23.up u41
 replace o30:=o30.up u41
 replace o31:=o31.up u41
 replace C:=fun k' ds u=>C k' ds (u41.trans u)
 refine whole_v (by decide) (by decide) ?_
 intro k42 w32 u42 hw32
 refine ⟨w32,hw32.seg,rfl,?_⟩
 replace x3:=x3.up u42
 replace y3:=y3.up u42
 replace o22:=o22.up u42
 replace o23:=o23.up u42
 replace o30:=o30.up u42
 replace o31:=o31.up u42
 replace p32:=p32.up u42
 replace C:=fun k' ds u=>C k' ds (u42.trans u)
 refine mul_v p32 hw32 (by omega) ?_
 intro k43 b323 u43 r323
 refine ⟨b323,r323.seg,rfl,?_⟩
 replace x3:=x3.up u43
 replace y3:=y3.up u43
 replace o22:=o22.up u43
 replace o23:=o23.up u43
 replace o30:=o30.up u43
 replace o31:=o31.up u43
 replace C:=fun k' ds u=>C k' ds (u43.trans u)
 clear p32 hw32
 refine add_v o23 r323 (by omega) ?_
 intro k44 s32 u44 o32
 refine ⟨s32,o32.seg,rfl,?_⟩
 replace x3:=x3.up u44
 replace y3:=y3.up u44
 replace o22:=o22.up u44
 replace o30:=o30.up u44
 replace o31:=o31.up u44
 replace C:=fun k' ds u=>C k' ds (u44.trans u)
 clear o23 r323
 refine mul_v x3 y3 (by omega) ?_
 intro k45 a33 u45 p33
 refine ⟨a33,p33.seg,rfl,?_⟩
 replace o22:=o22.up u45
 replace o30:=o30.up u45
 replace o31:=o31.up u45
 replace o32:=o32.up u45
 replace C:=fun k' ds u=>C k' ds (u45.trans u)
 refine whole_v (by decide) (by decide) ?_
 intro k46 w33 u46 hw33
 refine ⟨w33,hw33.seg,rfl,?_⟩
 replace o22:=o22.up u46
 replace o30:=o30.up u46
 replace o31:=o31.up u46
 replace o32:=o32.up u46
 replace p33:=p33.up u46
 replace C:=fun k' ds u=>C k' ds (u46.trans u)
 refine mul_v p33 hw33 (by omega) ?_
 intro k47 b332 u47 r332
 refine ⟨b332,r332.seg,rfl,?_⟩
 replace o22:=o22.up u47
 replace o30:=o30.up u47
 replace o31:=o31.up u47
 replace o32:=o32.up u47
 replace hw33:=hw33.up u47
 replace C:=fun k' ds u=>C k' ds (u47.trans u)
 clear p33 hw33
 refine whole_v (by decide) (by decide) ?_
 intro k48 w33 u48 hw33
 refine ⟨w33,hw33.seg,rfl,?_⟩
 replace o22:=o22.up u48
 replace o30:=o30.up u48
 replace o31:=o31.up u48
 replace o32:=o32.up u48
 replace r332:=r332.up u48
 replace C:=fun k' ds u=>C k' ds (u48.trans u)
 refine mul_v r332 hw33 (by omega) ?_
 intro k49 b333 u49 r333
 refine ⟨b333,r333.seg,rfl,?_⟩
 replace o22:=o22.up u49
 replace o30:=o30.up u49
 replace o31:=o31.up u49
 replace o32:=o32.up u49
 replace C:=fun k' ds u=>C k' ds (u49.trans u)
 clear r332 hw33
 refine add_v o22 r333 (by omega) ?_
 intro k50 s33 u50 o33
 refine ⟨s33,o33.seg,rfl,?_⟩
 replace o30:=o30.up u50
 replace o31:=o31.up u50
 replace o32:=o32.up u50
 replace C:=fun k' ds u=>C k' ds (u50.trans u)
 clear o22 r333
 intro k51 u51
 replace o30:=o30.up u51
 replace o31:=o31.up u51
 replace o32:=o32.up u51
 replace o33:=o33.up u51
 exact C _ _ u51 ⟨_,_,_,_,rfl,(o33.mono (by omega)).cast (by simp only [Q4.mul,Q4.real,zero_lit]; grind),(o32.mono (by omega)).cast (by simp only [Q4.mul,Q4.real,zero_lit]; grind),(o31.mono (by omega)).cast (by simp only [Q4.mul,Q4.real,zero_lit,two_lit]; grind),(o30.mono (by omega)).cast (by simp only [Q4.mul,Q4.real,zero_lit]; grind)⟩
end
end Go.Proofs.YtpjakokgmgggiaaGreat.W32

/- What is to be shown of the calls of some functions. (Printed by gen/vc.py.) -/
namespace Go.Proofs.YtpjakokgmgggiaaGreat
open Go.RowKit
open Value (agg slice int bool tuple)
open Sy (Up Sees CallsG Seg execFn_use)
set_option maxRecDepth 100000
variable {k : World} {R : World→Value→Prop}
theorem rsText_vc {cs0 cs1 cs2 cs3 : Array Value} (hcs0 : Seg 3 cs0) (hcs1 : Seg 3 cs1) (hcs2 : Seg 3 cs2) (hcs3 : Seg 3 cs3)
 (h : ∃ I0 : Nat→World→List Value→Prop,(∃ m0,∀ k0,Up k k0→I0 m0 k0 [Value.string ⟨#[]⟩,int .i64 0]) ∧
 ∀ m0 k0 vs0,Up k k0→I0 m0 k0 vs0→∃ s4,∃ n5,some [Value.string s4,int .i64 n5] = some vs0 ∧
 (((n5 : Int) == 0) = true →
 (Cl k0 79 #[agg cs0] fun k2 r1=>∃ b6,some (bool b6) = some r1 ∧
 (b6 = true →
 (∀ k3,Up k2 k3→∃ m,m < m0∧I0 m k3 [Value.string s4,int .i64 1])) ∧
 (b6 = false →
 (((!(ByteArray.toList s4 == ByteArray.toList ⟨#[]⟩)) = true →
 (Cl k2 146 #[agg cs0] fun k5 r4=>∃ n7,some (int .i64 n7) = some r4 ∧
 ((decide ((n7 : Int) > 0)) = true →
 ((decide (((ByteArray.size s4+ByteArray.size ⟨#[43]⟩ : Nat) : Int)≤9223372036854775807)) = true ∧
 (Cl k5 138 #[agg cs0] fun k7 r6=>∃ s8,some (Value.string s8) = some r6 ∧
 (decide (((ByteArray.size (s4 ++ ⟨#[43]⟩)+ByteArray.size s8 : Nat) : Int)≤9223372036854775807)) = true ∧
 ((decide (((ByteArray.size ((s4 ++ ⟨#[43]⟩) ++ s8)+ByteArray.size ⟨#[]⟩ : Nat) : Int)≤9223372036854775807)) = true ∧
 (∀ k8,Up k7 k8→∃ m,m < m0∧I0 m k8 [Value.string (((s4 ++ ⟨#[43]⟩) ++ s8) ++ ⟨#[]⟩),int .i64 1]))))) ∧
 ((decide ((n7 : Int) > 0)) = false →
 (Cl k5 138 #[agg cs0] fun k10 r9=>∃ s8,some (Value.string s8) = some r9 ∧
 (decide (((ByteArray.size s4+ByteArray.size s8 : Nat) : Int)≤9223372036854775807)) = true ∧
 ((decide (((ByteArray.size (s4 ++ s8)+ByteArray.size ⟨#[]⟩ : Nat) : Int)≤9223372036854775807)) = true ∧
 (∀ k11,Up k10 k11→∃ m,m < m0∧I0 m k11 [Value.string ((s4 ++ s8) ++ ⟨#[]⟩),int .i64 1])))))) ∧
 ((!(ByteArray.toList s4 == ByteArray.toList ⟨#[]⟩)) = false →
 (Cl k2 138 #[agg cs0] fun k13 r12=>∃ s7,some (Value.string s7) = some r12 ∧
 (decide (((ByteArray.size s4+ByteArray.size s7 : Nat) : Int)≤9223372036854775807)) = true ∧
 ((decide (((ByteArray.size (s4 ++ s7)+ByteArray.size ⟨#[]⟩ : Nat) : Int)≤9223372036854775807)) = true ∧
 (∀ k14,Up k13 k14→∃ m,m < m0∧I0 m k14 [Value.string ((s4 ++ s7) ++ ⟨#[]⟩),int .i64 1])))))))) ∧
 (((n5 : Int) == 0) = false →
 ((((n5 : Int) == 1) = true →
 (Cl k0 79 #[agg cs1] fun k16 r15=>∃ b6,some (bool b6) = some r15 ∧
 (b6 = true →
 (∀ k17,Up k16 k17→∃ m,m < m0∧I0 m k17 [Value.string s4,int .i64 2])) ∧
 (b6 = false →
 (((!(ByteArray.toList s4 == ByteArray.toList ⟨#[]⟩)) = true →
 (Cl k16 146 #[agg cs1] fun k19 r18=>∃ n7,some (int .i64 n7) = some r18 ∧
 ((decide ((n7 : Int) > 0)) = true →
 ((decide (((ByteArray.size s4+ByteArray.size ⟨#[43]⟩ : Nat) : Int)≤9223372036854775807)) = true ∧
 (Cl k19 138 #[agg cs1] fun k21 r20=>∃ s8,some (Value.string s8) = some r20 ∧
 (decide (((ByteArray.size (s4 ++ ⟨#[43]⟩)+ByteArray.size s8 : Nat) : Int)≤9223372036854775807)) = true ∧
 ((decide (((ByteArray.size ((s4 ++ ⟨#[43]⟩) ++ s8)+ByteArray.size ⟨#[114,50]⟩ : Nat) : Int)≤9223372036854775807)) = true ∧
 (∀ k22,Up k21 k22→∃ m,m < m0∧I0 m k22 [Value.string (((s4 ++ ⟨#[43]⟩) ++ s8) ++ ⟨#[114,50]⟩),int .i64 2]))))) ∧
 ((decide ((n7 : Int) > 0)) = false →
 (Cl k19 138 #[agg cs1] fun k24 r23=>∃ s8,some (Value.string s8) = some r23 ∧
 (decide (((ByteArray.size s4+ByteArray.size s8 : Nat) : Int)≤9223372036854775807)) = true ∧
 ((decide (((ByteArray.size (s4 ++ s8)+ByteArray.size ⟨#[114,50]⟩ : Nat) : Int)≤9223372036854775807)) = true ∧
 (∀ k25,Up k24 k25→∃ m,m < m0∧I0 m k25 [Value.string ((s4 ++ s8) ++ ⟨#[114,50]⟩),int .i64 2])))))) ∧
 ((!(ByteArray.toList s4 == ByteArray.toList ⟨#[]⟩)) = false →
 (Cl k16 138 #[agg cs1] fun k27 r26=>∃ s7,some (Value.string s7) = some r26 ∧
 (decide (((ByteArray.size s4+ByteArray.size s7 : Nat) : Int)≤9223372036854775807)) = true ∧
 ((decide (((ByteArray.size (s4 ++ s7)+ByteArray.size ⟨#[114,50]⟩ : Nat) : Int)≤9223372036854775807)) = true ∧
 (∀ k28,Up k27 k28→∃ m,m < m0∧I0 m k28 [Value.string ((s4 ++ s7) ++ ⟨#[114,50]⟩),int .i64 2])))))))) ∧
 (((n5 : Int) == 1) = false →
 ((((n5 : Int) == 2) = true →
 (Cl k0 79 #[agg cs2] fun k30 r29=>∃ b6,some (bool b6) = some r29 ∧
 (b6 = true →
 (∀ k31,Up k30 k31→∃ m,m < m0∧I0 m k31 [Value.string s4,int .i64 3])) ∧
 (b6 = false →
 (((!(ByteArray.toList s4 == ByteArray.toList ⟨#[]⟩)) = true →
 (Cl k30 146 #[agg cs2] fun k33 r32=>∃ n7,some (int .i64 n7) = some r32 ∧
 ((decide ((n7 : Int) > 0)) = true →
 ((decide (((ByteArray.size s4+ByteArray.size ⟨#[43]⟩ : Nat) : Int)≤9223372036854775807)) = true ∧
 (Cl k33 138 #[agg cs2] fun k35 r34=>∃ s8,some (Value.string s8) = some r34 ∧
 (decide (((ByteArray.size (s4 ++ ⟨#[43]⟩)+ByteArray.size s8 : Nat) : Int)≤9223372036854775807)) = true ∧
 ((decide (((ByteArray.size ((s4 ++ ⟨#[43]⟩) ++ s8)+ByteArray.size ⟨#[114,51]⟩ : Nat) : Int)≤9223372036854775807)) = true ∧
 (∀ k36,Up k35 k36→∃ m,m < m0∧I0 m k36 [Value.string (((s4 ++ ⟨#[43]⟩) ++ s8) ++ ⟨#[114,51]⟩),int .i64 3]))))) ∧
 ((decide ((n7 : Int) > 0)) = false →
 (Cl k33 138 #[agg cs2] fun k38 r37=>∃ s8,some (Value.string s8) = some r37 ∧
 (decide (((ByteArray.size s4+ByteArray.size s8 : Nat) : Int)≤9223372036854775807)) = true ∧
 ((decide (((ByteArray.size (s4 ++ s8)+ByteArray.size ⟨#[114,51]⟩ : Nat) : Int)≤9223372036854775807)) = true ∧
 (∀ k39,Up k38 k39→∃ m,m < m0∧I0 m k39 [Value.string ((s4 ++ s8) ++ ⟨#[114,51]⟩),int .i64 3])))))) ∧
 ((!(ByteArray.toList s4 == ByteArray.toList ⟨#[]⟩)) = false →
 (Cl k30 138 #[agg cs2] fun k41 r40=>∃ s7,some (Value.string s7) = some r40 ∧
 (decide (((ByteArray.size s4+ByteArray.size s7 : Nat) : Int)≤9223372036854775807)) = true ∧
 ((decide (((ByteArray.size (s4 ++ s7)+ByteArray.size ⟨#[114,51]⟩ : Nat) : Int)≤9223372036854775807)) = true ∧
 (∀ k42,Up k41 k42→∃ m,m < m0∧I0 m k42 [Value.string ((s4 ++ s7) ++ ⟨#[114,51]⟩),int .i64 3])))))))) ∧
 (((n5 : Int) == 2) = false →
 ((((n5 : Int) == 3) = true →
 (Cl k0 79 #[agg cs3] fun k44 r43=>∃ b6,some (bool b6) = some r43 ∧
 (b6 = true →
 (∀ k45,Up k44 k45→∃ m,m < m0∧I0 m k45 [Value.string s4,int .i64 4])) ∧
 (b6 = false →
 (((!(ByteArray.toList s4 == ByteArray.toList ⟨#[]⟩)) = true →
 (Cl k44 146 #[agg cs3] fun k47 r46=>∃ n7,some (int .i64 n7) = some r46 ∧
 ((decide ((n7 : Int) > 0)) = true →
 ((decide (((ByteArray.size s4+ByteArray.size ⟨#[43]⟩ : Nat) : Int)≤9223372036854775807)) = true ∧
 (Cl k47 138 #[agg cs3] fun k49 r48=>∃ s8,some (Value.string s8) = some r48 ∧
 (decide (((ByteArray.size (s4 ++ ⟨#[43]⟩)+ByteArray.size s8 : Nat) : Int)≤9223372036854775807)) = true ∧
 ((decide (((ByteArray.size ((s4 ++ ⟨#[43]⟩) ++ s8)+ByteArray.size ⟨#[114,54]⟩ : Nat) : Int)≤9223372036854775807)) = true ∧
 (∀ k50,Up k49 k50→∃ m,m < m0∧I0 m k50 [Value.string (((s4 ++ ⟨#[43]⟩) ++ s8) ++ ⟨#[114,54]⟩),int .i64 4]))))) ∧
 ((decide ((n7 : Int) > 0)) = false →
 (Cl k47 138 #[agg cs3] fun k52 r51=>∃ s8,some (Value.string s8) = some r51 ∧
 (decide (((ByteArray.size s4+ByteArray.size s8 : Nat) : Int)≤9223372036854775807)) = true ∧
 ((decide (((ByteArray.size (s4 ++ s8)+ByteArray.size ⟨#[114,54]⟩ : Nat) : Int)≤9223372036854775807)) = true ∧
 (∀ k53,Up k52 k53→∃ m,m < m0∧I0 m k53 [Value.string ((s4 ++ s8) ++ ⟨#[114,54]⟩),int .i64 4])))))) ∧
 ((!(ByteArray.toList s4 == ByteArray.toList ⟨#[]⟩)) = false →
 (Cl k44 138 #[agg cs3] fun k55 r54=>∃ s7,some (Value.string s7) = some r54 ∧
 (decide (((ByteArray.size s4+ByteArray.size s7 : Nat) : Int)≤9223372036854775807)) = true ∧
 ((decide (((ByteArray.size (s4 ++ s7)+ByteArray.size ⟨#[114,54]⟩ : Nat) : Int)≤9223372036854775807)) = true ∧
 (∀ k56,Up k55 k56→∃ m,m < m0∧I0 m k56 [Value.string ((s4 ++ s7) ++ ⟨#[114,54]⟩),int .i64 4])))))))) ∧
 (((n5 : Int) == 3) = false →
 ((((n5 : Int) == 4) = true →
 (((ByteArray.toList s4 == ByteArray.toList ⟨#[]⟩) = true →
 (∀ k57,Up k0 k57→R k57 (Value.string ⟨#[48]⟩))) ∧
 ((ByteArray.toList s4 == ByteArray.toList ⟨#[]⟩) = false →
 (∀ k58,Up k0 k58→R k58 (Value.string s4))))) ∧
 (((n5 : Int) == 4) = false →
 (False /- split -/))))))))))) :
   CallsG Tryz.prog 151 #[agg (cs0.toList ++ (cs1.toList ++ (cs2.toList ++ (cs3.toList ++ ([]))))).toArray] k R :=
  execFn_use (cfg:={ opq:=[34],loops:=[(0,[.tmp 3 false [.str],.tmp 5 false [.int .i64]])],splits:=[(0,5,[0,1,2,3,4])] }) (args:=[.agg [.seg 0 3,.seg 1 3,.seg 2 3,.seg 3 3]]) (vals:=[agg cs0,agg cs1,agg cs2,agg cs3]) (kinds:=[.seg 3,.seg 3,.seg 3,.seg 3]) (by kernel_rfl) ⟨⟨cs0,rfl,hcs0⟩,⟨⟨cs1,rfl,hcs1⟩,⟨⟨cs2,rfl,hcs2⟩,⟨⟨cs3,rfl,hcs3⟩,trivial⟩⟩⟩⟩ (by kernel_rfl) (by kernel_rfl) h
end Go.Proofs.YtpjakokgmgggiaaGreat

/- The reference's Surds: their texts. (Printed by gen/refs2.py.) -/
namespace Go.Proofs.YtpjakokgmgggiaaGreat.W32
open Go.RowKit Num
open Sy (Up Sees CallsG Seg)
section
variable {k k' : World} {cs cs' c0 c1 c2 c3 : Array Value} {R : World→Value→Prop} {x y q q' : Rat} {v v' : Q4} {K L : Nat}
theorem rtext_len (h : QV k cs q K) : (ratText q).length≤20*K+4:=by
 obtain ⟨b,A,l,c,A',l',c',rfl,h,e1,e2⟩:=h
 have h1:=dec_short h.n
 have h2:=dec_short h.d
 unfold ratText
 rw [List.length_append,List.length_append]
 have h3 : (if q.num < 0 then [45] else ([] : List UInt8)).length≤1:=by split <;> simp
 by_cases h4 : q.den = 1
 ·rw [if_pos h4]; simp only [List.length_nil]; omega
 ·rw [if_neg h4]; simp only [List.length_cons]; omega
theorem rbody_len (h0 : QV k c0 v.a K) (h1 : QV k c1 v.b K) (h2 : QV k c2 v.c K) (h3 : QV k c3 v.d K) (j : Nat) : (body v j).length≤80*K+26:=by
 have e0:=rtext_len h0
 have e1:=rtext_len h1
 have e2:=rtext_len h2
 have e3:=rtext_len h3
 have f1:=addPart_len [] v.a []
 have f2:=addPart_len (addPart [] v.a []) v.b [114,50]
 have f3:=addPart_len (addPart (addPart [] v.a []) v.b [114,50]) v.c [114,51]
 have f4:=addPart_len (addPart (addPart (addPart [] v.a []) v.b [114,50]) v.c [114,51]) v.d [114,54]
 simp only [List.length_cons,List.length_nil] at f1 f2 f3 f4
 match j with
 | 0=>simp [body]
 | 1=>simp only [body]; omega
 | 2=>simp only [body]; omega
 | 3=>simp only [body]; omega
 | n+4=>simp only [body]; omega
theorem stext_v (hx : SQ k cs v K) (hK : K≤10000000000) (C : ∀ k',Up k k'→R k' (.string (str (surdText v)))) :
 Cl k 151 #[.agg cs] R:=by
 intro k0 u0
 obtain ⟨c0,c1,c2,c3,rfl,q0,q1,q2,q3⟩:=hx.up u0
 replace C:=fun k' u=>C k' (u0.trans u)
 refine rsText_vc q0.seg q1.seg q2.seg q3.seg ?_
 have hlen:=rbody_len q0 q1 q2 q3
 refine ⟨fun m k' vs=>∃ j,j≤4∧m = 4 - j∧vs = [.string (str (body v j)),.int .i64 (j : Nat)],⟨4,fun k' _=>⟨0,by omega,rfl,rfl⟩⟩,?_⟩
 rintro m k2 vs u2 ⟨j,hj,rfl,rfl⟩
 refine ⟨str (body v j),(j : Nat),rfl,?_⟩
 replace q0:=q0.up u2
 replace q1:=q1.up u2
 replace q2:=q2.up u2
 replace q3:=q3.up u2
 replace C:=fun k' u=>C k' (u2.trans u)
 clear u0 u2
 refine ⟨fun hj0=>?_,fun hj0=>?_⟩
 ·have e : j = 0:=by have:=eq_of_beq hj0; omega
  subst e
  clear C hx
  refine zero_v q0 ?_
  intro k3 u3
  refine ⟨_,rfl,fun hz=>?_,fun hz=>?_⟩
  ·intro k4 u4
   refine ⟨3 - 0,by omega,0+1,by omega,by omega,?_⟩
   have hz : v.a = 0:=of_decide_eq_true hz
   have e : body v (0+1) = body v 0:=by simp only [body]; conv=>lhs; rw [addPart,if_pos hz]
   rw [e]; rfl
  ·have hz : ¬ v.a = 0:=of_decide_eq_false hz
   refine ⟨fun hs=>?_,fun hs=>?_⟩
   ·have hs : body v 0 ≠ []:=by
     intro h
     rw [h,nil_eq] at hs
     cases hs
    refine sign_v (q0.up u3) ?_
    intro k4 u4
    refine ⟨_,rfl,fun hp=>?_,fun hp=>?_⟩
    ·have hp : 0 < (v.a).num.sign:=by simpa using hp
     refine ⟨fits (by rw [str_size]; have:=hlen 0; show _+1≤_; omega),?_⟩
     refine text_v ((q0.up u3).up u4) (by omega) ?_
     intro k5 u5
     have e : body v (0+1) = (body v 0 ++ [43]) ++ (ratText v.a ++ []):=by
      simp only [body]; conv=>lhs; rw [addPart,if_neg hz,if_pos ⟨hs,hp⟩]
     have hl:=hlen (0+1)
     rw [e] at hl
     simp only [List.length_append,List.length_cons,List.length_nil] at hl
     refine ⟨_,rfl,?_,?_,?_⟩
     ·refine fits ?_
      show (str (body v 0) ++ str [43]).size+(str (ratText v.a)).size≤_
      rw [str_app,str_size,str_size]; (try simp only [List.length_append,List.length_cons,List.length_nil]); omega
     ·refine fits ?_
      show ((str (body v 0) ++ str [43]) ++ str (ratText v.a)).size+(str []).size≤_
      rw [str_app,str_app,str_size,str_size]; (try simp only [List.length_append,List.length_cons,List.length_nil]); omega
     ·intro k7 u7
      refine ⟨3 - 0,by omega,0+1,by omega,by omega,?_⟩
      rw [e,← List.append_assoc,← str_app,← str_app,← str_app]; rfl
    ·have hp : ¬ 0 < (v.a).num.sign:=by simpa using hp
     refine text_v ((q0.up u3).up u4) (by omega) ?_
     intro k5 u5
     have e : body v (0+1) = body v 0 ++ (ratText v.a ++ []):=by
      simp only [body]; conv=>lhs; rw [addPart,if_neg hz,if_neg (fun h=>hp h.2)]
     have hl:=hlen (0+1)
     rw [e] at hl
     simp only [List.length_append,List.length_nil] at hl
     refine ⟨_,rfl,?_,?_,?_⟩
     ·refine fits ?_
      show (str (body v 0)).size+(str (ratText v.a)).size≤_
      rw [str_size,str_size]; (try simp only [List.length_append,List.length_cons,List.length_nil]); omega
     ·refine fits ?_
      show (str (body v 0) ++ str (ratText v.a)).size+(str []).size≤_
      rw [str_app,str_size,str_size]; (try simp only [List.length_append,List.length_nil]); omega
     ·intro k7 u7
      refine ⟨3 - 0,by omega,0+1,by omega,by omega,?_⟩
      rw [e,← List.append_assoc,← str_app,← str_app]; rfl
   ·have hs : ¬ body v 0 ≠ []:=by
     intro h
     cases hq : ((str (body v 0)).toList == (⟨#[]⟩ : ByteArray).toList) with
     | false=>rw [hq] at hs; cases hs
     | true=>exact h (str_inj (toList_inj.1 hq))
    refine text_v (q0.up u3) (by omega) ?_
    intro k5 u5
    have e : body v (0+1) = body v 0 ++ (ratText v.a ++ []):=by
     simp only [body]; conv=>lhs; rw [addPart,if_neg hz,if_neg (fun h=>hs h.1)]
    have hl:=hlen (0+1)
    rw [e] at hl
    simp only [List.length_append,List.length_nil] at hl
    refine ⟨_,rfl,?_,?_,?_⟩
    ·refine fits ?_
     show (str (body v 0)).size+(str (ratText v.a)).size≤_
     rw [str_size,str_size]; (try simp only [List.length_append,List.length_cons,List.length_nil]); omega
    ·refine fits ?_
     show (str (body v 0) ++ str (ratText v.a)).size+(str []).size≤_
     rw [str_app,str_size,str_size]; (try simp only [List.length_append,List.length_nil]); omega
    ·intro k7 u7
     refine ⟨3 - 0,by omega,0+1,by omega,by omega,?_⟩
     rw [e,← List.append_assoc,← str_app,← str_app]; rfl
 refine ⟨fun hj1=>?_,fun hj1=>?_⟩
 ·have e : j = 1:=by have:=eq_of_beq hj1; omega
  subst e
  clear C hx
  refine zero_v q1 ?_
  intro k3 u3
  refine ⟨_,rfl,fun hz=>?_,fun hz=>?_⟩
  ·intro k4 u4
   refine ⟨3 - 1,by omega,1+1,by omega,by omega,?_⟩
   have hz : v.b = 0:=of_decide_eq_true hz
   have e : body v (1+1) = body v 1:=by simp only [body]; conv=>lhs; rw [addPart,if_pos hz]
   rw [e]; rfl
  ·have hz : ¬ v.b = 0:=of_decide_eq_false hz
   refine ⟨fun hs=>?_,fun hs=>?_⟩
   ·have hs : body v 1 ≠ []:=by
     intro h
     rw [h,nil_eq] at hs
     cases hs
    refine sign_v (q1.up u3) ?_
    intro k4 u4
    refine ⟨_,rfl,fun hp=>?_,fun hp=>?_⟩
    ·have hp : 0 < (v.b).num.sign:=by simpa using hp
     refine ⟨fits (by rw [str_size]; have:=hlen 1; show _+1≤_; omega),?_⟩
     refine text_v ((q1.up u3).up u4) (by omega) ?_
     intro k5 u5
     have e : body v (1+1) = (body v 1 ++ [43]) ++ (ratText v.b ++ [114,50]):=by
      simp only [body]; conv=>lhs; rw [addPart,if_neg hz,if_pos ⟨hs,hp⟩]
     have hl:=hlen (1+1)
     rw [e] at hl
     simp only [List.length_append,List.length_cons,List.length_nil] at hl
     refine ⟨_,rfl,?_,?_,?_⟩
     ·refine fits ?_
      show (str (body v 1) ++ str [43]).size+(str (ratText v.b)).size≤_
      rw [str_app,str_size,str_size]; (try simp only [List.length_append,List.length_cons,List.length_nil]); omega
     ·refine fits ?_
      show ((str (body v 1) ++ str [43]) ++ str (ratText v.b)).size+(str [114,50]).size≤_
      rw [str_app,str_app,str_size,str_size]; (try simp only [List.length_append,List.length_cons,List.length_nil]); omega
     ·intro k7 u7
      refine ⟨3 - 1,by omega,1+1,by omega,by omega,?_⟩
      rw [e,← List.append_assoc,← str_app,← str_app,← str_app]; rfl
    ·have hp : ¬ 0 < (v.b).num.sign:=by simpa using hp
     refine text_v ((q1.up u3).up u4) (by omega) ?_
     intro k5 u5
     have e : body v (1+1) = body v 1 ++ (ratText v.b ++ [114,50]):=by
      simp only [body]; conv=>lhs; rw [addPart,if_neg hz,if_neg (fun h=>hp h.2)]
     have hl:=hlen (1+1)
     rw [e] at hl
     simp only [List.length_append,List.length_cons,List.length_nil] at hl
     refine ⟨_,rfl,?_,?_,?_⟩
     ·refine fits ?_
      show (str (body v 1)).size+(str (ratText v.b)).size≤_
      rw [str_size,str_size]; (try simp only [List.length_append,List.length_cons,List.length_nil]); omega
     ·refine fits ?_
      show (str (body v 1) ++ str (ratText v.b)).size+(str [114,50]).size≤_
      rw [str_app,str_size,str_size]; (try simp only [List.length_append,List.length_cons,List.length_nil]); omega
     ·intro k7 u7
      refine ⟨3 - 1,by omega,1+1,by omega,by omega,?_⟩
      rw [e,← List.append_assoc,← str_app,← str_app]; rfl
   ·have hs : ¬ body v 1 ≠ []:=by
     intro h
     cases hq : ((str (body v 1)).toList == (⟨#[]⟩ : ByteArray).toList) with
     | false=>rw [hq] at hs; cases hs
     | true=>exact h (str_inj (toList_inj.1 hq))
    refine text_v (q1.up u3) (by omega) ?_
    intro k5 u5
    have e : body v (1+1) = body v 1 ++ (ratText v.b ++ [114,50]):=by
     simp only [body]; conv=>lhs; rw [addPart,if_neg hz,if_neg (fun h=>hs h.1)]
    have hl:=hlen (1+1)
    rw [e] at hl
    simp only [List.length_append,List.length_cons,List.length_nil] at hl
    refine ⟨_,rfl,?_,?_,?_⟩
    ·refine fits ?_
     show (str (body v 1)).size+(str (ratText v.b)).size≤_
     rw [str_size,str_size]; (try simp only [List.length_append,List.length_cons,List.length_nil]); omega
    ·refine fits ?_
     show (str (body v 1) ++ str (ratText v.b)).size+(str [114,50]).size≤_
     rw [str_app,str_size,str_size]; (try simp only [List.length_append,List.length_cons,List.length_nil]); omega
    ·intro k7 u7
     refine ⟨3 - 1,by omega,1+1,by omega,by omega,?_⟩
     rw [e,← List.append_assoc,← str_app,← str_app]; rfl
 refine ⟨fun hj2=>?_,fun hj2=>?_⟩
 ·have e : j = 2:=by have:=eq_of_beq hj2; omega
  subst e
  clear C hx
  refine zero_v q2 ?_
  intro k3 u3
  refine ⟨_,rfl,fun hz=>?_,fun hz=>?_⟩
  ·intro k4 u4
   refine ⟨3 - 2,by omega,2+1,by omega,by omega,?_⟩
   have hz : v.c = 0:=of_decide_eq_true hz
   have e : body v (2+1) = body v 2:=by simp only [body]; conv=>lhs; rw [addPart,if_pos hz]
   rw [e]; rfl
  ·have hz : ¬ v.c = 0:=of_decide_eq_false hz
   refine ⟨fun hs=>?_,fun hs=>?_⟩
   ·have hs : body v 2 ≠ []:=by
     intro h
     rw [h,nil_eq] at hs
     cases hs
    refine sign_v (q2.up u3) ?_
    intro k4 u4
    refine ⟨_,rfl,fun hp=>?_,fun hp=>?_⟩
    ·have hp : 0 < (v.c).num.sign:=by simpa using hp
     refine ⟨fits (by rw [str_size]; have:=hlen 2; show _+1≤_; omega),?_⟩
     refine text_v ((q2.up u3).up u4) (by omega) ?_
     intro k5 u5
     have e : body v (2+1) = (body v 2 ++ [43]) ++ (ratText v.c ++ [114,51]):=by
      simp only [body]; conv=>lhs; rw [addPart,if_neg hz,if_pos ⟨hs,hp⟩]
     have hl:=hlen (2+1)
     rw [e] at hl
     simp only [List.length_append,List.length_cons,List.length_nil] at hl
     refine ⟨_,rfl,?_,?_,?_⟩
     ·refine fits ?_
      show (str (body v 2) ++ str [43]).size+(str (ratText v.c)).size≤_
      rw [str_app,str_size,str_size]; (try simp only [List.length_append,List.length_cons,List.length_nil]); omega
     ·refine fits ?_
      show ((str (body v 2) ++ str [43]) ++ str (ratText v.c)).size+(str [114,51]).size≤_
      rw [str_app,str_app,str_size,str_size]; (try simp only [List.length_append,List.length_cons,List.length_nil]); omega
     ·intro k7 u7
      refine ⟨3 - 2,by omega,2+1,by omega,by omega,?_⟩
      rw [e,← List.append_assoc,← str_app,← str_app,← str_app]; rfl
    ·have hp : ¬ 0 < (v.c).num.sign:=by simpa using hp
     refine text_v ((q2.up u3).up u4) (by omega) ?_
     intro k5 u5
     have e : body v (2+1) = body v 2 ++ (ratText v.c ++ [114,51]):=by
      simp only [body]; conv=>lhs; rw [addPart,if_neg hz,if_neg (fun h=>hp h.2)]
     have hl:=hlen (2+1)
     rw [e] at hl
     simp only [List.length_append,List.length_cons,List.length_nil] at hl
     refine ⟨_,rfl,?_,?_,?_⟩
     ·refine fits ?_
      show (str (body v 2)).size+(str (ratText v.c)).size≤_
      rw [str_size,str_size]; (try simp only [List.length_append,List.length_cons,List.length_nil]); omega
     ·refine fits ?_
      show (str (body v 2) ++ str (ratText v.c)).size+(str [114,51]).size≤_
      rw [str_app,str_size,str_size]; (try simp only [List.length_append,List.length_cons,List.length_nil]); omega
     ·intro k7 u7
      refine ⟨3 - 2,by omega,2+1,by omega,by omega,?_⟩
      rw [e,← List.append_assoc,← str_app,← str_app]; rfl
   ·have hs : ¬ body v 2 ≠ []:=by
     intro h
     cases hq : ((str (body v 2)).toList == (⟨#[]⟩ : ByteArray).toList) with
     | false=>rw [hq] at hs; cases hs
     | true=>exact h (str_inj (toList_inj.1 hq))
    refine text_v (q2.up u3) (by omega) ?_
    intro k5 u5
    have e : body v (2+1) = body v 2 ++ (ratText v.c ++ [114,51]):=by
     simp only [body]; conv=>lhs; rw [addPart,if_neg hz,if_neg (fun h=>hs h.1)]
    have hl:=hlen (2+1)
    rw [e] at hl
    simp only [List.length_append,List.length_cons,List.length_nil] at hl
    refine ⟨_,rfl,?_,?_,?_⟩
    ·refine fits ?_
     show (str (body v 2)).size+(str (ratText v.c)).size≤_
     rw [str_size,str_size]; (try simp only [List.length_append,List.length_cons,List.length_nil]); omega
    ·refine fits ?_
     show (str (body v 2) ++ str (ratText v.c)).size+(str [114,51]).size≤_
     rw [str_app,str_size,str_size]; (try simp only [List.length_append,List.length_cons,List.length_nil]); omega
    ·intro k7 u7
     refine ⟨3 - 2,by omega,2+1,by omega,by omega,?_⟩
     rw [e,← List.append_assoc,← str_app,← str_app]; rfl
 refine ⟨fun hj3=>?_,fun hj3=>?_⟩
 ·have e : j = 3:=by have:=eq_of_beq hj3; omega
  subst e
  clear C hx
  refine zero_v q3 ?_
  intro k3 u3
  refine ⟨_,rfl,fun hz=>?_,fun hz=>?_⟩
  ·intro k4 u4
   refine ⟨3 - 3,by omega,3+1,by omega,by omega,?_⟩
   have hz : v.d = 0:=of_decide_eq_true hz
   have e : body v (3+1) = body v 3:=by simp only [body]; conv=>lhs; rw [addPart,if_pos hz]
   rw [e]; rfl
  ·have hz : ¬ v.d = 0:=of_decide_eq_false hz
   refine ⟨fun hs=>?_,fun hs=>?_⟩
   ·have hs : body v 3 ≠ []:=by
     intro h
     rw [h,nil_eq] at hs
     cases hs
    refine sign_v (q3.up u3) ?_
    intro k4 u4
    refine ⟨_,rfl,fun hp=>?_,fun hp=>?_⟩
    ·have hp : 0 < (v.d).num.sign:=by simpa using hp
     refine ⟨fits (by rw [str_size]; have:=hlen 3; show _+1≤_; omega),?_⟩
     refine text_v ((q3.up u3).up u4) (by omega) ?_
     intro k5 u5
     have e : body v (3+1) = (body v 3 ++ [43]) ++ (ratText v.d ++ [114,54]):=by
      simp only [body]; conv=>lhs; rw [addPart,if_neg hz,if_pos ⟨hs,hp⟩]
     have hl:=hlen (3+1)
     rw [e] at hl
     simp only [List.length_append,List.length_cons,List.length_nil] at hl
     refine ⟨_,rfl,?_,?_,?_⟩
     ·refine fits ?_
      show (str (body v 3) ++ str [43]).size+(str (ratText v.d)).size≤_
      rw [str_app,str_size,str_size]; (try simp only [List.length_append,List.length_cons,List.length_nil]); omega
     ·refine fits ?_
      show ((str (body v 3) ++ str [43]) ++ str (ratText v.d)).size+(str [114,54]).size≤_
      rw [str_app,str_app,str_size,str_size]; (try simp only [List.length_append,List.length_cons,List.length_nil]); omega
     ·intro k7 u7
      refine ⟨3 - 3,by omega,3+1,by omega,by omega,?_⟩
      rw [e,← List.append_assoc,← str_app,← str_app,← str_app]; rfl
    ·have hp : ¬ 0 < (v.d).num.sign:=by simpa using hp
     refine text_v ((q3.up u3).up u4) (by omega) ?_
     intro k5 u5
     have e : body v (3+1) = body v 3 ++ (ratText v.d ++ [114,54]):=by
      simp only [body]; conv=>lhs; rw [addPart,if_neg hz,if_neg (fun h=>hp h.2)]
     have hl:=hlen (3+1)
     rw [e] at hl
     simp only [List.length_append,List.length_cons,List.length_nil] at hl
     refine ⟨_,rfl,?_,?_,?_⟩
     ·refine fits ?_
      show (str (body v 3)).size+(str (ratText v.d)).size≤_
      rw [str_size,str_size]; (try simp only [List.length_append,List.length_cons,List.length_nil]); omega
     ·refine fits ?_
      show (str (body v 3) ++ str (ratText v.d)).size+(str [114,54]).size≤_
      rw [str_app,str_size,str_size]; (try simp only [List.length_append,List.length_cons,List.length_nil]); omega
     ·intro k7 u7
      refine ⟨3 - 3,by omega,3+1,by omega,by omega,?_⟩
      rw [e,← List.append_assoc,← str_app,← str_app]; rfl
   ·have hs : ¬ body v 3 ≠ []:=by
     intro h
     cases hq : ((str (body v 3)).toList == (⟨#[]⟩ : ByteArray).toList) with
     | false=>rw [hq] at hs; cases hs
     | true=>exact h (str_inj (toList_inj.1 hq))
    refine text_v (q3.up u3) (by omega) ?_
    intro k5 u5
    have e : body v (3+1) = body v 3 ++ (ratText v.d ++ [114,54]):=by
     simp only [body]; conv=>lhs; rw [addPart,if_neg hz,if_neg (fun h=>hs h.1)]
    have hl:=hlen (3+1)
    rw [e] at hl
    simp only [List.length_append,List.length_cons,List.length_nil] at hl
    refine ⟨_,rfl,?_,?_,?_⟩
    ·refine fits ?_
     show (str (body v 3)).size+(str (ratText v.d)).size≤_
     rw [str_size,str_size]; (try simp only [List.length_append,List.length_cons,List.length_nil]); omega
    ·refine fits ?_
     show (str (body v 3) ++ str (ratText v.d)).size+(str [114,54]).size≤_
     rw [str_app,str_size,str_size]; (try simp only [List.length_append,List.length_cons,List.length_nil]); omega
    ·intro k7 u7
     refine ⟨3 - 3,by omega,3+1,by omega,by omega,?_⟩
     rw [e,← List.append_assoc,← str_app,← str_app]; rfl
 refine ⟨fun hj4=>?_,fun hj4=>?_⟩
 ·have e : j = 4:=by have:=eq_of_beq hj4; omega
  subst e
  refine ⟨fun hs=>?_,fun hs=>?_⟩
  ·have hs : body v 4 = []:=str_inj (toList_inj.1 hs)
   intro k3 u3
   have:=C k3 u3
   unfold surdText at this
   rwa [if_pos hs] at this
  ·have hs : ¬ body v 4 = []:=by
    intro h
    rw [h,nil_eq] at hs
    cases hs
   intro k3 u3
   have:=C k3 u3
   unfold surdText at this
   rwa [if_neg hs] at this
 ·exfalso
  simp only [beq_eq_false_iff_ne,ne_eq] at hj0 hj1 hj2 hj3 hj4
  omega
end
end Go.Proofs.YtpjakokgmgggiaaGreat.W32

/- The reference's Surds: zero, quotients, plain data. (Printed by gen/refs2.py.) -/
namespace Go.Proofs.YtpjakokgmgggiaaGreat.W32
open Go.RowKit Num
open Sy (Up Sees CallsG Seg)
section
variable {k k' : World} {cs cs' c0 c1 c2 c3 : Array Value} {R : World→Value→Prop} {x y q q' : Rat} {v v' : Q4} {K L : Nat}
theorem szero_v (hx : SQ k cs v K)  (C : ∀ k',Up k k'→R k' (.bool (decide (v = Q4.zero)))) :
 Cl k 91 #[.agg cs] R:=by
 intro k0 u0
 replace C:=fun k' u=>C k' (u0.trans u)
 obtain ⟨c0,c1,c2,c3,rfl,x0,x1,x2,x3⟩:=hx.up u0
 refine sZero_vc x0.seg x1.seg x2.seg x3.seg ?_
 refine zero_v x0 fun k1 u1=>⟨_,rfl,fun h0=>?_,fun h0=>fun k11 u11=>?_⟩
 ·refine zero_v (x1.up u1) fun k3 u3=>⟨_,rfl,fun h1=>?_,fun h1=>fun k10 u10=>?_⟩
  ·refine zero_v (x2.up (u1.trans u3)) fun k5 u5=>⟨_,rfl,fun h2=>?_,fun h2=>fun k9 u9=>?_⟩
   ·refine zero_v (x3.up ((u1.trans u3).trans u5)) fun k7 u7=>⟨_,rfl,fun k8 u8=>?_⟩
    have e : decide (v = Q4.zero) = decide (v.d = 0):=by rw [Q4.zero_iff,h0,h1,h2]; rfl
    have:=C k8 ((((u1.trans u3).trans u5).trans u7).trans u8)
    rw [e] at this
    exact this
   ·have e : decide (v = Q4.zero) = false:=by rw [Q4.zero_iff,h0,h1,h2]; rfl
    have:=C k9 (((u1.trans u3).trans u5).trans u9)
    rw [e] at this
    exact this
  ·have e : decide (v = Q4.zero) = false:=by rw [Q4.zero_iff,h0,h1]; rfl
   have:=C k10 ((u1.trans u3).trans u10)
   rw [e] at this
   exact this
 ·have e : decide (v = Q4.zero) = false:=by rw [Q4.zero_iff,h0]; rfl
  have:=C k11 (u1.trans u11)
  rw [e] at this
  exact this
theorem ssame_v (hx : SQ k cs v K) (hy : SQ k cs' v' L) (hK : K+L≤10000000000) (C : ∀ k',Up k k'→R k' (.bool (decide (v = v')))) :
 Cl k 89 #[.agg cs,.agg cs'] R:=by
 intro k0 u0
 have e : decide (v.sub v' = Q4.zero) = decide (v = v'):=decide_eq_decide.2 Q4.sub_zero_iff
 refine sSame_vc hx.seg hy.seg (ssub_v (hx.up u0) (hy.up u0) hK fun k1 d1 u1 h1=>⟨d1,h1.seg,rfl,szero_v h1 fun k3 u3=>⟨_,rfl,fun k4 u4=>?_⟩⟩)
 rw [e]
 exact C k4 (((u0.trans u1).trans u3).trans u4)
theorem turned1_v (hx : SQ k cs v K) (hK : K≤10000000000) (C : ∀ k' ds,Up k k'→SQ k' ds v.t1 K→R k' (.agg ds)) :
 Cl k 162 #[.agg cs,.int .i64 1] R:=by
 intro k0 u0
 replace C:=fun k' ds u=>C k' ds (u0.trans u)
 obtain ⟨c0,c1,c2,c3,rfl,x0,x1,x2,x3⟩:=hx.up u0
 refine turned1_vc x0.seg x1.seg x2.seg x3.seg ?_
 refine neg_v x1 hK fun k1 d1 u1 h1=>⟨d1,h1.seg,rfl,?_⟩
 refine neg_v (x3.up u1) hK fun k3 d3 u3 h3=>⟨d3,h3.seg,rfl,fun k4 u4=>?_⟩
 exact C k4 _ ((u1.trans u3).trans u4) ⟨_,_,_,_,rfl,(x0.up u1).up u3 |>.up u4,(h1.up u3).up u4,(x2.up u1).up u3 |>.up u4,h3.up u4⟩
theorem turned2_v (hx : SQ k cs v K) (hK : K≤10000000000) (C : ∀ k' ds,Up k k'→SQ k' ds v.t2 K→R k' (.agg ds)) :
 Cl k 162 #[.agg cs,.int .i64 2] R:=by
 intro k0 u0
 replace C:=fun k' ds u=>C k' ds (u0.trans u)
 obtain ⟨c0,c1,c2,c3,rfl,x0,x1,x2,x3⟩:=hx.up u0
 refine turned2_vc x0.seg x1.seg x2.seg x3.seg ?_
 refine neg_v x2 hK fun k1 d1 u1 h1=>⟨d1,h1.seg,rfl,?_⟩
 refine neg_v (x3.up u1) hK fun k3 d3 u3 h3=>⟨d3,h3.seg,rfl,fun k4 u4=>?_⟩
 exact C k4 _ ((u1.trans u3).trans u4) ⟨_,_,_,_,rfl,(x0.up u1).up u3 |>.up u4,(x1.up u1).up u3 |>.up u4,(h1.up u3).up u4,h3.up u4⟩
theorem squad_v {n0 n1 n2 n3 n4 n5 n6 n7 : Int} (h0 : In64 n0) (h1 : In64 n1) (h2 : In64 n2) (h3 : In64 n3) (h4 : In64 n4) (h5 : In64 n5) (h6 : In64 n6) (h7 : In64 n7) (C : ∀ k' ds,Up k k'→SQ k' ds ⟨ofQ n0 n1,ofQ n2 n3,ofQ n4 n5,ofQ n6 n7⟩ 2→R k' (.agg ds)) :
 Cl k 68 #[.agg #[.int .i64 n0,.int .i64 n1,.int .i64 n2,.int .i64 n3,.int .i64 n4,.int .i64 n5,.int .i64 n6,.int .i64 n7]] R:=by
 intro k0 u0
 refine sOfQuad_vc (of_v h0 h1 fun k1 d1 u1 q1=>⟨d1,q1.seg,rfl,?_⟩)
 refine of_v h2 h3 fun k3 d3 u3 q3=>⟨d3,q3.seg,rfl,?_⟩
 refine of_v h4 h5 fun k5 d5 u5 q5=>⟨d5,q5.seg,rfl,?_⟩
 refine of_v h6 h7 fun k7 d7 u7 q7=>⟨d7,q7.seg,rfl,fun k8 u8=>?_⟩
 exact C k8 _ (((((u0.trans u1).trans u3).trans u5).trans u7).trans u8) ⟨d1,d3,d5,d7,rfl,(((q1.up u3).up u5).up u7).up u8,((q3.up u5).up u7).up u8,(q5.up u7).up u8,q7.up u8⟩
set_option maxHeartbeats 1000000 in
theorem sdiv_v (hx : SQ k cs v K) (hy : SQ k cs' v' L) (hK1 : 1≤K) (hL1 : 1≤L) (hK : 4*K+292*L+924≤10000000000)
 (C : ∀ k' ds,Up k k'→SQ k' ds (v.div v') (4*K+292*L+924)→R k' (.tuple #[.agg ds,.int .i64 (if v' = Q4.zero then 3 else 0)])) :
 Cl k 70 #[.agg cs,.agg cs'] R:=by
 intro k0 u0
 replace C:=fun k' ds u=>C k' ds (u0.trans u)
 replace hx:=hx.up u0
 replace hy:=hy.up u0
 clear u0
 have hx':=hx
 have hy':=hy
 obtain ⟨c0,c1,c2,c3,rfl,x0,x1,x2,x3⟩:=hx'
 obtain ⟨e0,e1,e2,e3,rfl,y0,y1,y2,y3⟩:=hy'
 refine sDiv_vc x0.seg x1.seg x2.seg x3.seg y0.seg y1.seg y2.seg y3.seg ?_
 clear x0 x1 x2 x3 y0 y1 y2 y3
 refine szero_v hy fun k1 u1=>⟨_,rfl,fun hz=>?_,fun hz=>?_⟩
 ·have hz:=of_decide_eq_true hz
  rw [hz,Q4.div_zero,if_pos rfl] at C
  refine whole_v (by decide) (by decide) fun k3 d3 u3 h3=>⟨d3,h3.seg,rfl,?_⟩
  refine real_v h3 (by decide) ?_
  rintro k5 _ u5 ⟨z0,z1,z2,z3,rfl,i0,i1,i2,i3⟩
  refine ⟨z0,i0.seg,z1,i1.seg,z2,i2.seg,z3,i3.seg,rfl,fun k6 u6=>?_⟩
  exact C k6 _ (((u1.trans u3).trans u5).trans u6) (SQ.mono (K:=2) ⟨z0,z1,z2,z3,rfl,i0.up u6,i1.up u6,i2.up u6,i3.up u6⟩ (by omega))
 ·have hz:=of_decide_eq_false hz
  rw [if_neg hz] at C
  replace hx:=hx.up u1
  replace hy:=hy.up u1
  replace C:=fun k' ds u=>C k' ds (u1.trans u)
  refine turned1_v hy (by omega) ?_
  intro k2 ds2 u2 ha
  have ha':=ha
  obtain ⟨a0,a1,a2,a3,rfl,ha0,ha1,ha2,ha3⟩:=ha'
  refine ⟨a0,ha0.seg,a1,ha1.seg,a2,ha2.seg,a3,ha3.seg,rfl,?_⟩
  replace hx:=hx.up u2
  replace hy:=hy.up u2
  replace C:=fun k' ds u=>C k' ds (u2.trans u)
  refine turned2_v hy (by omega) ?_
  intro k3 ds3 u3 hb
  have hb':=hb
  obtain ⟨b0,b1,b2,b3,rfl,hb0,hb1,hb2,hb3⟩:=hb'
  refine ⟨b0,hb0.seg,b1,hb1.seg,b2,hb2.seg,b3,hb3.seg,rfl,?_⟩
  replace hx:=hx.up u3
  replace hy:=hy.up u3
  replace ha:=ha.up u3
  replace C:=fun k' ds u=>C k' ds (u3.trans u)
  refine smul_v ha hb (by omega) ?_
  intro k4 ds4 u4 hm
  have hm':=hm
  obtain ⟨m0,m1,m2,m3,rfl,hm0,hm1,hm2,hm3⟩:=hm'
  refine ⟨m0,hm0.seg,m1,hm1.seg,m2,hm2.seg,m3,hm3.seg,rfl,?_⟩
  replace hx:=hx.up u4
  replace hy:=hy.up u4
  replace C:=fun k' ds u=>C k' ds (u4.trans u)
  clear ha hb ha0 ha1 ha2 ha3 hb0 hb1 hb2 hb3
  refine turned1_v hy (by omega) ?_
  intro k5 ds5 u5 hf
  have hf':=hf
  obtain ⟨f0,f1,f2,f3,rfl,hf0,hf1,hf2,hf3⟩:=hf'
  refine ⟨f0,hf0.seg,f1,hf1.seg,f2,hf2.seg,f3,hf3.seg,rfl,?_⟩
  replace hx:=hx.up u5
  replace hy:=hy.up u5
  replace hm:=hm.up u5
  replace C:=fun k' ds u=>C k' ds (u5.trans u)
  refine turned2_v hf (by omega) ?_
  intro k6 ds6 u6 hg
  have hg':=hg
  obtain ⟨g0,g1,g2,g3,rfl,hg0,hg1,hg2,hg3⟩:=hg'
  refine ⟨g0,hg0.seg,g1,hg1.seg,g2,hg2.seg,g3,hg3.seg,rfl,?_⟩
  replace hx:=hx.up u6
  replace hy:=hy.up u6
  replace hm:=hm.up u6
  replace C:=fun k' ds u=>C k' ds (u6.trans u)
  refine smul_v hm hg (by omega) ?_
  intro k7 ds7 u7 hc
  have hc':=hc
  obtain ⟨c0,c1,c2,c3,rfl,hc0,hc1,hc2,hc3⟩:=hc'
  refine ⟨c0,hc0.seg,c1,hc1.seg,c2,hc2.seg,c3,hc3.seg,rfl,?_⟩
  replace hx:=hx.up u7
  replace hy:=hy.up u7
  replace C:=fun k' ds u=>C k' ds (u7.trans u)
  clear hm hg hf hm0 hm1 hm2 hm3 hg0 hg1 hg2 hg3 hf0 hf1 hf2 hf3
  refine smul_v hy hc (by omega) ?_
  intro k8 ds8 u8 hp
  have hp':=hp
  obtain ⟨p0,p1,p2,p3,rfl,hp0,hp1,hp2,hp3⟩:=hp'
  refine ⟨p0,hp0.seg,p1,hp1.seg,p2,hp2.seg,p3,hp3.seg,rfl,?_⟩
  replace hx:=hx.up u8
  replace hc:=hc.up u8
  replace C:=fun k' ds u=>C k' ds (u8.trans u)
  replace hp:=hp0
  clear hp1 hp2 hp3 hc0 hc1 hc2 hc3
  refine smul_v hx hc (by omega) ?_
  intro k9 ds9 u9 hn
  have hn':=hn
  obtain ⟨n0,n1,n2,n3,rfl,hn0,hn1,hn2,hn3⟩:=hn'
  refine ⟨n0,hn0.seg,n1,hn1.seg,n2,hn2.seg,n3,hn3.seg,rfl,?_⟩
  replace hp:=hp.up u9
  replace C:=fun k' ds u=>C k' ds (u9.trans u)
  clear hn hc hx hy
  refine by_v hn0 hp (by omega) (by omega) (by omega) fun k10 r0 u10 hr0=>⟨r0,hr0.seg,rfl,?_⟩
  replace hp:=hp.up u10
  replace hn1:=hn1.up u10
  replace hn2:=hn2.up u10
  replace hn3:=hn3.up u10
  replace C:=fun k' ds u=>C k' ds (u10.trans u)
  refine by_v hn1 hp (by omega) (by omega) (by omega) fun k11 r1 u11 hr1=>⟨r1,hr1.seg,rfl,?_⟩
  replace hp:=hp.up u11
  replace hn2:=hn2.up u11
  replace hn3:=hn3.up u11
  replace hr0:=hr0.up u11
  replace C:=fun k' ds u=>C k' ds (u11.trans u)
  refine by_v hn2 hp (by omega) (by omega) (by omega) fun k12 r2 u12 hr2=>⟨r2,hr2.seg,rfl,?_⟩
  replace hp:=hp.up u12
  replace hn3:=hn3.up u12
  replace hr0:=hr0.up u12
  replace hr1:=hr1.up u12
  replace C:=fun k' ds u=>C k' ds (u12.trans u)
  refine by_v hn3 hp (by omega) (by omega) (by omega) fun k13 r3 u13 hr3=>⟨r3,hr3.seg,rfl,?_⟩
  replace hr0:=hr0.up u13
  replace hr1:=hr1.up u13
  replace hr2:=hr2.up u13
  replace C:=fun k' ds u=>C k' ds (u13.trans u)
  intro k14 u14
  exact C k14 _ u14 ⟨_,_,_,_,rfl,(hr0.up u14).mono (by omega),(hr1.up u14).mono (by omega),(hr2.up u14).mono (by omega),(hr3.up u14).mono (by omega)⟩
end
end Go.Proofs.YtpjakokgmgggiaaGreat.W32

/- Waves of the reference. (Printed by gen/waves.py.) -/
namespace Go.Proofs.YtpjakokgmgggiaaGreat.W32
open Go.RowKit Num
open Sy (Up Sees CallsG Seg)
def WQ (k : World) (cs : Array Value) (w : W4) (K : Nat) : Prop:=∃ c0 c1 : Array Value,cs = cat2 c0 c1∧SQ k c0 w.re K∧SQ k c1 w.im K
section
variable {k k' : World} {cs cs' c0 c1 : Array Value} {R : World→Value→Prop} {v v' : Q4} {x y : W4} {q : Rat} {K L : Nat}
end
end Go.Proofs.YtpjakokgmgggiaaGreat.W32

/- What is to be shown of the calls of some functions. (Printed by gen/vc.py.) -/
namespace Go.Proofs.YtpjakokgmgggiaaGreat
open Go.RowKit
open Value (agg slice int bool tuple)
open Sy (Up Sees CallsG Seg execFn_use)
set_option maxRecDepth 100000
variable {k : World} {R : World→Value→Prop}
theorem IsSurd_vc {cs0 cs1 : Array Value} (hcs0 : Seg 9 cs0) (hcs1 : Seg 12 cs1)
 (h : Cl k 115 #[agg cs0] fun k1 r0=>∃ s2,some (Value.string s2) = some r0 ∧
 Cl k1 151 #[agg cs1] fun k3 r2=>∃ s3,some (Value.string s3) = some r2 ∧
 ∀ k4,Up k3 k4→R k4 (bool (ByteArray.toList s2 == ByteArray.toList s3))) :
  CallsG Tryz.prog 50 #[agg cs0,agg cs1] k R :=
  execFn_use (cfg:={ opq:=[57,62] }) (args:=[.agg [.seg 0 9],.agg [.seg 1 12]]) (vals:=[agg cs0,agg cs1]) (kinds:=[.seg 9,.seg 12]) (by kernel_rfl) ⟨⟨cs0,rfl,hcs0⟩,⟨⟨cs1,rfl,hcs1⟩,trivial⟩⟩ (by kernel_rfl) (by kernel_rfl) h
theorem OfQuad_vc {n0 n1 n2 n3 n4 n5 n6 n7 : Int}
 (h : Cl k 15 #[agg #[int .i64 n0,int .i64 n1]] fun k1 r0=>Gt 3 r0 fun cs8 =>
 Cl k1 15 #[agg #[int .i64 n2,int .i64 n3]] fun k3 r2=>Gt 3 r2 fun cs9 =>
 Cl k3 15 #[agg #[int .i64 n4,int .i64 n5]] fun k5 r4=>Gt 3 r4 fun cs10 =>
 Cl k5 15 #[agg #[int .i64 n6,int .i64 n7]] fun k7 r6=>Gt 3 r6 fun cs11 =>
 Cl k7 107 #[agg (cs8.toList ++ (cs9.toList ++ (cs10.toList ++ (cs11.toList ++ ([]))))).toArray] fun k9 r8=>Gt 9 r8 fun cs12 =>
 ∀ k10,Up k9 k10→R k10 (agg cs12)) :
  CallsG Tryz.prog 67 #[agg #[int .i64 n0,int .i64 n1,int .i64 n2,int .i64 n3,int .i64 n4,int .i64 n5,int .i64 n6,int .i64 n7]] k R :=
  execFn_use (cfg:={ opq:=[30,57] }) (args:=[.agg [.var 0,.var 1,.var 2,.var 3,.var 4,.var 5,.var 6,.var 7]]) (vals:=[int .i64 n0,int .i64 n1,int .i64 n2,int .i64 n3,int .i64 n4,int .i64 n5,int .i64 n6,int .i64 n7]) (kinds:=[.int .i64,.int .i64,.int .i64,.int .i64,.int .i64,.int .i64,.int .i64,.int .i64]) (by kernel_rfl) ⟨⟨_,rfl⟩,⟨⟨_,rfl⟩,⟨⟨_,rfl⟩,⟨⟨_,rfl⟩,⟨⟨_,rfl⟩,⟨⟨_,rfl⟩,⟨⟨_,rfl⟩,⟨⟨_,rfl⟩,trivial⟩⟩⟩⟩⟩⟩⟩⟩ (by kernel_rfl) (by kernel_rfl) h
theorem small_vc {n0 n1 n2 n3 n4 n5 n6 n7 : Int}
 (h : ((decide (((if (decide ((n0 : Int) < n1)) = true then n1 else n0) : Int) > 1099511627776)) = true →
 (∀ k0,Up k k0→R k0 (bool false))) ∧
 ((decide (((if (decide ((n0 : Int) < n1)) = true then n1 else n0) : Int) > 1099511627776)) = false →
 (((decide (((if (decide ((n1 : Int) < n0)) = true then n1 else n0) : Int) < (-1099511627776))) = true →
 (∀ k1,Up k k1→R k1 (bool false))) ∧
 ((decide (((if (decide ((n1 : Int) < n0)) = true then n1 else n0) : Int) < (-1099511627776))) = false →
 (((decide (((if (decide ((n2 : Int) < n3)) = true then n3 else n2) : Int) > 1099511627776)) = true →
 (∀ k2,Up k k2→R k2 (bool false))) ∧
 ((decide (((if (decide ((n2 : Int) < n3)) = true then n3 else n2) : Int) > 1099511627776)) = false →
 (((decide (((if (decide ((n3 : Int) < n2)) = true then n3 else n2) : Int) < (-1099511627776))) = true →
 (∀ k3,Up k k3→R k3 (bool false))) ∧
 ((decide (((if (decide ((n3 : Int) < n2)) = true then n3 else n2) : Int) < (-1099511627776))) = false →
 (((decide (((if (decide ((n4 : Int) < n5)) = true then n5 else n4) : Int) > 1099511627776)) = true →
 (∀ k4,Up k k4→R k4 (bool false))) ∧
 ((decide (((if (decide ((n4 : Int) < n5)) = true then n5 else n4) : Int) > 1099511627776)) = false →
 (((decide (((if (decide ((n5 : Int) < n4)) = true then n5 else n4) : Int) < (-1099511627776))) = true →
 (∀ k5,Up k k5→R k5 (bool false))) ∧
 ((decide (((if (decide ((n5 : Int) < n4)) = true then n5 else n4) : Int) < (-1099511627776))) = false →
 (((decide (((if (decide ((n6 : Int) < n7)) = true then n7 else n6) : Int) > 1099511627776)) = true →
 (∀ k6,Up k k6→R k6 (bool false))) ∧
 ((decide (((if (decide ((n6 : Int) < n7)) = true then n7 else n6) : Int) > 1099511627776)) = false →
 (((decide (((if (decide ((n7 : Int) < n6)) = true then n7 else n6) : Int) < (-1099511627776))) = true →
 (∀ k7,Up k k7→R k7 (bool false))) ∧
 ((decide (((if (decide ((n7 : Int) < n6)) = true then n7 else n6) : Int) < (-1099511627776))) = false →
 (∀ k8,Up k k8→R k8 (bool true)))))))))))))))))) :
   CallsG Tryz.prog 66 #[agg #[int .i64 n0,int .i64 n1,int .i64 n2,int .i64 n3,int .i64 n4,int .i64 n5,int .i64 n6,int .i64 n7]] k R :=
  execFn_use (cfg:={ opq:=[] }) (args:=[.agg [.var 0,.var 1,.var 2,.var 3,.var 4,.var 5,.var 6,.var 7]]) (vals:=[int .i64 n0,int .i64 n1,int .i64 n2,int .i64 n3,int .i64 n4,int .i64 n5,int .i64 n6,int .i64 n7]) (kinds:=[.int .i64,.int .i64,.int .i64,.int .i64,.int .i64,.int .i64,.int .i64,.int .i64]) (by kernel_rfl) ⟨⟨_,rfl⟩,⟨⟨_,rfl⟩,⟨⟨_,rfl⟩,⟨⟨_,rfl⟩,⟨⟨_,rfl⟩,⟨⟨_,rfl⟩,⟨⟨_,rfl⟩,⟨⟨_,rfl⟩,trivial⟩⟩⟩⟩⟩⟩⟩⟩ (by kernel_rfl) (by kernel_rfl) h
end Go.Proofs.YtpjakokgmgggiaaGreat

/- What ExactWaves computes. (Printed by gen/lawz.py.) -/
namespace Go.Proofs.YtpjakokgmgggiaaGreat
open Go.RowKit Num Plain W32
open Sy (Up Sees CallsG Seg)
section
variable {k k' : World} {R : World→Value→Prop} {x q : Rat} {K L : Nat} {cs cs' : Array Value} {v : Q4} {w : W4}
theorem OfQuad_s {n0 n1 n2 n3 n4 n5 n6 n7 : Int} (h0 : In64 n0) (h1 : In64 n1) (h2 : In64 n2) (h3 : In64 n3) (h4 : In64 n4) (h5 : In64 n5) (h6 : In64 n6) (h7 : In64 n7) (C : ∀ k' ds,Up k k'→SurdV k' ds ⟨ofQ n0 n1,ofQ n2 n3,ofQ n4 n5,ofQ n6 n7⟩ 6→R k' (.agg ds)) :
 Cl k 67 #[.agg #[.int .i64 n0,.int .i64 n1,.int .i64 n2,.int .i64 n3,.int .i64 n4,.int .i64 n5,.int .i64 n6,.int .i64 n7]] R:=by
 intro k0 u0
 replace C:=fun k' ds u=>C k' ds (u0.trans u)
 refine OfQuad_vc ?_
 refine Of_s h0 h1 ?_
 intro k1 c1 u1 q1
 refine ⟨c1,q1.seg,rfl,?_⟩
 refine Of_s h2 h3 ?_
 intro k2 c2 u2 q2
 refine ⟨c2,q2.seg,rfl,?_⟩
 refine Of_s h4 h5 ?_
 intro k3 c3 u3 q3
 refine ⟨c3,q3.seg,rfl,?_⟩
 refine Of_s h6 h7 ?_
 intro k4 c4 u4 q4
 refine ⟨c4,q4.seg,rfl,?_⟩
 refine Make_s (((q1.up u2).up u3).up u4) ((q2.up u3).up u4) (q3.up u4) q4 (by omega) (by omega) ?_
 intro k5 c5 u5 h5
 refine ⟨c5,h5.seg,rfl,?_⟩
 intro k6 u6
 exact C k6 c5 (((((u1.trans u2).trans u3).trans u4).trans u5).trans u6) (h5.up u6)
theorem small_s {n0 n1 n2 n3 n4 n5 n6 n7 : Int} (C : ∀ k' b,Up k k'→R k' (.bool b)) :
 Cl k 66 #[.agg #[.int .i64 n0,.int .i64 n1,.int .i64 n2,.int .i64 n3,.int .i64 n4,.int .i64 n5,.int .i64 n6,.int .i64 n7]] R:=by
 intro k0 u0
 replace C:=fun k' b u=>C k' b (u0.trans u)
 refine small_vc ?_
 refine ⟨fun _ k1 u1=>C k1 _ u1,fun _=>?_⟩
 refine ⟨fun _ k1 u1=>C k1 _ u1,fun _=>?_⟩
 refine ⟨fun _ k1 u1=>C k1 _ u1,fun _=>?_⟩
 refine ⟨fun _ k1 u1=>C k1 _ u1,fun _=>?_⟩
 refine ⟨fun _ k1 u1=>C k1 _ u1,fun _=>?_⟩
 refine ⟨fun _ k1 u1=>C k1 _ u1,fun _=>?_⟩
 refine ⟨fun _ k1 u1=>C k1 _ u1,fun _=>?_⟩
 refine ⟨fun _ k1 u1=>C k1 _ u1,fun _=>?_⟩
 exact fun k1 u1=>C k1 _ u1
theorem isSurd_s (hx : SurdV k cs v K) (hK1 : 1≤K) (hK : K≤268435456) (h : SQ k cs' v L) (hL : L≤10000000000) (C : ∀ k',Up k k'→R k' (.bool true)) :
 Cl k 50 #[.agg cs,.agg cs'] R:=by
 intro k0 u0
 refine IsSurd_vc hx.seg h.seg (SText_s (hx.up u0) hK1 hK fun k1 u1=>⟨_,rfl,stext_v ((h.up u0).up u1) hL fun k3 u3=>⟨_,rfl,fun k4 u4=>?_⟩⟩)
 have:=C k4 (((u0.trans u1).trans u3).trans u4)
 rw [show (ByteArray.toList (str (surdText v)) == ByteArray.toList (str (surdText v))) = true from beq_self_eq_true _]
 exact this
end
end Go.Proofs.YtpjakokgmgggiaaGreat

/- Floors and rounded fractions. No program. -/
namespace Go.Proofs.YtpjakokgmgggiaaGreat
open Num
def flr (q : Rat) : Int:=q.num / (q.den : Int)
def floorK (q : Rat) (k : Nat) : Rat:=mkRat (q.num*((2 ^ k : Nat) : Int) / (q.den : Int)) (2 ^ k)
def clampK (n : Int) : Nat:=(min 1000 (max 0 n)).toNat
def rcmp (y : Rat) : Int:=(y - (flr y : Rat) - mkRat 1 2).num.sign
def rup (y : Rat) : Bool:=decide (0 < rcmp y) || (decide (rcmp y = 0) && decide (flr y % 2 = 1))
def roundQ (x s : Rat) : Rat:=(if rup (x / s) = true then (flr (x / s) : Rat)+1 else (flr (x / s) : Rat))*s
def roundV (x s : Rat) : Rat:=if s.num.sign≤0 then 0 else roundQ x s
theorem num_pos {v : Rat} (h : 0 < v) : 0 < v.num:=by
 have h1:=Rat.num_nonneg.2 (show (0 : Rat)≤v by grind)
 have h2 : v.num ≠ 0:=fun e=>by have:=Rat.num_eq_zero.1 e; grind
 omega
def halved (x : Rat) : Nat→Rat
 | 0=>x
 | j+1=>halved x j / 2
end Go.Proofs.YtpjakokgmgggiaaGreat

/- What is to be shown of the calls of some functions. (Printed by gen/vc.py.) -/
namespace Go.Proofs.YtpjakokgmgggiaaGreat
open Go.RowKit
open Value (agg slice int bool tuple)
open Sy (Up Sees CallsG Seg execFn_use)
set_option maxRecDepth 100000
variable {k : World} {R : World→Value→Prop}
end Go.Proofs.YtpjakokgmgggiaaGreat

/- Floors and rounded fractions of the reference. (Printed by gen/floorz.py.) -/
namespace Go.Proofs.YtpjakokgmgggiaaGreat.W32
open Go.RowKit Num
open Sy (Up Sees CallsG Seg)
section
variable {k k' : World} {cs cs' : Array Value} {R : World→Value→Prop} {x y q q' : Rat} {K L : Nat} {b : Bool} {A A' : Option Addr} {l c l' c' : Nat}
theorem QV.mk1 (h : QN k b A l c A' l' c' q) (h1 : l≤K) (h2 : l'≤K) : QV k #[.bool b,.slice A l c,.slice A' l' c'] q K:=⟨b,A,l,c,A',l',c',rfl,h,h1,h2⟩
end
end Go.Proofs.YtpjakokgmgggiaaGreat.W32

/- What is to be shown of the calls of some functions. (Printed by gen/vc.py.) -/
namespace Go.Proofs.YtpjakokgmgggiaaGreat
open Go.RowKit
open Value (agg slice int bool tuple)
open Sy (Up Sees CallsG Seg execFn_use)
set_option maxRecDepth 100000
variable {k : World} {R : World→Value→Prop}
theorem nroot_vc {A0 : Option Addr} {l0 c0 : Nat}
 (h : true = true∧(((((l0 : Nat) : Int) == 0) = true →
 (∀ k0,Up k k0→R k0 (slice none 0 0))) ∧
 ((((l0 : Nat) : Int) == 0) = false →
 (Cl k 212 #[slice A0 l0 c0] fun k2 r1=>∃ n1,some (int .i64 n1) = some r1 ∧
 ∀ p2 k3,Up k2 k3→Sy.Blk k3 p2 126 #[int .u32 1] →
 Cl k3 175 #[slice (some ⟨p2,0,none⟩) 1 1,int .i64 (IntKind.wrap .i64 (Int.tdiv (IntKind.wrap .i64 (n1+1)) 2))] fun k5 r4=>∃ A3 l3 c3,some (slice A3 l3 c3) = some r4 ∧
 ∃ I6 : Nat→World→List Value→Prop,(∃ m6,∀ k6,Up k5 k6→I6 m6 k6 [slice A3 l3 c3]) ∧
 ∀ m6 k6 vs6,Up k5 k6→I6 m6 k6 vs6→∃ A4 l4 c4,some [slice A4 l4 c4] = some vs6 ∧
 Cl k6 200 #[slice A0 l0 c0,slice A4 l4 c4] fun k8 r7=>∃ A5 l5 c5,∃ A6 l6 c6,some (tuple #[slice A5 l5 c5,slice A6 l6 c6]) = some r7 ∧
 Cl k8 140 #[slice A4 l4 c4,slice A5 l5 c5] fun k10 r9=>∃ A7 l7 c7,some (slice A7 l7 c7) = some r9 ∧
 Cl k10 242 #[slice A7 l7 c7,int .i64 1] fun k12 r11=>∃ A8 l8 c8,some (slice A8 l8 c8) = some r11 ∧
 Cl k12 141 #[slice A8 l8 c8,slice A4 l4 c4] fun k14 r13=>∃ n9,some (int .i64 n9) = some r13 ∧
 ((decide ((n9 : Int) ≥ 0)) = true →
 (∀ k15,Up k14 k15→R k15 (slice A4 l4 c4))) ∧
 ((decide ((n9 : Int) ≥ 0)) = false →
 (∀ k16,Up k14 k16→∃ m,m < m6∧I6 m k16 [slice A8 l8 c8])))))) :
   CallsG Tryz.prog 252 #[slice A0 l0 c0] k R :=
  execFn_use (cfg:={ opq:=[],loops:=[(0,[.tmp 3 false [.slice]])] }) (args:=[.one (.var 0)]) (vals:=[slice A0 l0 c0]) (kinds:=[.slice]) (by kernel_rfl) ⟨⟨_,_,_,rfl⟩,trivial⟩ (by kernel_rfl) (by kernel_rfl) h
theorem rroot_vc {n0 n1 : Int}
 (h : Cl k 176 #[int .u64 n0] fun k1 r0=>∃ A2 l2 c2,some (slice A2 l2 c2) = some r0 ∧
 Cl k1 175 #[slice A2 l2 c2,int .i64 (IntKind.wrap .i64 (2*n1))] fun k3 r2=>∃ A3 l3 c3,some (slice A3 l3 c3) = some r2 ∧
 Cl k3 252 #[slice A3 l3 c3] fun k5 r4=>∃ A4 l4 c4,some (slice A4 l4 c4) = some r4 ∧
 ∀ p5 k6,Up k5 k6→Sy.Blk k6 p5 126 #[int .u32 1] →
 Cl k6 175 #[slice (some ⟨p5,0,none⟩) 1 1,int .i64 n1] fun k8 r7=>∃ A6 l6 c6,some (slice A6 l6 c6) = some r7 ∧
 Cl k8 134 #[bool false,slice A4 l4 c4,slice A6 l6 c6] fun k10 r9=>Gt 3 r9 fun cs7 =>
 ∀ k11,Up k10 k11→R k11 (agg cs7)) :
  CallsG Tryz.prog 226 #[int .u64 n0,int .i64 n1] k R :=
  execFn_use (cfg:={ opq:=[34] }) (args:=[.one (.var 0),.one (.var 1)]) (vals:=[int .u64 n0,int .i64 n1]) (kinds:=[.int .u64,.int .i64]) (by kernel_rfl) ⟨⟨_,rfl⟩,⟨⟨_,rfl⟩,trivial⟩⟩ (by kernel_rfl) (by kernel_rfl) h
theorem rpower_vc {n0 : Int}
 (h : ((decide ((n0 : Int) < 0)) = true →
 (∀ p1 k0,Up k k0→Sy.Blk k0 p1 126 #[int .u32 1] →
 Cl k0 175 #[slice (some ⟨p1,0,none⟩) 1 1,int .i64 (IntKind.wrap .i64 (0 - n0))] fun k2 r1=>∃ A2 l2 c2,some (slice A2 l2 c2) = some r1 ∧
 ∀ p3 k3,Up k2 k3→Sy.Blk k3 p3 126 #[int .u32 1] →
 Cl k3 134 #[bool false,slice (some ⟨p3,0,none⟩) 1 1,slice A2 l2 c2] fun k5 r4=>Gt 3 r4 fun cs4 =>
 ∀ k6,Up k5 k6→R k6 (agg cs4))) ∧
 ((decide ((n0 : Int) < 0)) = false →
 (Cl k 159 #[int .i64 n0] fun k8 r7=>Gt 3 r7 fun cs1 =>
 ∀ k9,Up k8 k9→R k9 (agg cs1)))) :
  CallsG Tryz.prog 213 #[int .i64 n0] k R :=
  execFn_use (cfg:={ opq:=[34] }) (args:=[.one (.var 0)]) (vals:=[int .i64 n0]) (kinds:=[.int .i64]) (by kernel_rfl) ⟨⟨_,rfl⟩,trivial⟩ (by kernel_rfl) (by kernel_rfl) h
theorem rBounds_vc {cs0 cs1 cs2 cs3 : Array Value} {n4 : Int} (hcs0 : Seg 3 cs0) (hcs1 : Seg 3 cs1) (hcs2 : Seg 3 cs2) (hcs3 : Seg 3 cs3)
 (h : ∀ p5 k0,Up k k0→Sy.Blk k0 p5 125 #[int .u64 1,int .u64 2,int .u64 3,int .u64 6] →
 ∃ A6 l6 c6,some (slice (some ⟨p5,0,none⟩) 4 4) = some (slice A6 l6 c6) ∧
 Cl k0 213 #[int .i64 (IntKind.wrap .i64 (0 - n4))] fun k2 r1=>Gt 3 r1 fun cs7 =>
 (∃ b o,A6 = some ⟨b,o,none⟩)∧((0 : Int)≤1∧(1 : Int) < (l6 : Nat)) ∧
 ∃ n8,Sy.ReadAt k2.cell? A6 (Int.toNat 1*1+0) 1 (int .u64 n8) ∧
 Cl k2 226 #[int .u64 n8,int .i64 n4] fun k4 r3=>Gt 3 r3 fun cs9 =>
 Cl k4 25 #[agg cs1,agg cs9] fun k6 r5=>Gt 3 r5 fun cs10 =>
 Cl k6 21 #[agg cs9,agg cs7] fun k8 r7=>Gt 3 r7 fun cs11 =>
 Cl k8 25 #[agg cs1,agg cs11] fun k10 r9=>Gt 3 r9 fun cs12 =>
 Cl k10 146 #[agg cs1] fun k12 r11=>∃ n13,some (int .i64 n13) = some r11 ∧
 ((decide ((n13 : Int) < 0)) = true →
 (Cl k12 21 #[agg cs0,agg cs12] fun k14 r13=>Gt 3 r13 fun cs14 =>
 Cl k14 21 #[agg cs0,agg cs10] fun k16 r15=>Gt 3 r15 fun cs15 =>
 (∃ b o,A6 = some ⟨b,o,none⟩)∧((0 : Int)≤2∧(2 : Int) < (l6 : Nat)) ∧
 ∃ n16,Sy.ReadAt k16.cell? A6 (Int.toNat 2*1+0) 1 (int .u64 n16) ∧
 Cl k16 226 #[int .u64 n16,int .i64 n4] fun k18 r17=>Gt 3 r17 fun cs17 =>
 Cl k18 25 #[agg cs2,agg cs17] fun k20 r19=>Gt 3 r19 fun cs18 =>
 Cl k20 21 #[agg cs17,agg cs7] fun k22 r21=>Gt 3 r21 fun cs19 =>
 Cl k22 25 #[agg cs2,agg cs19] fun k24 r23=>Gt 3 r23 fun cs20 =>
 Cl k24 146 #[agg cs2] fun k26 r25=>∃ n21,some (int .i64 n21) = some r25 ∧
 ((decide ((n21 : Int) < 0)) = true →
 (Cl k26 21 #[agg cs14,agg cs20] fun k28 r27=>Gt 3 r27 fun cs22 =>
 Cl k28 21 #[agg cs15,agg cs18] fun k30 r29=>Gt 3 r29 fun cs23 =>
 (∃ b o,A6 = some ⟨b,o,none⟩)∧((0 : Int)≤3∧(3 : Int) < (l6 : Nat)) ∧
 ∃ n24,Sy.ReadAt k30.cell? A6 (Int.toNat 3*1+0) 1 (int .u64 n24) ∧
 Cl k30 226 #[int .u64 n24,int .i64 n4] fun k32 r31=>Gt 3 r31 fun cs25 =>
 Cl k32 25 #[agg cs3,agg cs25] fun k34 r33=>Gt 3 r33 fun cs26 =>
 Cl k34 21 #[agg cs25,agg cs7] fun k36 r35=>Gt 3 r35 fun cs27 =>
 Cl k36 25 #[agg cs3,agg cs27] fun k38 r37=>Gt 3 r37 fun cs28 =>
 Cl k38 146 #[agg cs3] fun k40 r39=>∃ n29,some (int .i64 n29) = some r39 ∧
 ((decide ((n29 : Int) < 0)) = true →
 (Cl k40 21 #[agg cs22,agg cs28] fun k42 r41=>Gt 3 r41 fun cs30 =>
 Cl k42 21 #[agg cs23,agg cs26] fun k44 r43=>Gt 3 r43 fun cs31 =>
 ∀ k45,Up k44 k45→R k45 (tuple #[agg cs30,agg cs31]))) ∧
 ((decide ((n29 : Int) < 0)) = false →
 (Cl k40 21 #[agg cs22,agg cs26] fun k47 r46=>Gt 3 r46 fun cs30 =>
 Cl k47 21 #[agg cs23,agg cs28] fun k49 r48=>Gt 3 r48 fun cs31 =>
 ∀ k50,Up k49 k50→R k50 (tuple #[agg cs30,agg cs31]))))) ∧
 ((decide ((n21 : Int) < 0)) = false →
 (Cl k26 21 #[agg cs14,agg cs18] fun k52 r51=>Gt 3 r51 fun cs22 =>
 Cl k52 21 #[agg cs15,agg cs20] fun k54 r53=>Gt 3 r53 fun cs23 =>
 (∃ b o,A6 = some ⟨b,o,none⟩)∧((0 : Int)≤3∧(3 : Int) < (l6 : Nat)) ∧
 ∃ n24,Sy.ReadAt k54.cell? A6 (Int.toNat 3*1+0) 1 (int .u64 n24) ∧
 Cl k54 226 #[int .u64 n24,int .i64 n4] fun k56 r55=>Gt 3 r55 fun cs25 =>
 Cl k56 25 #[agg cs3,agg cs25] fun k58 r57=>Gt 3 r57 fun cs26 =>
 Cl k58 21 #[agg cs25,agg cs7] fun k60 r59=>Gt 3 r59 fun cs27 =>
 Cl k60 25 #[agg cs3,agg cs27] fun k62 r61=>Gt 3 r61 fun cs28 =>
 Cl k62 146 #[agg cs3] fun k64 r63=>∃ n29,some (int .i64 n29) = some r63 ∧
 ((decide ((n29 : Int) < 0)) = true →
 (Cl k64 21 #[agg cs22,agg cs28] fun k66 r65=>Gt 3 r65 fun cs30 =>
 Cl k66 21 #[agg cs23,agg cs26] fun k68 r67=>Gt 3 r67 fun cs31 =>
 ∀ k69,Up k68 k69→R k69 (tuple #[agg cs30,agg cs31]))) ∧
 ((decide ((n29 : Int) < 0)) = false →
 (Cl k64 21 #[agg cs22,agg cs26] fun k71 r70=>Gt 3 r70 fun cs30 =>
 Cl k71 21 #[agg cs23,agg cs28] fun k73 r72=>Gt 3 r72 fun cs31 =>
 ∀ k74,Up k73 k74→R k74 (tuple #[agg cs30,agg cs31]))))))) ∧
 ((decide ((n13 : Int) < 0)) = false →
 (Cl k12 21 #[agg cs0,agg cs10] fun k76 r75=>Gt 3 r75 fun cs14 =>
 Cl k76 21 #[agg cs0,agg cs12] fun k78 r77=>Gt 3 r77 fun cs15 =>
 (∃ b o,A6 = some ⟨b,o,none⟩)∧((0 : Int)≤2∧(2 : Int) < (l6 : Nat)) ∧
 ∃ n16,Sy.ReadAt k78.cell? A6 (Int.toNat 2*1+0) 1 (int .u64 n16) ∧
 Cl k78 226 #[int .u64 n16,int .i64 n4] fun k80 r79=>Gt 3 r79 fun cs17 =>
 Cl k80 25 #[agg cs2,agg cs17] fun k82 r81=>Gt 3 r81 fun cs18 =>
 Cl k82 21 #[agg cs17,agg cs7] fun k84 r83=>Gt 3 r83 fun cs19 =>
 Cl k84 25 #[agg cs2,agg cs19] fun k86 r85=>Gt 3 r85 fun cs20 =>
 Cl k86 146 #[agg cs2] fun k88 r87=>∃ n21,some (int .i64 n21) = some r87 ∧
 ((decide ((n21 : Int) < 0)) = true →
 (Cl k88 21 #[agg cs14,agg cs20] fun k90 r89=>Gt 3 r89 fun cs22 =>
 Cl k90 21 #[agg cs15,agg cs18] fun k92 r91=>Gt 3 r91 fun cs23 =>
 (∃ b o,A6 = some ⟨b,o,none⟩)∧((0 : Int)≤3∧(3 : Int) < (l6 : Nat)) ∧
 ∃ n24,Sy.ReadAt k92.cell? A6 (Int.toNat 3*1+0) 1 (int .u64 n24) ∧
 Cl k92 226 #[int .u64 n24,int .i64 n4] fun k94 r93=>Gt 3 r93 fun cs25 =>
 Cl k94 25 #[agg cs3,agg cs25] fun k96 r95=>Gt 3 r95 fun cs26 =>
 Cl k96 21 #[agg cs25,agg cs7] fun k98 r97=>Gt 3 r97 fun cs27 =>
 Cl k98 25 #[agg cs3,agg cs27] fun k100 r99=>Gt 3 r99 fun cs28 =>
 Cl k100 146 #[agg cs3] fun k102 r101=>∃ n29,some (int .i64 n29) = some r101 ∧
 ((decide ((n29 : Int) < 0)) = true →
 (Cl k102 21 #[agg cs22,agg cs28] fun k104 r103=>Gt 3 r103 fun cs30 =>
 Cl k104 21 #[agg cs23,agg cs26] fun k106 r105=>Gt 3 r105 fun cs31 =>
 ∀ k107,Up k106 k107→R k107 (tuple #[agg cs30,agg cs31]))) ∧
 ((decide ((n29 : Int) < 0)) = false →
 (Cl k102 21 #[agg cs22,agg cs26] fun k109 r108=>Gt 3 r108 fun cs30 =>
 Cl k109 21 #[agg cs23,agg cs28] fun k111 r110=>Gt 3 r110 fun cs31 =>
 ∀ k112,Up k111 k112→R k112 (tuple #[agg cs30,agg cs31]))))) ∧
 ((decide ((n21 : Int) < 0)) = false →
 (Cl k88 21 #[agg cs14,agg cs18] fun k114 r113=>Gt 3 r113 fun cs22 =>
 Cl k114 21 #[agg cs15,agg cs20] fun k116 r115=>Gt 3 r115 fun cs23 =>
 (∃ b o,A6 = some ⟨b,o,none⟩)∧((0 : Int)≤3∧(3 : Int) < (l6 : Nat)) ∧
 ∃ n24,Sy.ReadAt k116.cell? A6 (Int.toNat 3*1+0) 1 (int .u64 n24) ∧
 Cl k116 226 #[int .u64 n24,int .i64 n4] fun k118 r117=>Gt 3 r117 fun cs25 =>
 Cl k118 25 #[agg cs3,agg cs25] fun k120 r119=>Gt 3 r119 fun cs26 =>
 Cl k120 21 #[agg cs25,agg cs7] fun k122 r121=>Gt 3 r121 fun cs27 =>
 Cl k122 25 #[agg cs3,agg cs27] fun k124 r123=>Gt 3 r123 fun cs28 =>
 Cl k124 146 #[agg cs3] fun k126 r125=>∃ n29,some (int .i64 n29) = some r125 ∧
 ((decide ((n29 : Int) < 0)) = true →
 (Cl k126 21 #[agg cs22,agg cs28] fun k128 r127=>Gt 3 r127 fun cs30 =>
 Cl k128 21 #[agg cs23,agg cs26] fun k130 r129=>Gt 3 r129 fun cs31 =>
 ∀ k131,Up k130 k131→R k131 (tuple #[agg cs30,agg cs31]))) ∧
 ((decide ((n29 : Int) < 0)) = false →
 (Cl k126 21 #[agg cs22,agg cs26] fun k133 r132=>Gt 3 r132 fun cs30 =>
 Cl k133 21 #[agg cs23,agg cs28] fun k135 r134=>Gt 3 r134 fun cs31 =>
 ∀ k136,Up k135 k136→R k136 (tuple #[agg cs30,agg cs31])))))))) :
  CallsG Tryz.prog 182 #[agg (cs0.toList ++ (cs1.toList ++ (cs2.toList ++ (cs3.toList ++ ([]))))).toArray,int .i64 n4] k R :=
  execFn_use (cfg:={ opq:=[34] }) (args:=[.agg [.seg 0 3,.seg 1 3,.seg 2 3,.seg 3 3],.one (.var 4)]) (vals:=[agg cs0,agg cs1,agg cs2,agg cs3,int .i64 n4]) (kinds:=[.seg 3,.seg 3,.seg 3,.seg 3,.int .i64]) (by kernel_rfl) ⟨⟨cs0,rfl,hcs0⟩,⟨⟨cs1,rfl,hcs1⟩,⟨⟨cs2,rfl,hcs2⟩,⟨⟨cs3,rfl,hcs3⟩,⟨⟨_,rfl⟩,trivial⟩⟩⟩⟩⟩ (by kernel_rfl) (by kernel_rfl) h
theorem rsSign_vc {cs0 : Array Value} (hcs0 : Seg 12 cs0)
 (h : Cl k 91 #[agg cs0] fun k1 r0=>∃ b1,some (bool b1) = some r0 ∧
 (b1 = true →
 (∀ k2,Up k1 k2→R k2 (int .i64 0))) ∧
 (b1 = false →
 (∃ I3 : Nat→World→List Value→Prop,(∃ m3,∀ k3,Up k1 k3→I3 m3 k3 [int .i64 16]) ∧
 ∀ m3 k3 vs3,Up k1 k3→I3 m3 k3 vs3→∃ n2,some [int .i64 n2] = some vs3 ∧
 Cl k3 182 #[agg cs0,int .i64 n2] fun k5 r4=>∃ cs3,Seg 3 cs3∧∃ cs4,Seg 3 cs4∧some (tuple #[agg cs3,agg cs4]) = some r4 ∧
 Cl k5 146 #[agg cs3] fun k7 r6=>∃ n5,some (int .i64 n5) = some r6 ∧
 ((decide ((n5 : Int) > 0)) = true →
 (∀ k8,Up k7 k8→R k8 (int .i64 1))) ∧
 ((decide ((n5 : Int) > 0)) = false →
 (Cl k7 146 #[agg cs4] fun k10 r9=>∃ n6,some (int .i64 n6) = some r9 ∧
 ((decide ((n6 : Int) < 0)) = true →
 (∀ k11,Up k10 k11→R k11 (int .i64 (-1)))) ∧
 ((decide ((n6 : Int) < 0)) = false →
 (∀ k12,Up k10 k12→∃ m,m < m3∧I3 m k12 [int .i64 (IntKind.wrap .i64 (2*n2))]))))))) :
   CallsG Tryz.prog 110 #[agg cs0] k R :=
  execFn_use (cfg:={ opq:=[34,62],loops:=[(0,[.tmp 3 false [.int .i64]])] }) (args:=[.agg [.seg 0 12]]) (vals:=[agg cs0]) (kinds:=[.seg 12]) (by kernel_rfl) ⟨⟨cs0,rfl,hcs0⟩,trivial⟩ (by kernel_rfl) (by kernel_rfl) h
theorem rsCmp_vc {cs0 cs1 : Array Value} (hcs0 : Seg 12 cs0) (hcs1 : Seg 12 cs1)
 (h : Cl k 74 #[agg cs0,agg cs1] fun k1 r0=>Gt 12 r0 fun cs2 =>
 Cl k1 110 #[agg cs2] fun k3 r2=>∃ n3,some (int .i64 n3) = some r2 ∧
 ∀ k4,Up k3 k4→R k4 (int .i64 n3)) :
  CallsG Tryz.prog 87 #[agg cs0,agg cs1] k R :=
  execFn_use (cfg:={ opq:=[62] }) (args:=[.agg [.seg 0 12],.agg [.seg 1 12]]) (vals:=[agg cs0,agg cs1]) (kinds:=[.seg 12,.seg 12]) (by kernel_rfl) ⟨⟨cs0,rfl,hcs0⟩,⟨⟨cs1,rfl,hcs1⟩,trivial⟩⟩ (by kernel_rfl) (by kernel_rfl) h
end Go.Proofs.YtpjakokgmgggiaaGreat

/- The reference's Root: the integer root, by Newton's steps. -/
namespace Go.Proofs.YtpjakokgmgggiaaGreat.W32
open Go.RowKit Num
open Sy (Up Sees CallsG Seg)
theorem am_gm (x p : Nat) : 4*(p*x)≤(x+p)*(x+p):=by
 rcases Nat.le_total x p with h | h
 ·obtain ⟨d,rfl⟩:=Nat.exists_eq_add_of_le h
  have e : (x+(x+d))*(x+(x+d)) = 4*((x+d)*x)+d*d:=by grind
  omega
 ·obtain ⟨d,rfl⟩:=Nat.exists_eq_add_of_le h
  have e : (p+d+p)*(p+d+p) = 4*(p*(p+d))+d*d:=by grind
  omega
theorem newton_lo {a x : Nat} (hx : 0 < x) : a < ((x+a / x) / 2+1)*((x+a / x) / 2+1):=by
 have hq : a < (a / x+1)*x:=by rw [Nat.mul_comm]; exact Nat.lt_mul_div_succ a hx
 generalize a / x = q at hq ⊢
 generalize hy : (x+q) / 2 = y
 have h1 : x+(q+1)≤2*(y+1):=by omega
 have h2:=am_gm x (q+1)
 have h3:=Nat.mul_le_mul h1 h1
 have h4 : 2*(y+1)*(2*(y+1)) = 4*((y+1)*(y+1)):=by grind
 omega
theorem newton_stop {a x : Nat} (hx : 0 < x) (h : x≤(x+a / x) / 2) : x*x≤a:=by
 have hq : x≤a / x:=by omega
 exact (Nat.le_div_iff_mul_le hx).1 hq
section
variable {k k' : World} {A A' : Option Addr} {n c m n' c' m' a b l l' : Nat} {cs cs' : Array Value} {R : World→Value→Prop} {x y q : Rat} {K L : Nat}
theorem half_bits {b : Nat} (hb : b≤1000000000000) : IntKind.wrap .i64 (Int.tdiv (IntKind.wrap .i64 ((b : Nat)+1)) 2) = (((b+1) / 2 : Nat) : Int):=by
 have h1 : IntKind.wrap .i64 (((b : Nat) : Int)+1) = ((b+1 : Nat) : Int):=by rw [IntKind.wrap_i64]; omega
 rw [h1,Int.tdiv_eq_ediv_of_nonneg (by omega),IntKind.wrap_i64]
 omega
theorem root_s (h : NatN k A n c a) (hn : n≤10000000000) (C : ∀ k' A c r,Up k k'→r*r≤a→a < (r+1)*(r+1)→NatN k' A (nw r) c r→R k' (.slice A (nw r) c)) :
 Cl k 252 #[.slice A n c] R:=by
 intro k0 u0
 replace h:=h.up u0
 replace C:=fun k' A c r u=>C k' A c r (u0.trans u)
 refine nroot_vc ⟨rfl,fun h0=>fun k1 u1=>?_,fun h0=>?_⟩
 ·have hn0 : n = 0:=by have:=eq_of_beq h0; omega
  have ha:=h.zero.1 hn0
  have:=C k1 none 0 0 u1 (by omega) (by omega) (by rw [nw_zero]; exact NatN.none k1)
  rw [nw_zero] at this
  exact this
 ·have hn0 : n ≠ 0:=fun e=>by rw [e] at h0; exact absurd h0 (by decide)
  have ha : 0 < a:=Nat.pos_of_ne_zero fun e=>hn0 (h.zero.2 e)
  have hlt : a < 2 ^ (32*n):=by
   have:=h.1.lt
   rw [B_eq,← Nat.pow_mul] at this
   exact this
  have hbl : bl a≤32*n:=bl_le.2 hlt
  refine bits_s h (by omega) fun k2 u2=>⟨_,rfl,?_⟩
  intro p k3 u3 hp
  rw [half_bits (by omega)]
  refine raised_s (k:=k3) (s:=(bl a+1) / 2) (one_of hp) (by decide) (by omega) fun k5 A3 c3 u5 h3=>⟨A3,_,c3,rfl,?_⟩
  have hx0 : a < 2 ^ ((bl a+1) / 2)*2 ^ ((bl a+1) / 2):=by
   rw [← Nat.pow_add]
   exact Nat.lt_of_lt_of_le (lt_bl a) (Nat.pow_le_pow_right (by decide) (by omega))
  have hX : nw (1*2 ^ ((bl a+1) / 2))≤n+1:=by
   refine nw_le_of ?_
   rw [Nat.one_mul,B_eq,← Nat.pow_mul]
   exact Nat.pow_lt_pow_right (by decide) (by omega)
  generalize hXe : 1*2 ^ ((bl a+1) / 2) = X at h3 hX
  have hXX : 2 ^ ((bl a+1) / 2) = X:=by rw [← hXe,Nat.one_mul]
  rw [hXX] at hx0
  have hXp : 0 < X:=by rw [← hXX]; exact Nat.pow_pos (by decide)
  clear hXe hXX
  replace h:=((h.up u2).up u3).up u5
  replace C:=fun k' A c r u=>C k' A c r (((u2.trans u3).trans u5).trans u)
  refine ⟨fun m k' vs=>∃ A x c,m = x∧vs = [.slice A (nw x) c]∧NatN k' A (nw x) c x∧0 < x∧a < (x+1)*(x+1)∧x≤X,⟨X,fun k' u=>⟨A3,X,c3,rfl,rfl,h3.up u,hXp,Nat.lt_trans hx0 (Nat.mul_lt_mul'' (by omega) (by omega)),Nat.le_refl _⟩⟩,?_⟩
  rintro m k6 vs u6 ⟨A4,x,c4,rfl,rfl,hx,hx0,hxa,hxX⟩
  have hnx:=nw_mono hxX
  refine ⟨A4,_,c4,rfl,?_⟩
  refine quotient_s (h.up u6) hx (by omega) (by omega) hx0 fun k8 A5 c5 A6 c6 u8 hq hr=>⟨A5,_,c5,A6,_,c6,rfl,?_⟩
  have hnq:=nw_mono (Nat.div_le_self a m)
  have hna:=h.2
  refine sum_s (K:=n+1) (hx.1.up u8) hq.1 (by omega) (by omega) (by omega) fun k10 A7 c7 u10 hs hsl=>⟨A7,_,c7,rfl,?_⟩
  refine lowered_s (s:=1) hs (by omega) (by omega) fun k12 A8 c8 u12 hl=>⟨A8,_,c8,rfl,?_⟩
  have hny:=nw_mono (Nat.div_le_self (m+a / m) (2 ^ 1))
  refine order_s hl (((hx.up u8).up u10).up u12) (by omega) (by omega) fun k14 u14=>⟨_,rfl,fun ho=>?_,fun ho=>?_⟩
  ·have ho:=ord_ge ho
   intro k15 u15
   have v:=(((u8.trans u10).trans u12).trans u14).trans u15
   exact C k15 A4 c4 m (u6.trans v) (newton_stop hx0 ho) hxa (hx.up v)
  ·have ho:=ord_nge ho
   intro k16 u16
   have hlo:=newton_lo (a:=a) hx0
   refine ⟨_,ho,A8,_,c8,rfl,rfl,(hl.up u14).up u16,?_,hlo,by omega⟩
   refine Nat.pos_of_ne_zero fun e=>?_
   have e : (m+a / m) / 2 = 0:=e
   rw [e] at hlo
   omega
end
end Go.Proofs.YtpjakokgmgggiaaGreat.W32

/- Bounds of a Surd by rational approximations of the roots. No program. -/
namespace Go.Proofs.YtpjakokgmgggiaaGreat
open Num Plain
def nn (x : Q4) : Prop:=0≤C.sg x.toQ
theorem nn_add {x y : Q4} (hx : nn x) (hy : nn y) : nn (x.add y):=by
 unfold nn at *
 rw [toQ_add]
 rcases C.sg_cases x.toQ with ⟨e,h⟩ | ⟨e,h⟩ | ⟨e,h⟩
 ·rw [h,show (0 : Q23)+y.toQ = y.toQ by generalize y.toQ = q; refine Q23.ext' (Q2.ext' ?_ ?_) (Q2.ext' ?_ ?_) <;> (simp only [Q23.add_re,Q23.add_im,Q23.zero_re,Q23.zero_im,Q2.add_re,Q2.add_im,Q2.zero_re,Q2.zero_im]; grind)]
  exact hy
 ·rcases C.sg_cases y.toQ with ⟨e',h'⟩ | ⟨e',h'⟩ | ⟨e',h'⟩
  ·rw [h',show x.toQ+(0 : Q23) = x.toQ by generalize x.toQ = q; refine Q23.ext' (Q2.ext' ?_ ?_) (Q2.ext' ?_ ?_) <;> (simp only [Q23.add_re,Q23.add_im,Q23.zero_re,Q23.zero_im,Q2.add_re,Q2.add_im,Q2.zero_re,Q2.zero_im]; grind)]
   exact hx
  ·rw [C.sg_pos (C.add h h')]; decide
  ·omega
 ·omega
theorem pos_nn {x y : Q4} (hx : C.sg x.toQ = 1) (hy : nn y) : C.sg (x.add y).toQ = 1:=by
 unfold nn at hy
 rw [toQ_add]
 rcases C.sg_cases x.toQ with ⟨e,h⟩ | ⟨e,h⟩ | ⟨e,h⟩
 ·omega
 ·rcases C.sg_cases y.toQ with ⟨e',h'⟩ | ⟨e',h'⟩ | ⟨e',h'⟩
  ·rw [h',show x.toQ+(0 : Q23) = x.toQ by generalize x.toQ = q; refine Q23.ext' (Q2.ext' ?_ ?_) (Q2.ext' ?_ ?_) <;> (simp only [Q23.add_re,Q23.add_im,Q23.zero_re,Q23.zero_im,Q2.add_re,Q2.add_im,Q2.zero_re,Q2.zero_im]; grind)]
   exact hx
  ·exact C.sg_pos (C.add h h')
  ·omega
 ·omega
theorem sg3_nn {s t : Int} (hs : s = 0∨s = 1∨s = -1) (ht : t = 0∨t = 1∨t = -1) (h : 0≤s) (h' : 0≤t) : 0≤s*t:=by
 rcases hs with rfl | rfl | rfl <;> rcases ht with rfl | rfl | rfl <;> simp_all
theorem nn_mul {x y : Q4} (hx : nn x) (hy : nn y) : nn (x.mul y):=by
 unfold nn at *
 rw [toQ_mul,C.sg_mul]
 exact sg3_nn (C.sg_three _) (C.sg_three _) hx hy
theorem nn_of_mul {x y : Q4} (h : nn (x.mul y)) (hy : C.sg y.toQ = 1) : nn x:=by
 unfold nn at *
 rw [toQ_mul,C.sg_mul,hy,Int.mul_one] at h
 exact h
def sg2G (a b : Rat) : Int:=weighI a.num.sign b.num.sign (a*a - 2*(b*b)).num.sign
theorem sg2G_eq (a b : Rat) : B.sg (⟨a,b⟩ : Q2) = sg2G a b:=by rw [← sg_q2,sgRat,sgRat,sgRat]; rfl
def sgG (v : Q4) : Int:=weighI (sg2G v.a v.b) (sg2G v.c v.d) (sg2G (v.a*v.a+2*(v.b*v.b) - 3*(v.c*v.c+2*(v.d*v.d))) (v.a*v.b+v.b*v.a - 3*(v.c*v.d+v.d*v.c)))
theorem sgG_eq (v : Q4) : C.sg v.toQ = sgG v:=by
 unfold Q4.toQ e4
 rw [← sg_q23,sg2G_eq,sg2G_eq]
 have e : (⟨v.a,v.b⟩ : Q2)*⟨v.a,v.b⟩ - 3*((⟨v.c,v.d⟩ : Q2)*⟨v.c,v.d⟩) = ⟨v.a*v.a+2*(v.b*v.b) - 3*(v.c*v.c+2*(v.d*v.d)),v.a*v.b+v.b*v.a - 3*(v.c*v.d+v.d*v.c)⟩:=by
  refine Q2.ext' ?_ ?_ <;> simp only [Q2.sub_re,Q2.sub_im,Q2.mul_re,Q2.mul_im,Q2.three_re,Q2.three_im] <;> grind
 rw [e,sg2G_eq]
 rfl
def w2 : Q4:=⟨0,1,0,0⟩
def w3 : Q4:=⟨0,0,1,0⟩
def w6 : Q4:=⟨0,0,0,1⟩
theorem w2_pos : C.sg w2.toQ = 1:=by rw [sgG_eq]; decide +kernel
theorem w3_pos : C.sg w3.toQ = 1:=by rw [sgG_eq]; decide +kernel
theorem w6_pos : C.sg w6.toQ = 1:=by rw [sgG_eq]; decide +kernel
theorem w2_sq : w2.mul w2 = Q4.real 2:=by decide +kernel
theorem w3_sq : w3.mul w3 = Q4.real 3:=by decide +kernel
theorem w6_sq : w6.mul w6 = Q4.real 6:=by decide +kernel
theorem real_sg (q : Rat) : C.sg (Q4.real q).toQ = q.num.sign:=by
 unfold Q4.real Q4.toQ e4
 have h0 : B.sg (⟨0,0⟩ : Q2) = 0:=B.sg_zero
 rw [← sg_q23,h0,sg2G_eq]
 show weighI (sg2G q 0) 0 _ = _
 have h1 : sg2G q 0 = q.num.sign:=by
  unfold sg2G weighI
  rw [show (0 : Rat).num.sign = 0 from rfl]
  split <;> rename_i h
  ·rfl
  ·rw [if_pos rfl]
 rw [h1]
 unfold weighI
 split <;> rename_i h
 ·rfl
 ·rw [if_pos rfl]
theorem nn_real {q : Rat} (h : 0≤q) : nn (Q4.real q):=by
 unfold nn
 rw [real_sg]
 have:=Rat.num_nonneg.2 h
 rcases Int.lt_or_eq_of_le this with h | h
 ·rw [Int.sign_eq_one_of_pos h]; decide
 ·rw [← h]; decide
theorem real_nn {q : Rat} (h : nn (Q4.real q)) : 0≤q:=by
 unfold nn at h
 rw [real_sg] at h
 exact Rat.num_nonneg.1 (Int.sign_nonneg_iff.1 h)
theorem real_pos {q : Rat} (h : 0 < q) : C.sg (Q4.real q).toQ = 1:=by
 rw [real_sg]
 exact Int.sign_eq_one_of_pos (num_pos h)
theorem sq_e (w : Q4) (r n : Rat) (h : w.mul w = Q4.real n) : (w.sub (Q4.real r)).mul (w.add (Q4.real r)) = Q4.real (n - r*r):=by
 have e : (w.sub (Q4.real r)).mul (w.add (Q4.real r)) = (w.mul w).sub (Q4.real (r*r)):=by
  obtain ⟨a,b,c,d⟩:=w
  refine Q4.ext' ?_ ?_ ?_ ?_ <;> simp only [Q4.mul,Q4.sub,Q4.add,Q4.neg,Q4.real] <;> grind
 rw [e,h]
 refine Q4.ext' ?_ ?_ ?_ ?_ <;> simp only [Q4.sub,Q4.add,Q4.neg,Q4.real] <;> grind
theorem sq_e' (w : Q4) (r n : Rat) (h : w.mul w = Q4.real n) : ((Q4.real r).sub w).mul (w.add (Q4.real r)) = Q4.real (r*r - n):=by
 have e : ((Q4.real r).sub w).mul (w.add (Q4.real r)) = (Q4.real (r*r)).sub (w.mul w):=by
  obtain ⟨a,b,c,d⟩:=w
  refine Q4.ext' ?_ ?_ ?_ ?_ <;> simp only [Q4.mul,Q4.sub,Q4.add,Q4.neg,Q4.real] <;> grind
 rw [e,h]
 refine Q4.ext' ?_ ?_ ?_ ?_ <;> simp only [Q4.sub,Q4.add,Q4.neg,Q4.real] <;> grind
section
variable {w x : Q4} {n r s p : Rat}
theorem root_lo (hw : C.sg w.toQ = 1) (hs : w.mul w = Q4.real n) (h0 : 0≤r) (h : r*r≤n) : nn (w.sub (Q4.real r)):=by
 refine nn_of_mul ?_ (pos_nn hw (nn_real h0))
 rw [sq_e w r n hs]
 exact nn_real (by grind)
theorem root_hi (hw : C.sg w.toQ = 1) (hs : w.mul w = Q4.real n) (h0 : 0≤s) (h : n≤s*s) : nn ((Q4.real s).sub w):=by
 refine nn_of_mul ?_ (pos_nn hw (nn_real h0))
 rw [sq_e' w s n hs]
 exact nn_real (by grind)
def loT (p r s : Rat) : Rat:=if p < 0 then p*s else p*r
def hiT (p r s : Rat) : Rat:=if p < 0 then p*r else p*s
def absR (p : Rat) : Rat:=if p < 0 then -p else p
theorem absR_nn (p : Rat) : 0≤absR p:=by unfold absR; split <;> grind
theorem hi_lo (p r e : Rat) : hiT p r (r+e) - loT p r (r+e) = absR p*e:=by unfold hiT loT absR; split <;> grind
theorem nn_cast {x y : Q4} (h : nn x) (e : x = y) : nn y:=e ▸ h
theorem term_lo (h1 : nn (w.sub (Q4.real r))) (h2 : nn ((Q4.real s).sub w)) : nn (((Q4.real p).mul w).sub (Q4.real (loT p r s))):=by
 unfold loT
 split <;> rename_i hp
 ·refine nn_cast (nn_mul (nn_real (q:=-p) (by grind)) h2) ?_
  refine Q4.ext' ?_ ?_ ?_ ?_ <;> simp only [Q4.mul,Q4.sub,Q4.add,Q4.neg,Q4.real] <;> grind
 ·refine nn_cast (nn_mul (nn_real (q:=p) (by grind)) h1) ?_
  refine Q4.ext' ?_ ?_ ?_ ?_ <;> simp only [Q4.mul,Q4.sub,Q4.add,Q4.neg,Q4.real] <;> grind
theorem term_hi (h1 : nn (w.sub (Q4.real r))) (h2 : nn ((Q4.real s).sub w)) : nn ((Q4.real (hiT p r s)).sub ((Q4.real p).mul w)):=by
 unfold hiT
 split <;> rename_i hp
 ·refine nn_cast (nn_mul (nn_real (q:=-p) (by grind)) h1) ?_
  refine Q4.ext' ?_ ?_ ?_ ?_ <;> simp only [Q4.mul,Q4.sub,Q4.add,Q4.neg,Q4.real] <;> grind
 ·refine nn_cast (nn_mul (nn_real (q:=p) (by grind)) h2) ?_
  refine Q4.ext' ?_ ?_ ?_ ?_ <;> simp only [Q4.mul,Q4.sub,Q4.add,Q4.neg,Q4.real] <;> grind
structure Apx (w : Q4) (r s : Rat) : Prop where
 lo : nn (w.sub (Q4.real r))
 hi : nn ((Q4.real s).sub w)
def loB (x : Q4) (r2 s2 r3 s3 r6 s6 : Rat) : Rat:=x.a+loT x.b r2 s2+loT x.c r3 s3+loT x.d r6 s6
def hiB (x : Q4) (r2 s2 r3 s3 r6 s6 : Rat) : Rat:=x.a+hiT x.b r2 s2+hiT x.c r3 s3+hiT x.d r6 s6
variable {r2 s2 r3 s3 r6 s6 : Rat}
theorem parts_e (x : Q4) (l m n : Rat) : ((((Q4.real x.b).mul w2).sub (Q4.real l)).add (((Q4.real x.c).mul w3).sub (Q4.real m))).add (((Q4.real x.d).mul w6).sub (Q4.real n)) = x.sub (Q4.real (x.a+l+m+n)):=by
 refine Q4.ext' ?_ ?_ ?_ ?_ <;> simp only [Q4.mul,Q4.sub,Q4.add,Q4.neg,Q4.real,w2,w3,w6] <;> grind
theorem parts_e' (x : Q4) (l m n : Rat) : (((Q4.real l).sub ((Q4.real x.b).mul w2)).add ((Q4.real m).sub ((Q4.real x.c).mul w3))).add ((Q4.real n).sub ((Q4.real x.d).mul w6)) = (Q4.real (x.a+l+m+n)).sub x:=by
 refine Q4.ext' ?_ ?_ ?_ ?_ <;> simp only [Q4.mul,Q4.sub,Q4.add,Q4.neg,Q4.real,w2,w3,w6] <;> grind
theorem bounds_lo (x : Q4) (h2 : Apx w2 r2 s2) (h3 : Apx w3 r3 s3) (h6 : Apx w6 r6 s6) : nn (x.sub (Q4.real (loB x r2 s2 r3 s3 r6 s6))) :=
 nn_cast (nn_add (nn_add (term_lo h2.lo h2.hi) (term_lo h3.lo h3.hi)) (term_lo h6.lo h6.hi)) (parts_e x _ _ _)
theorem bounds_hi (x : Q4) (h2 : Apx w2 r2 s2) (h3 : Apx w3 r3 s3) (h6 : Apx w6 r6 s6) : nn ((Q4.real (hiB x r2 s2 r3 s3 r6 s6)).sub x) :=
 nn_cast (nn_add (nn_add (term_hi h2.lo h2.hi) (term_hi h3.lo h3.hi)) (term_hi h6.lo h6.hi)) (parts_e' x _ _ _)
theorem bounds_gap (x : Q4) (e : Rat) : hiB x r2 (r2+e) r3 (r3+e) r6 (r6+e) - loB x r2 (r2+e) r3 (r3+e) r6 (r6+e) = (absR x.b+absR x.c+absR x.d)*e:=by
 have h1:=hi_lo x.b r2 e
 have h2:=hi_lo x.c r3 e
 have h3:=hi_lo x.d r6 e
 unfold hiB loB
 grind
theorem sg_of_lo {lo : Rat} (h : nn (x.sub (Q4.real lo))) (hl : 0 < lo) : C.sg x.toQ = 1:=by
 have:=pos_nn (real_pos hl) h
 rwa [show (Q4.real lo).add (x.sub (Q4.real lo)) = x by refine Q4.ext' ?_ ?_ ?_ ?_ <;> simp only [Q4.sub,Q4.add,Q4.neg,Q4.real] <;> grind] at this
theorem sg_of_hi {hi : Rat} (h : nn ((Q4.real hi).sub x)) (hl : hi < 0) : C.sg x.toQ = -1:=by
 have:=pos_nn (real_pos (q:=-hi) (by grind)) h
 rw [show (Q4.real (-hi)).add ((Q4.real hi).sub x) = x.neg by refine Q4.ext' ?_ ?_ ?_ ?_ <;> simp only [Q4.sub,Q4.add,Q4.neg,Q4.real] <;> grind,toQ_neg,C.sg_minus] at this
 omega
end
def ab (u : Q4) (c : Rat) : Prop:=nn ((Q4.real c).sub u)∧nn ((Q4.real c).add u)
theorem nn_half {x : Q4} (h : nn ((Q4.real 2).mul x)) : nn x:=by
 unfold nn at *
 rw [toQ_mul,C.sg_mul,real_pos (by decide),Int.one_mul] at h
 exact h
section
variable {u v : Q4} {c d : Rat}
theorem ab_mul (h : ab u c) (h' : ab v d) : ab (u.mul v) (c*d):=by
 constructor
 ·refine nn_half (nn_cast (nn_add (nn_mul h.1 h'.2) (nn_mul h.2 h'.1)) ?_)
  refine Q4.ext' ?_ ?_ ?_ ?_ <;> simp only [Q4.mul,Q4.sub,Q4.add,Q4.neg,Q4.real] <;> grind
 ·refine nn_half (nn_cast (nn_add (nn_mul h.1 h'.1) (nn_mul h.2 h'.2)) ?_)
  refine Q4.ext' ?_ ?_ ?_ ?_ <;> simp only [Q4.mul,Q4.sub,Q4.add,Q4.neg,Q4.real] <;> grind
theorem ab_add (h : ab u c) (h' : ab v d) : ab (u.add v) (c+d):=by
 constructor
 ·refine nn_cast (nn_add h.1 h'.1) ?_
  refine Q4.ext' ?_ ?_ ?_ ?_ <;> simp only [Q4.sub,Q4.add,Q4.neg,Q4.real] <;> grind
 ·refine nn_cast (nn_add h.2 h'.2) ?_
  refine Q4.ext' ?_ ?_ ?_ ?_ <;> simp only [Q4.add,Q4.real] <;> grind
theorem ab_real {q : Rat} (h1 : -c≤q) (h2 : q≤c) : ab (Q4.real q) c:=by
 constructor
 ·refine nn_cast (nn_real (q:=c - q) (by grind)) ?_
  refine Q4.ext' ?_ ?_ ?_ ?_ <;> simp only [Q4.sub,Q4.add,Q4.neg,Q4.real] <;> grind
 ·refine nn_cast (nn_real (q:=c+q) (by grind)) ?_
  refine Q4.ext' ?_ ?_ ?_ ?_ <;> simp only [Q4.add,Q4.real] <;> grind
theorem real_ab {q : Rat} (h : ab (Q4.real q) c) : -c≤q∧q≤c:=by
 have h1:=real_nn (nn_cast (y:=Q4.real (c - q)) h.1 (by refine Q4.ext' ?_ ?_ ?_ ?_ <;> simp only [Q4.sub,Q4.add,Q4.neg,Q4.real] <;> grind))
 have h2:=real_nn (nn_cast (y:=Q4.real (c+q)) h.2 (by refine Q4.ext' ?_ ?_ ?_ ?_ <;> simp only [Q4.add,Q4.real] <;> grind))
 constructor <;> grind
theorem ab_root {w : Q4} {n : Rat} (hw : C.sg w.toQ = 1) (hs : w.mul w = Q4.real n) (h0 : 0≤c) (h : n≤c*c) : ab w c:=by
 refine ⟨root_hi hw hs h0 h,?_⟩
 have:=pos_nn hw (nn_real h0)
 unfold nn
 rw [show (Q4.real c).add w = w.add (Q4.real c) by refine Q4.ext' ?_ ?_ ?_ ?_ <;> simp only [Q4.add,Q4.real] <;> grind,this]
 decide
theorem whole_e (x : Q4) : (((Q4.real x.a).add ((Q4.real x.b).mul w2)).add ((Q4.real x.c).mul w3)).add ((Q4.real x.d).mul w6) = x:=by
 refine Q4.ext' ?_ ?_ ?_ ?_ <;> simp only [Q4.mul,Q4.add,Q4.real,w2,w3,w6] <;> grind
theorem ab_parts {x : Q4} {M : Rat} (a1 : -M≤x.a) (a2 : x.a≤M) (b1 : -M≤x.b) (b2 : x.b≤M) (c1 : -M≤x.c) (c2 : x.c≤M) (d1 : -M≤x.d) (d2 : x.d≤M) : ab x (8*M):=by
 have h:=ab_add (ab_add (ab_add (ab_real a1 a2) (ab_mul (ab_real b1 b2) (ab_root w2_pos w2_sq (c:=2) (by decide) (by decide +kernel)))) (ab_mul (ab_real c1 c2) (ab_root w3_pos w3_sq (c:=2) (by decide) (by decide +kernel)))) (ab_mul (ab_real d1 d2) (ab_root w6_pos w6_sq (c:=3) (by decide) (by decide +kernel)))
 rw [whole_e,show M+M*2+M*2+M*3 = 8*M by grind] at h
 exact h
theorem ab_cnj {x : Q4} {M : Rat} (a1 : -M≤x.a) (a2 : x.a≤M) (b1 : -M≤x.b) (b2 : x.b≤M) (c1 : -M≤x.c) (c2 : x.c≤M) (d1 : -M≤x.d) (d2 : x.d≤M) : ab x.cnj (8*M*(8*M)*(8*M)):=by
 unfold Q4.cnj
 refine ab_mul (ab_mul (ab_parts ?_ ?_ ?_ ?_ ?_ ?_ ?_ ?_) (ab_parts ?_ ?_ ?_ ?_ ?_ ?_ ?_ ?_)) (ab_parts ?_ ?_ ?_ ?_ ?_ ?_ ?_ ?_) <;> simp only [Q4.t1,Q4.t2] <;> grind
end
def isI (q : Rat) : Prop:=∃ n : Int,q = n
theorem isI.add {p q : Rat} (h : isI p) (h' : isI q) : isI (p+q):=by obtain ⟨m,rfl⟩:=h; obtain ⟨n,rfl⟩:=h'; exact ⟨m+n,(Rat.intCast_add m n).symm⟩
theorem isI.mul {p q : Rat} (h : isI p) (h' : isI q) : isI (p*q):=by obtain ⟨m,rfl⟩:=h; obtain ⟨n,rfl⟩:=h'; exact ⟨m*n,(Rat.intCast_mul m n).symm⟩
theorem isI.neg {p : Rat} (h : isI p) : isI (-p):=by obtain ⟨m,rfl⟩:=h; exact ⟨-m,(Rat.intCast_neg m).symm⟩
theorem isI_two : isI 2:=⟨2,rfl⟩
theorem isI_three : isI 3:=⟨3,rfl⟩
theorem isI_six : isI 6:=⟨6,rfl⟩
structure isI4 (x : Q4) : Prop where
 a : isI x.a
 b : isI x.b
 c : isI x.c
 d : isI x.d
theorem isI4.mul {x y : Q4} (h : isI4 x) (g : isI4 y) : isI4 (x.mul y) where
 a:=(((h.a.mul g.a).add (isI_two.mul (h.b.mul g.b))).add (isI_three.mul (h.c.mul g.c))).add (isI_six.mul (h.d.mul g.d))
 b:=((h.a.mul g.b).add (h.b.mul g.a)).add (isI_three.mul ((h.c.mul g.d).add (h.d.mul g.c)))
 c:=((h.a.mul g.c).add (h.c.mul g.a)).add (isI_two.mul ((h.b.mul g.d).add (h.d.mul g.b)))
 d:=(((h.a.mul g.d).add (h.d.mul g.a)).add (h.b.mul g.c)).add (h.c.mul g.b)
theorem isI4.t1 {x : Q4} (h : isI4 x) : isI4 x.t1:=⟨h.a,h.b.neg,h.c,h.d.neg⟩
theorem isI4.t2 {x : Q4} (h : isI4 x) : isI4 x.t2:=⟨h.a,h.b,h.c.neg,h.d.neg⟩
theorem isI4.cnj {x : Q4} (h : isI4 x) : isI4 x.cnj:=(h.t1.mul h.t2).mul h.t1.t2
theorem scale_mul (s t : Rat) (x y : Q4) : ((Q4.real s).mul x).mul ((Q4.real t).mul y) = (Q4.real (s*t)).mul (x.mul y):=by
 refine Q4.ext' ?_ ?_ ?_ ?_ <;> simp only [Q4.mul,Q4.real] <;> grind
theorem scale_t1 (s : Rat) (x : Q4) : ((Q4.real s).mul x).t1 = (Q4.real s).mul x.t1:=by
 refine Q4.ext' ?_ ?_ ?_ ?_ <;> simp only [Q4.mul,Q4.real,Q4.t1] <;> grind
theorem scale_t2 (s : Rat) (x : Q4) : ((Q4.real s).mul x).t2 = (Q4.real s).mul x.t2:=by
 refine Q4.ext' ?_ ?_ ?_ ?_ <;> simp only [Q4.mul,Q4.real,Q4.t2] <;> grind
theorem scale_cnj (s : Rat) (x : Q4) : ((Q4.real s).mul x).cnj = (Q4.real (s*s*s)).mul x.cnj:=by
 unfold Q4.cnj
 rw [scale_t1,scale_t2,scale_t2,scale_mul,scale_mul]
theorem scale_norm (s : Rat) (x : Q4) : (((Q4.real s).mul x).mul ((Q4.real s).mul x).cnj).a = s*(s*s*s)*(x.mul x.cnj).a:=by
 rw [scale_cnj,scale_mul]
 generalize x.mul x.cnj = y
 simp only [Q4.mul,Q4.real]
 grind
theorem norm_real (x : Q4) : x.mul x.cnj = Q4.real (x.mul x.cnj).a:=by
 obtain ⟨h1,h2,h3⟩:=x.cnj_norm
 exact Q4.ext' rfl h1 h2 h3
theorem den_mul (q : Rat) : isI ((q.den : Rat)*q):=⟨q.num,by rw [Rat.mul_comm]; exact mul_den_num q⟩
theorem isI_nat (n : Nat) : isI (n : Rat):=⟨n,by rw [Rat.intCast_natCast]⟩
theorem num_ab (q : Rat) {M : Nat} (h : q.num.natAbs≤M) : -(M : Rat)≤q∧q≤(M : Rat):=by
 have hd : (1 : Rat)≤(q.den : Rat):=by
  have:=q.den_pos
  have h1 : ((1 : Nat) : Rat)≤(q.den : Rat):=Rat.natCast_le_natCast.2 this
  exact h1
 have e:=mul_den_num q
 have h1 : (q.num : Rat)≤((M : Int) : Rat):=Rat.intCast_le_intCast.2 (by omega)
 have h2 : ((-(M : Int) : Int) : Rat)≤(q.num : Rat):=Rat.intCast_le_intCast.2 (by omega)
 rw [Rat.intCast_neg,Rat.intCast_natCast] at h2
 rw [Rat.intCast_natCast] at h1
 have hM : (0 : Rat)≤(M : Rat):=Rat.natCast_nonneg
 constructor
 ·refine Rat.not_lt.1 fun hq=>?_
  have h3 : q*(q.den : Rat)≤q*1:=by
   have:=Rat.mul_le_mul_of_nonneg_left hd (c:=-q) (by grind)
   grind
  grind
 ·refine Rat.not_lt.1 fun hq=>?_
  have h3 : q*1≤q*(q.den : Rat):=Rat.mul_le_mul_of_nonneg_left hd (by grind)
  grind
structure Parts4 (x : Q4) (M : Nat) : Prop where
 a : x.a.num.natAbs≤M∧x.a.den≤M
 b : x.b.num.natAbs≤M∧x.b.den≤M
 c : x.c.num.natAbs≤M∧x.c.den≤M
 d : x.d.num.natAbs≤M∧x.d.den≤M
theorem absR_le {p : Rat} {M : Nat} (h : p.num.natAbs≤M) : absR p≤(M : Rat):=by
 obtain ⟨h1,h2⟩:=num_ab p h
 unfold absR
 split <;> grind
theorem norm_whole (x : Q4) {M : Nat} (h : Parts4 x M) : ∃ D : Nat,0 < D∧D≤M*M*M*M∧isI ((D : Rat)*((D : Rat)*(D : Rat)*(D : Rat))*(x.mul x.cnj).a):=by
 refine ⟨x.a.den*x.b.den*x.c.den*x.d.den,?_,?_,?_⟩
 ·exact Nat.mul_pos (Nat.mul_pos (Nat.mul_pos x.a.den_pos x.b.den_pos) x.c.den_pos) x.d.den_pos
 ·exact Nat.mul_le_mul (Nat.mul_le_mul (Nat.mul_le_mul h.a.2 h.b.2) h.c.2) h.d.2
 ·rw [← scale_norm]
  have h4 : isI4 ((Q4.real ((x.a.den*x.b.den*x.c.den*x.d.den : Nat) : Rat)).mul x):=by
   have ha:=den_mul x.a
   have hb:=den_mul x.b
   have hc:=den_mul x.c
   have hd:=den_mul x.d
   have na:=isI_nat x.a.den
   have nb:=isI_nat x.b.den
   have nc:=isI_nat x.c.den
   have nd:=isI_nat x.d.den
   rw [Rat.natCast_mul,Rat.natCast_mul,Rat.natCast_mul]
   generalize (x.a.den : Rat) = p at *
   generalize (x.b.den : Rat) = q at *
   generalize (x.c.den : Rat) = r at *
   generalize (x.d.den : Rat) = s at *
   constructor
   ·have:=((ha.mul nb).mul nc).mul nd
    rwa [show p*x.a*q*r*s = ((Q4.real (p*q*r*s)).mul x).a by simp only [Q4.mul,Q4.real]; grind] at this
   ·have:=((hb.mul na).mul nc).mul nd
    rwa [show q*x.b*p*r*s = ((Q4.real (p*q*r*s)).mul x).b by simp only [Q4.mul,Q4.real]; grind] at this
   ·have:=((hc.mul na).mul nb).mul nd
    rwa [show r*x.c*p*q*s = ((Q4.real (p*q*r*s)).mul x).c by simp only [Q4.mul,Q4.real]; grind] at this
   ·have:=((hd.mul na).mul nb).mul nc
    rwa [show s*x.d*p*q*r = ((Q4.real (p*q*r*s)).mul x).d by simp only [Q4.mul,Q4.real]; grind] at this
  exact (h4.mul h4.cnj).a
theorem isI_ge {q : Rat} (h : isI q) (h0 : q ≠ 0) : q≤-1∨1≤q:=by
 obtain ⟨n,rfl⟩:=h
 have hn : n ≠ 0:=fun e=>h0 (by rw [e]; rfl)
 rcases Int.lt_or_gt_of_ne hn with h | h
 ·left
  have : ((n : Int) : Rat)≤((-1 : Int) : Rat):=Rat.intCast_le_intCast.2 (by omega)
  exact this
 ·right
  have : ((1 : Int) : Rat)≤((n : Int) : Rat):=Rat.intCast_le_intCast.2 (by omega)
  exact this
theorem bounds_end {x : Q4} {M : Nat} {lo hi e : Rat} (hx : x ≠ Q4.zero) (hp : Parts4 x M) (he : 0≤e) (hl : nn (x.sub (Q4.real lo))) (hh : nn ((Q4.real hi).sub x))
 (hg : hi - lo = (absR x.b+absR x.c+absR x.d)*e) (h1 : lo≤0) (h2 : 0≤hi) : 1≤((1536*M ^ 20 : Nat) : Rat)*e:=by
 have gap : hi - lo≤3*(M : Rat)*e:=by
  rw [hg]
  refine Rat.mul_le_mul_of_nonneg_right ?_ he
  have:=absR_le hp.b.1
  have:=absR_le hp.c.1
  have:=absR_le hp.d.1
  grind
 have hab : ab x (3*(M : Rat)*e):=by
  constructor
  ·refine nn_cast (nn_add hh (nn_real (q:=3*(M : Rat)*e - hi) (by grind))) ?_
   refine Q4.ext' ?_ ?_ ?_ ?_ <;> simp only [Q4.sub,Q4.add,Q4.neg,Q4.real] <;> grind
  ·refine nn_cast (nn_add hl (nn_real (q:=3*(M : Rat)*e+lo) (by grind))) ?_
   refine Q4.ext' ?_ ?_ ?_ ?_ <;> simp only [Q4.sub,Q4.add,Q4.neg,Q4.real] <;> grind
 obtain ⟨a1,a2⟩:=num_ab x.a hp.a.1
 obtain ⟨b1,b2⟩:=num_ab x.b hp.b.1
 obtain ⟨c1,c2⟩:=num_ab x.c hp.c.1
 obtain ⟨d1,d2⟩:=num_ab x.d hp.d.1
 have hN:=ab_mul hab (ab_cnj a1 a2 b1 b2 c1 c2 d1 d2)
 rw [norm_real] at hN
 obtain ⟨n1,n2⟩:=real_ab hN
 have hne:=Q4.norm_ne hx
 obtain ⟨D,hD,hDM,hI⟩:=norm_whole x hp
 generalize (x.mul x.cnj).a = N at n1 n2 hne hI
 have hD0 : (0 : Rat) < (D : Rat):=Rat.natCast_pos.2 hD
 have hDp : (0 : Rat) < (D : Rat)*((D : Rat)*(D : Rat)*(D : Rat)):=Rat.mul_pos hD0 (Rat.mul_pos (Rat.mul_pos hD0 hD0) hD0)
 have hz : (D : Rat)*((D : Rat)*(D : Rat)*(D : Rat))*N ≠ 0:=fun h=>by
  rcases Rat.mul_eq_zero.1 h with h | h
  ·grind
  ·exact hne h
 have hge:=isI_ge hI hz
 have hDle : (D : Rat)*((D : Rat)*(D : Rat)*(D : Rat))≤((M ^ 16 : Nat) : Rat):=by
  rw [← Rat.natCast_mul,← Rat.natCast_mul,← Rat.natCast_mul]
  refine Rat.natCast_le_natCast.2 ?_
  have h:=Nat.mul_le_mul hDM (Nat.mul_le_mul (Nat.mul_le_mul hDM hDM) hDM)
  have e : M*M*M*M*(M*M*M*M*(M*M*M*M)*(M*M*M*M)) = M ^ 16:=by
   simp only [Nat.pow_succ,Nat.pow_zero,Nat.one_mul,Nat.mul_assoc]
  rw [e] at h
  exact h
 have hc : 0≤3*(M : Rat)*e*(8*(M : Rat)*(8*(M : Rat))*(8*(M : Rat))):=by grind
 have key : ((M ^ 16 : Nat) : Rat)*(3*(M : Rat)*e*(8*(M : Rat)*(8*(M : Rat))*(8*(M : Rat)))) = ((1536*M ^ 20 : Nat) : Rat)*e:=by
  have e1 : ((1536*M ^ 20 : Nat) : Rat) = 1536*((M ^ 16 : Nat) : Rat)*((M : Rat)*(M : Rat)*(M : Rat)*(M : Rat)):=by
   rw [← Rat.natCast_mul,← Rat.natCast_mul,← Rat.natCast_mul,show (1536 : Rat) = ((1536 : Nat) : Rat) from rfl,← Rat.natCast_mul,← Rat.natCast_mul]
   congr 1
   rw [show (20 : Nat) = 16+4 from rfl,Nat.pow_add,Nat.mul_assoc]
   congr 1
   simp only [Nat.pow_succ,Nat.pow_zero,Nat.one_mul,Nat.mul_assoc]
  rw [e1]
  generalize ((M ^ 16 : Nat) : Rat) = P
  generalize (M : Rat) = m
  grind
 rw [← key]
 generalize 3*(M : Rat)*e*(8*(M : Rat)*(8*(M : Rat))*(8*(M : Rat))) = c at *
 generalize (D : Rat)*((D : Rat)*(D : Rat)*(D : Rat)) = d at *
 have h3 : d*c≤((M ^ 16 : Nat) : Rat)*c:=Rat.mul_le_mul_of_nonneg_right hDle hc
 have h4 : d*N≤d*c:=Rat.mul_le_mul_of_nonneg_left n2 (Rat.le_of_lt hDp)
 have h5 : d*-c≤d*N:=Rat.mul_le_mul_of_nonneg_left n1 (Rat.le_of_lt hDp)
 rcases hge with hge | hge <;> grind
theorem bounds_bits {x : Q4} {K k : Nat} {lo hi : Rat} (hx : x ≠ Q4.zero) (hp : Parts4 x (2 ^ (32*K))) (hl : nn (x.sub (Q4.real lo))) (hh : nn ((Q4.real hi).sub x))
 (hg : hi - lo = (absR x.b+absR x.c+absR x.d)*(1 / ((2 ^ k : Nat) : Rat))) (h1 : lo≤0) (h2 : 0≤hi) : k≤640*K+11:=by
 have hP : (0 : Rat) < ((2 ^ k : Nat) : Rat):=Rat.natCast_pos.2 (Nat.pow_pos (by decide))
 have he : (0 : Rat)≤1 / ((2 ^ k : Nat) : Rat):=by
  rw [Rat.div_def,Rat.one_mul]
  exact Rat.le_of_lt (Rat.inv_pos.2 hP)
 have h:=bounds_end hx hp he hl hh hg h1 h2
 have h3 : ((2 ^ k : Nat) : Rat)≤((1536*(2 ^ (32*K)) ^ 20 : Nat) : Rat):=by
  have:=Rat.mul_le_mul_of_nonneg_right h (Rat.le_of_lt hP)
  rw [Rat.one_mul,Rat.mul_assoc,Rat.div_mul_cancel (by grind),Rat.mul_one] at this
  exact this
 have h4:=Rat.natCast_le_natCast.1 h3
 rw [← Nat.pow_mul] at h4
 have h5 : 2 ^ k < 2 ^ (11+32*K*20):=by
  rw [Nat.pow_add]
  refine Nat.lt_of_le_of_lt h4 (Nat.mul_lt_mul_of_pos_right (by decide) (Nat.pow_pos (by decide)))
 have:=(Nat.pow_lt_pow_iff_right (by decide)).1 h5
 omega
end Go.Proofs.YtpjakokgmgggiaaGreat

/- The reference's bounds of Surds, and their signs. -/
namespace Go.Proofs.YtpjakokgmgggiaaGreat.W32
open Go.RowKit Num Plain
open Sy (Up Sees CallsG Seg)
section
variable {k k' : World} {A A' : Option Addr} {n c m n' c' m' a b l l' : Nat} {cs cs' c0 c1 : Array Value} {R : World→Value→Prop} {x y q p r lo hi : Rat} {K L M : Nat} {v v' : Q4}
theorem nw_pow_le (s : Nat) : nw (1*2 ^ s)≤s / 32+1:=by
 refine nw_le_of ?_
 rw [Nat.one_mul,B_eq,← Nat.pow_mul]
 exact Nat.pow_lt_pow_right (by decide) (by omega)
def isRoot (n kk : Nat) (q : Rat) : Prop:=∃ r : Nat,q = (r : Rat) / ((2 ^ kk : Nat) : Rat)∧r*r≤n*2 ^ (2*kk)∧n*2 ^ (2*kk) < (r+1)*(r+1)
theorem rroot_v {n kk : Nat} (hn : n≤6) (hk : kk≤1000000000) (C : ∀ k' ds q,Up k k'→isRoot n kk q→QV k' ds q (kk / 32+2)→R k' (.agg ds)) :
 Cl k 226 #[.int .u64 (n : Int),.int .i64 (kk : Int)] R:=by
 intro k0 u0
 have w1 : IntKind.wrap .i64 (2*(kk : Int)) = ((2*kk : Nat) : Int):=by rw [IntKind.wrap_i64]; omega
 refine rroot_vc (nat_s (x:=n) (by omega) fun k1 A1 c1 u1 h1=>⟨A1,_,c1,rfl,?_⟩)
 have hn1 : nw n≤1:=nw_le_of (by rw [B_eq]; omega)
 rw [w1]
 refine raised_s h1 (by omega) (by omega) fun k3 A3 c3 u3 h3=>⟨A3,_,c3,rfl,?_⟩
 have hb : n*2 ^ (2*kk) < 2 ^ (2*kk+3):=by
  rw [Nat.pow_add,Nat.mul_comm]
  exact Nat.mul_lt_mul_of_pos_left (by omega) (Nat.pow_pos (by decide))
 have hn3 : nw (n*2 ^ (2*kk))≤kk / 16+2:=by
  refine nw_le_of (Nat.lt_of_lt_of_le hb ?_)
  rw [B_eq,← Nat.pow_mul]
  exact Nat.pow_le_pow_right (by decide) (by omega)
 refine root_s h3 (by omega) fun k5 A5 c5 r u5 r1 r2 h5=>⟨A5,_,c5,rfl,?_⟩
 intro p k6 u6 hp
 refine raised_s (k:=k6) (s:=kk) (one_of hp) (by decide) (by omega) fun k8 A8 c8 u8 h8=>⟨A8,_,c8,rfl,?_⟩
 have hr : r < 2 ^ (kk+2):=by
  refine Nat.lt_of_not_le fun hle=>?_
  have h:=Nat.mul_le_mul hle hle
  rw [← Nat.pow_add] at h
  have h2 : 2 ^ (2*kk+3)≤2 ^ (kk+2+(kk+2)):=Nat.pow_le_pow_right (by decide) (by omega)
  omega
 have hnr : nw r≤kk / 32+2:=by
  refine nw_le_of (Nat.lt_of_lt_of_le hr ?_)
  rw [B_eq,← Nat.pow_mul]
  exact Nat.pow_le_pow_right (by decide) (by omega)
 have hnp:=nw_pow_le kk
 refine frac_b (K:=kk / 32+2) ((h5.up u6).up u8) h8 (by rw [Nat.one_mul]; exact Nat.pow_pos (by decide)) hnr (by omega) (by omega) (q:=(r : Rat) / ((2 ^ kk : Nat) : Rat)) ?_ fun k10 b A l c A' l' c' u10 hQ f1 f2=>⟨_,(QV.mk1 hQ f1 f2).seg,rfl,fun k11 u11=>C k11 _ _ (((((((u0.trans u1).trans u3).trans u5).trans u6).trans u8).trans u10).trans u11) ⟨r,rfl,r1,r2⟩ (QV.mk1 (hQ.up u11) f1 f2)⟩
 rw [Nat.one_mul,Rat.mkRat_eq_div]
 rfl
theorem power_v {kk : Nat} (hk1 : 0 < kk) (hk : kk≤1000000000) (C : ∀ k' ds,Up k k'→QV k' ds (1 / ((2 ^ kk : Nat) : Rat)) (kk / 32+2)→R k' (.agg ds)) :
 Cl k 213 #[.int .i64 (-(kk : Int))] R:=by
 intro k0 u0
 have w1 : IntKind.wrap .i64 (0 - -(kk : Int)) = (kk : Int):=by rw [IntKind.wrap_i64]; omega
 refine rpower_vc ⟨fun _=>?_,fun h=>absurd (of_decide_eq_false h) (by omega)⟩
 intro p k1 u1 hp
 rw [w1]
 refine raised_s (k:=k1) (s:=kk) (one_of hp) (by decide) (by omega) fun k2 A2 c2 u2 h2=>⟨A2,_,c2,rfl,?_⟩
 intro p3 k3 u3 hp3
 have hnp:=nw_pow_le kk
 refine frac_b (k:=k3) (K:=kk / 32+2) (one_of hp3) (h2.up u3) (by rw [Nat.one_mul]; exact Nat.pow_pos (by decide)) (by omega) (by omega) (by omega) (q:=1 / ((2 ^ kk : Nat) : Rat)) ?_ fun k10 b A l c A' l' c' u10 hQ f1 f2=>⟨_,(QV.mk1 hQ f1 f2).seg,rfl,fun k11 u11=>C k11 _ (((((u0.trans u1).trans u2).trans u3).trans u10).trans u11) (QV.mk1 (hQ.up u11) f1 f2)⟩
 rw [Nat.one_mul,Rat.mkRat_eq_div]
 rfl
theorem apx_root {w : Q4} {n kk : Nat} (hw : C.sg w.toQ = 1) (hs : w.mul w = Q4.real ((n : Nat) : Rat)) (h : isRoot n kk q) : Apx w q (q+1 / ((2 ^ kk : Nat) : Rat)):=by
 obtain ⟨r,rfl,h1,h2⟩:=h
 have hP : (0 : Rat) < ((2 ^ kk : Nat) : Rat):=Rat.natCast_pos.2 (Nat.pow_pos (by decide))
 have e1 : 2 ^ (2*kk) = 2 ^ kk*2 ^ kk:=by rw [← Nat.pow_add]; congr 1; omega
 rw [e1] at h1 h2
 have h1:=Rat.natCast_le_natCast.2 h1
 have h2:=Rat.natCast_le_natCast.2 (Nat.le_of_lt h2)
 rw [Rat.natCast_mul,Rat.natCast_mul,Rat.natCast_mul] at h1
 rw [Rat.natCast_mul,Rat.natCast_mul,Rat.natCast_mul,Rat.natCast_add,show ((1 : Nat) : Rat) = 1 from rfl] at h2
 have hr : (0 : Rat)≤(r : Rat):=Rat.natCast_nonneg
 generalize ((2 ^ kk : Nat) : Rat) = P at *
 generalize (r : Rat) = r at *
 generalize (n : Rat) = n at *
 have hi : (0 : Rat) < P⁻¹:=Rat.inv_pos.2 hP
 have hPi : P*P⁻¹ = 1:=Rat.mul_inv_cancel _ (by grind)
 rw [Rat.div_def,Rat.div_def,Rat.one_mul]
 generalize P⁻¹ = i at *
 have hii : 0≤i*i:=Rat.le_of_lt (Rat.mul_pos hi hi)
 have h3:=Rat.mul_le_mul_of_nonneg_right h1 hii
 have h4:=Rat.mul_le_mul_of_nonneg_right h2 hii
 have e2 : n*(P*P)*(i*i) = n:=by
  have : n*(P*P)*(i*i) = n*((P*i)*(P*i)):=by grind
  rw [this,hPi]; grind
 rw [e2] at h3 h4
 refine ⟨root_lo hw hs (Rat.mul_nonneg hr (Rat.le_of_lt hi)) ?_,root_hi hw hs ?_ ?_⟩
 ·grind
 ·have:=Rat.mul_nonneg hr (Rat.le_of_lt hi)
  grind
 ·grind
theorem rneg {q : Rat} : q.num < 0↔q < 0:=by rw [← Int.not_le,Rat.num_nonneg,Rat.not_le]
theorem rpos {q : Rat} : 0 < q.num↔0 < q:=by
 constructor
 ·intro h
  have h1 : 0≤q:=Rat.num_nonneg.1 (by omega)
  rcases Rat.le_iff_lt_or_eq.1 h1 with h2 | h2
  ·exact h2
  ·rw [← h2] at h; exact absurd h (by decide)
 ·exact num_pos
theorem sgn_lt {q : Rat} : q.num.sign < 0↔q < 0:=by
 rw [← rneg]
 rcases Int.lt_trichotomy q.num 0 with h | h | h
 ·rw [Int.sign_eq_neg_one_of_neg h]; exact ⟨fun _=>h,fun _=>by decide⟩
 ·rw [h]; exact Iff.rfl
 ·rw [Int.sign_eq_one_of_pos h]; exact ⟨fun h=>absurd h (by decide),fun h=>by omega⟩
theorem sgn_gt {q : Rat} : q.num.sign > 0↔0 < q:=by
 rw [← rpos]
 rcases Int.lt_trichotomy q.num 0 with h | h | h
 ·rw [Int.sign_eq_neg_one_of_neg h]; exact ⟨fun h=>absurd h (by decide),fun h=>by omega⟩
 ·rw [h]; exact Iff.rfl
 ·rw [Int.sign_eq_one_of_pos h]; exact ⟨fun _=>h,fun _=>by decide⟩
theorem neg_dec (p : Rat) : (decide (p.num.sign < 0)) = decide (p < 0):=decide_eq_decide.2 sgn_lt
theorem bstep {Q : World→Array Value→Array Value→Prop} {B : Option Addr} {l6 i n kk : Nat} {cx c7 : Array Value} (hA : ∃ b o,B = some ⟨b,o,none⟩) (hi6 : i < l6) (hrd : ∀ k',Up k k'→Sy.ReadAt k'.cell? B (Int.toNat (i : Int)*1+0) 1 (Value.int .u64 (n : Int)))
 (hn : n≤6) (hk : kk≤1000000000) (hx : QV k cx p K) (h7 : QV k c7 (1 / ((2 ^ kk : Nat) : Rat)) (kk / 32+2)) (h0 : QV k c0 lo L) (h1 : QV k c1 hi L) (hL : L≤1000000000) (hK : K≤1000000000)
 (C : ∀ k' d0 d1 r,Up k k'→isRoot n kk r→QV k' d0 (lo+loT p r (r+1 / ((2 ^ kk : Nat) : Rat))) (L+K+kk / 16+6)→QV k' d1 (hi+hiT p r (r+1 / ((2 ^ kk : Nat) : Rat))) (L+K+kk / 16+6)→Q k' d0 d1) :
 (∃ b o,B = some ⟨b,o,none⟩)∧((0 : Int)≤(i : Int)∧(i : Int) < (l6 : Nat)) ∧
 ∃ n8,Sy.ReadAt k.cell? B (Int.toNat (i : Int)*1+0) 1 (Value.int .u64 n8) ∧
 Cl k 226 #[Value.int .u64 n8,Value.int .i64 (kk : Int)] fun k4 r3=>Gt 3 r3 fun cs9 =>
 Cl k4 25 #[Value.agg cx,Value.agg cs9] fun k6 r5=>Gt 3 r5 fun cs10 =>
 Cl k6 21 #[Value.agg cs9,Value.agg c7] fun k8 r7=>Gt 3 r7 fun cs11 =>
 Cl k8 25 #[Value.agg cx,Value.agg cs11] fun k10 r9=>Gt 3 r9 fun cs12 =>
 Cl k10 146 #[Value.agg cx] fun k12 r11=>∃ n13,some (Value.int .i64 n13) = some r11 ∧
 ((decide ((n13 : Int) < 0)) = true →
 (Cl k12 21 #[Value.agg c0,Value.agg cs12] fun k14 r13=>Gt 3 r13 fun cs14 =>
 Cl k14 21 #[Value.agg c1,Value.agg cs10] fun k16 r15=>Gt 3 r15 fun cs15=>Q k16 cs14 cs15)) ∧
 ((decide ((n13 : Int) < 0)) = false →
 (Cl k12 21 #[Value.agg c0,Value.agg cs10] fun k76 r75=>Gt 3 r75 fun cs14 =>
 Cl k76 21 #[Value.agg c1,Value.agg cs12] fun k78 r77=>Gt 3 r77 fun cs15=>Q k78 cs14 cs15)):=by
  refine ⟨hA,⟨by omega,by omega⟩,(n : Int),hrd k (Up.refl k),?_⟩
  refine rroot_v hn hk fun k1 d1 r u1 hr q1=>⟨d1,q1.seg,rfl,?_⟩
  refine mul_v (hx.up u1) q1 (by omega) fun k2 d2 u2 q2=>⟨d2,q2.seg,rfl,?_⟩
  refine add_v (q1.up u2) ((h7.up u1).up u2) (by omega) fun k3 d3 u3 q3=>⟨d3,q3.seg,rfl,?_⟩
  refine mul_v (((hx.up u1).up u2).up u3) q3 (by omega) fun k4 d4 u4 q4=>⟨d4,q4.seg,rfl,?_⟩
  have u14:=((u1.trans u2).trans u3).trans u4
  refine sign_v (hx.up u14) fun k5 u5=>⟨_,rfl,fun h=>?_,fun h=>?_⟩
  ·rw [neg_dec] at h
   have hp:=of_decide_eq_true h
   refine add_v ((h0.up u14).up u5) (q4.up u5) (by omega) fun k6 d6 u6 q6=>⟨d6,q6.seg,rfl,?_⟩
   refine add_v (((h1.up u14).up u5).up u6) ((((q2.up u3).up u4).up u5).up u6) (by omega) fun k7 d7 u7 q7=>⟨d7,q7.seg,rfl,?_⟩
   refine C k7 d6 d7 r (((u14.trans u5).trans u6).trans u7) hr (((q6.up u7).cast ?_).mono (by omega)) ((q7.cast ?_).mono (by omega))
   ·unfold loT; rw [if_pos hp]
   ·unfold hiT; rw [if_pos hp]
  ·rw [neg_dec] at h
   have hp:=of_decide_eq_false h
   refine add_v ((h0.up u14).up u5) (((q2.up u3).up u4).up u5) (by omega) fun k6 d6 u6 q6=>⟨d6,q6.seg,rfl,?_⟩
   refine add_v (((h1.up u14).up u5).up u6) ((q4.up u5).up u6) (by omega) fun k7 d7 u7 q7=>⟨d7,q7.seg,rfl,?_⟩
   refine C k7 d6 d7 r (((u14.trans u5).trans u6).trans u7) hr (((q6.up u7).cast ?_).mono (by omega)) ((q7.cast ?_).mono (by omega))
   ·unfold loT; rw [if_neg hp]
   ·unfold hiT; rw [if_neg hp]
theorem read64 {k : World} {p i n : Nat} (h : Sy.Blk k p 125 #[Value.int .u64 1,Value.int .u64 2,Value.int .u64 3,Value.int .u64 6]) (hv : (#[Value.int .u64 1,Value.int .u64 2,Value.int .u64 3,Value.int .u64 6] : Array Value)[i]? = some (Value.int .u64 (n : Int))) :
 ∀ k',Up k k'→Sy.ReadAt k'.cell? (some ⟨p,0,none⟩) (Int.toNat (i : Int)*1+0) 1 (Value.int .u64 (n : Int)):=fun k' u=>by
 refine readAt_one rfl (p:=i) ?_ (by omega)
 unfold Sy.cellAt
 simp only [Nat.zero_add,(h.up u).cell,hv]
 rfl
theorem bounds_v {kk : Nat} (hx : SQ k cs v K) (hk1 : 0 < kk) (hk : kk≤1000000000) (hK : K≤100000000)
 (C : ∀ k' d0 d1 r2 r3 r6,Up k k'→Apx w2 r2 (r2+1 / ((2 ^ kk : Nat) : Rat))→Apx w3 r3 (r3+1 / ((2 ^ kk : Nat) : Rat))→Apx w6 r6 (r6+1 / ((2 ^ kk : Nat) : Rat)) →
   QV k' d0 (loB v r2 (r2+1 / ((2 ^ kk : Nat) : Rat)) r3 (r3+1 / ((2 ^ kk : Nat) : Rat)) r6 (r6+1 / ((2 ^ kk : Nat) : Rat))) (4*K+3*(kk / 16)+18) →
   QV k' d1 (hiB v r2 (r2+1 / ((2 ^ kk : Nat) : Rat)) r3 (r3+1 / ((2 ^ kk : Nat) : Rat)) r6 (r6+1 / ((2 ^ kk : Nat) : Rat))) (4*K+3*(kk / 16)+18)→R k' (.tuple #[.agg d0,.agg d1])) :
 Cl k 182 #[.agg cs,.int .i64 (kk : Int)] R:=by
 intro k0 u0
 obtain ⟨c0,c1,c2,c3,rfl,h0,h1,h2,h3⟩:=hx.up u0
 replace C:=fun k' d0 d1 r2 r3 r6 u=>C k' d0 d1 r2 r3 r6 (u0.trans u)
 refine rBounds_vc h0.seg h1.seg h2.seg h3.seg fun p5 k1 u1 hb=>⟨_,_,_,rfl,?_⟩
 rw [show IntKind.wrap .i64 (0 - (kk : Int)) = -(kk : Int) by rw [IntKind.wrap_i64]; omega]
 refine power_v hk1 hk fun k2 d2 u2 q2=>⟨d2,q2.seg,rfl,?_⟩
 have v2:=u1.trans u2
 replace C:=fun k' d0 d1 r2 r3 r6 u=>C k' d0 d1 r2 r3 r6 (v2.trans u)
 replace hb:=hb.up u2
 replace h0:=h0.up v2
 replace h1:=h1.up v2
 replace h2:=h2.up v2
 replace h3:=h3.up v2
 clear u0 u1 u2 v2 hx
 refine bstep (i:=1) (n:=2) ⟨_,_,rfl⟩ (by decide) (read64 hb rfl) (by decide) hk h1 q2 h0 h0 (by omega) (by omega) fun k4 e0 e1 r2 u4 a2 f0 f1=>?_
 refine bstep (i:=2) (n:=3) ⟨_,_,rfl⟩ (by decide) (read64 (hb.up u4) rfl) (by decide) hk (h2.up u4) (q2.up u4) f0 f1 (by omega) (by omega) fun k5 e2 e3 r3 u5 a3 f2 f3=>?_
 refine bstep (i:=3) (n:=6) ⟨_,_,rfl⟩ (by decide) (read64 ((hb.up u4).up u5) rfl) (by decide) hk ((h3.up u4).up u5) ((q2.up u4).up u5) f2 f3 (by omega) (by omega) fun k6 e4 e5 r6 u6 a6 f4 f5=>fun k7 u7=>?_
 exact C k7 e4 e5 r2 r3 r6 (((u4.trans u5).trans u6).trans u7) (apx_root w2_pos w2_sq a2) (apx_root w3_pos w3_sq a3) (apx_root w6_pos w6_sq a6) ((f4.up u7).mono (by omega)) ((f5.up u7).mono (by omega))
theorem QV.parts (h : QV k cs q K) : q.num.natAbs≤2 ^ (32*K)∧q.den≤2 ^ (32*K):=by
 obtain ⟨b,A,l,c,A',l',c',rfl,hQ,h1,h2⟩:=h
 have e1:=hQ.n.1.lt
 have e2:=hQ.d.1.lt
 rw [B_eq,← Nat.pow_mul] at e1 e2
 exact ⟨Nat.le_trans (Nat.le_of_lt e1) (Nat.pow_le_pow_right (by decide) (by omega)),Nat.le_trans (Nat.le_of_lt e2) (Nat.pow_le_pow_right (by decide) (by omega))⟩
theorem SQ.parts (h : SQ k cs v K) : Parts4 v (2 ^ (32*K)):=by
 obtain ⟨c0,c1,c2,c3,rfl,h0,h1,h2,h3⟩:=h
 exact ⟨h0.parts,h1.parts,h2.parts,h3.parts⟩
theorem ssign_v (hx : SQ k cs v K) (hK : K≤100000) (C : ∀ k',Up k k'→R k' (.int .i64 (C.sg v.toQ))) :
 Cl k 110 #[.agg cs] R:=by
 intro k0 u0
 replace hx:=hx.up u0
 replace C:=fun k' u=>C k' (u0.trans u)
 clear u0
 refine rsSign_vc hx.seg (szero_v hx fun k1 u1=>⟨_,rfl,fun h=>fun k2 u2=>?_,fun h=>?_⟩)
 ·have h:=of_decide_eq_true h
  have:=C k2 (u1.trans u2)
  rwa [h,toQ_zero,Plain.C.sg_zero] at this
 ·have hne:=of_decide_eq_false h
  replace hx:=hx.up u1
  replace C:=fun k' u=>C k' (u1.trans u)
  clear u1 h
  refine ⟨fun m k' vs=>∃ kk : Nat,16≤kk∧kk≤1280*K+22+16∧m = 1280*K+38 - kk∧vs = [.int .i64 (kk : Int)],⟨1280*K+22,fun k' _=>⟨16,by omega,by omega,by omega,rfl⟩⟩,?_⟩
  rintro m k3 vs u3 ⟨kk,hk1,hk2,rfl,rfl⟩
  refine ⟨_,rfl,?_⟩
  refine bounds_v (hx.up u3) (by omega) (by omega) (by omega) fun k5 d0 d1 r2 r3 r6 u5 a2 a3 a6 q0 q1=>⟨d0,q0.seg,d1,q1.seg,rfl,?_⟩
  have hlo:=bounds_lo v a2 a3 a6
  have hhi:=bounds_hi v a2 a3 a6
  have hgap:=bounds_gap v (r2:=r2) (r3:=r3) (r6:=r6) (1 / ((2 ^ kk : Nat) : Rat))
  generalize loB v r2 _ r3 _ r6 _ = lo at *
  generalize hiB v r2 _ r3 _ r6 _ = hi at *
  refine sign_v q0 fun k6 u6=>⟨_,rfl,fun h=>fun k7 u7=>?_,fun h=>?_⟩
  ·have h:=of_decide_eq_true h
   have hp : 0 < lo:=sgn_gt.1 h
   have:=C k7 (((u3.trans u5).trans u6).trans u7)
   rwa [sg_of_lo hlo hp] at this
  ·have h:=of_decide_eq_false h
   have hp : lo≤0:=Rat.not_lt.1 fun h'=>h (sgn_gt.2 h')
   refine sign_v (q1.up u6) fun k8 u8=>⟨_,rfl,fun h=>fun k9 u9=>?_,fun h=>fun k9 u9=>?_⟩
   ·have h:=of_decide_eq_true h
    have hq : hi < 0:=sgn_lt.1 h
    have:=C k9 ((((u3.trans u5).trans u6).trans u8).trans u9)
    rwa [sg_of_hi hhi hq] at this
   ·have h:=of_decide_eq_false h
    have hq : 0≤hi:=Rat.not_lt.1 fun h'=>h (sgn_lt.2 h')
    have hb:=bounds_bits hne hx.parts hlo hhi hgap hp hq
    refine ⟨1280*K+38 - 2*kk,by omega,2*kk,by omega,by omega,rfl,?_⟩
    rw [show IntKind.wrap .i64 (2*(kk : Int)) = ((2*kk : Nat) : Int) by rw [IntKind.wrap_i64]; omega]
theorem scmp_v (hx : SQ k cs v K) (hy : SQ k cs' v' L) (hK : K+L+1≤100000) (C : ∀ k',Up k k'→R k' (.int .i64 (C.sg (v.sub v').toQ))) :
 Cl k 87 #[.agg cs,.agg cs'] R:=by
 intro k0 u0
 refine rsCmp_vc hx.seg hy.seg (ssub_v (hx.up u0) (hy.up u0) (by omega) fun k1 d1 u1 h1=>⟨d1,h1.seg,rfl,?_⟩)
 exact ssign_v h1 hK fun k3 u3=>⟨_,rfl,fun k4 u4=>C k4 (((u0.trans u1).trans u3).trans u4)⟩
end
end Go.Proofs.YtpjakokgmgggiaaGreat.W32

/- What is to be shown of the calls of some functions. (Printed by gen/vc.py.) -/
namespace Go.Proofs.YtpjakokgmgggiaaGreat
open Go.RowKit
open Value (agg slice int bool tuple)
open Sy (Up Sees CallsG Seg execFn_use)
set_option maxRecDepth 100000
variable {k : World} {R : World→Value→Prop}
theorem xRational_vc {b0 : Bool} {A1 : Option Addr} {l1 c1 : Nat} {b2 : Bool} {A3 : Option Addr} {l3 c3 : Nat} {b4 : Bool} {A5 : Option Addr} {l5 c5 : Nat} {b6 : Bool} {A7 : Option Addr} {l7 c7 : Nat} {A8 : Option Addr} {l8 c8 : Nat}
 (h : true = true∧(true = true∧(true = true∧(((decide (((IntKind.wrap .i64 ((IntKind.wrap .i64 ((l3 : Nat)+(l5 : Nat)))+(l7 : Nat))) : Int) > 0)) = true →
 (∀ k0,Up k k0→R k0 (tuple #[agg #[bool false,slice none 0 0,slice none 0 0],bool false]))) ∧
 ((decide (((IntKind.wrap .i64 ((IntKind.wrap .i64 ((l3 : Nat)+(l5 : Nat)))+(l7 : Nat))) : Int) > 0)) = false →
 (∀ k1,Up k k1→R k1 (tuple #[agg #[bool b0,slice A1 l1 c1,slice A8 l8 c8],bool true]))))))) :
   CallsG Tryz.prog 78 #[agg #[bool b0,slice A1 l1 c1,bool b2,slice A3 l3 c3,bool b4,slice A5 l5 c5,bool b6,slice A7 l7 c7,slice A8 l8 c8]] k R :=
  execFn_use (cfg:={ opq:=[] }) (args:=[.agg [.var 0,.var 1,.var 2,.var 3,.var 4,.var 5,.var 6,.var 7,.var 8]]) (vals:=[bool b0,slice A1 l1 c1,bool b2,slice A3 l3 c3,bool b4,slice A5 l5 c5,bool b6,slice A7 l7 c7,slice A8 l8 c8]) (kinds:=[.bool,.slice,.bool,.slice,.bool,.slice,.bool,.slice,.slice]) (by kernel_rfl) ⟨⟨_,rfl⟩,⟨⟨_,_,_,rfl⟩,⟨⟨_,rfl⟩,⟨⟨_,_,_,rfl⟩,⟨⟨_,rfl⟩,⟨⟨_,_,_,rfl⟩,⟨⟨_,rfl⟩,⟨⟨_,_,_,rfl⟩,⟨⟨_,_,_,rfl⟩,trivial⟩⟩⟩⟩⟩⟩⟩⟩⟩ (by kernel_rfl) (by kernel_rfl) h
theorem surds_vc {n0 n1 n2 n3 n4 n5 n6 n7 n8 n9 n10 n11 n12 n13 n14 n15 : Int}
 (h : Cl k 14 #[] fun k1 r0=>∃ b16,some (bool b16) = some r0 ∧
 ((!b16) = true →
 (Cl k1 14 #[] fun k3 r2=>∃ b17,some (bool b17) = some r2 ∧
 ∀ k4,Up k3 k4→R k4 (bool b17))) ∧
 ((!b16) = false →
 (Cl k1 66 #[agg #[int .i64 n0,int .i64 n1,int .i64 n2,int .i64 n3,int .i64 n4,int .i64 n5,int .i64 n6,int .i64 n7]] fun k6 r5=>∃ b17,some (bool b17) = some r5 ∧
 ((!b17) = true →
 (Cl k6 14 #[] fun k8 r7=>∃ b18,some (bool b18) = some r7 ∧
 ∀ k9,Up k8 k9→R k9 (bool b18))) ∧
 ((!b17) = false →
 (Cl k6 66 #[agg #[int .i64 n8,int .i64 n9,int .i64 n10,int .i64 n11,int .i64 n12,int .i64 n13,int .i64 n14,int .i64 n15]] fun k11 r10=>∃ b18,some (bool b18) = some r10 ∧
 ((!b18) = true →
 (Cl k11 14 #[] fun k13 r12=>∃ b19,some (bool b19) = some r12 ∧
 ∀ k14,Up k13 k14→R k14 (bool b19))) ∧
 ((!b18) = false →
 (Cl k11 67 #[agg #[int .i64 n0,int .i64 n1,int .i64 n2,int .i64 n3,int .i64 n4,int .i64 n5,int .i64 n6,int .i64 n7]] fun k16 r15=>Gt 9 r15 fun cs19 =>
 Cl k16 67 #[agg #[int .i64 n8,int .i64 n9,int .i64 n10,int .i64 n11,int .i64 n12,int .i64 n13,int .i64 n14,int .i64 n15]] fun k18 r17=>Gt 9 r17 fun cs20 =>
 Cl k18 68 #[agg #[int .i64 n0,int .i64 n1,int .i64 n2,int .i64 n3,int .i64 n4,int .i64 n5,int .i64 n6,int .i64 n7]] fun k20 r19=>∃ cs21,Seg 3 cs21∧∃ cs22,Seg 3 cs22∧∃ cs23,Seg 3 cs23∧∃ cs24,Seg 3 cs24∧some (agg (cs21.toList ++ (cs22.toList ++ (cs23.toList ++ (cs24.toList ++ ([]))))).toArray) = some r19 ∧
 Cl k20 68 #[agg #[int .i64 n8,int .i64 n9,int .i64 n10,int .i64 n11,int .i64 n12,int .i64 n13,int .i64 n14,int .i64 n15]] fun k22 r21=>∃ cs25,Seg 3 cs25∧∃ cs26,Seg 3 cs26∧∃ cs27,Seg 3 cs27∧∃ cs28,Seg 3 cs28∧some (agg (cs25.toList ++ (cs26.toList ++ (cs27.toList ++ (cs28.toList ++ ([]))))).toArray) = some r21 ∧
 Cl k22 69 #[agg cs19,agg cs20] fun k24 r23=>∃ cs29,Seg 9 cs29∧∃ n30,some (tuple #[agg cs29,int .i64 n30]) = some r23 ∧
 Cl k24 70 #[agg (cs21.toList ++ (cs22.toList ++ (cs23.toList ++ (cs24.toList ++ ([]))))).toArray,agg (cs25.toList ++ (cs26.toList ++ (cs27.toList ++ (cs28.toList ++ ([]))))).toArray] fun k26 r25=>∃ cs31,Seg 3 cs31∧∃ cs32,Seg 3 cs32∧∃ cs33,Seg 3 cs33∧∃ cs34,Seg 3 cs34∧∃ n35,some (tuple #[agg (cs31.toList ++ (cs32.toList ++ (cs33.toList ++ (cs34.toList ++ ([]))))).toArray,int .i64 n35]) = some r25 ∧
 (((n30 : Int) != n35) = true →
 (∀ k27,Up k26 k27→R k27 (bool false))) ∧
 (((n30 : Int) != n35) = false →
 (Cl k26 50 #[agg cs29,agg (cs31.toList ++ (cs32.toList ++ (cs33.toList ++ (cs34.toList ++ ([]))))).toArray] fun k29 r28=>∃ b36,some (bool b36) = some r28 ∧
 ((!b36) = true →
 (∀ k30,Up k29 k30→R k30 (bool false))) ∧
 ((!b36) = false →
 (Cl k29 71 #[agg cs19,agg cs20] fun k32 r31=>Gt 9 r31 fun cs37 =>
 Cl k32 72 #[agg (cs21.toList ++ (cs22.toList ++ (cs23.toList ++ (cs24.toList ++ ([]))))).toArray,agg (cs25.toList ++ (cs26.toList ++ (cs27.toList ++ (cs28.toList ++ ([]))))).toArray] fun k34 r33=>∃ cs38,Seg 3 cs38∧∃ cs39,Seg 3 cs39∧∃ cs40,Seg 3 cs40∧∃ cs41,Seg 3 cs41∧some (agg (cs38.toList ++ (cs39.toList ++ (cs40.toList ++ (cs41.toList ++ ([]))))).toArray) = some r33 ∧
 Cl k34 50 #[agg cs37,agg (cs38.toList ++ (cs39.toList ++ (cs40.toList ++ (cs41.toList ++ ([]))))).toArray] fun k36 r35=>∃ b42,some (bool b42) = some r35 ∧
 ((!b42) = true →
 (∀ k37,Up k36 k37→R k37 (bool false))) ∧
 ((!b42) = false →
 (Cl k36 73 #[agg cs19,agg cs20] fun k39 r38=>Gt 9 r38 fun cs43 =>
 Cl k39 74 #[agg (cs21.toList ++ (cs22.toList ++ (cs23.toList ++ (cs24.toList ++ ([]))))).toArray,agg (cs25.toList ++ (cs26.toList ++ (cs27.toList ++ (cs28.toList ++ ([]))))).toArray] fun k41 r40=>∃ cs44,Seg 3 cs44∧∃ cs45,Seg 3 cs45∧∃ cs46,Seg 3 cs46∧∃ cs47,Seg 3 cs47∧some (agg (cs44.toList ++ (cs45.toList ++ (cs46.toList ++ (cs47.toList ++ ([]))))).toArray) = some r40 ∧
 Cl k41 50 #[agg cs43,agg (cs44.toList ++ (cs45.toList ++ (cs46.toList ++ (cs47.toList ++ ([]))))).toArray] fun k43 r42=>∃ b48,some (bool b48) = some r42 ∧
 ((!b48) = true →
 (∀ k44,Up k43 k44→R k44 (bool false))) ∧
 ((!b48) = false →
 (Cl k43 75 #[agg cs19,agg cs20] fun k46 r45=>Gt 9 r45 fun cs49 =>
 Cl k46 76 #[agg (cs21.toList ++ (cs22.toList ++ (cs23.toList ++ (cs24.toList ++ ([]))))).toArray,agg (cs25.toList ++ (cs26.toList ++ (cs27.toList ++ (cs28.toList ++ ([]))))).toArray] fun k48 r47=>∃ cs50,Seg 3 cs50∧∃ cs51,Seg 3 cs51∧∃ cs52,Seg 3 cs52∧∃ cs53,Seg 3 cs53∧some (agg (cs50.toList ++ (cs51.toList ++ (cs52.toList ++ (cs53.toList ++ ([]))))).toArray) = some r47 ∧
 Cl k48 50 #[agg cs49,agg (cs50.toList ++ (cs51.toList ++ (cs52.toList ++ (cs53.toList ++ ([]))))).toArray] fun k50 r49=>∃ b54,some (bool b54) = some r49 ∧
 ((!b54) = true →
 (∀ k51,Up k50 k51→R k51 (bool false))) ∧
 ((!b54) = false →
 (Cl k50 77 #[agg cs19] fun k53 r52=>∃ cs55,Seg 3 cs55∧∃ cs56,Seg 3 cs56∧∃ cs57,Seg 3 cs57∧∃ cs58,Seg 3 cs58∧some (agg (cs55.toList ++ (cs56.toList ++ (cs57.toList ++ (cs58.toList ++ ([]))))).toArray) = some r52 ∧
 Cl k53 19 #[agg cs55,agg cs21] fun k55 r54=>∃ b59,some (bool b59) = some r54 ∧
 ((!b59) = true →
 (∀ k56,Up k55 k56→R k56 (bool false))) ∧
 ((!b59) = false →
 (Cl k55 19 #[agg cs56,agg cs22] fun k58 r57=>∃ b60,some (bool b60) = some r57 ∧
 ((!b60) = true →
 (∀ k59,Up k58 k59→R k59 (bool false))) ∧
 ((!b60) = false →
 (Cl k58 19 #[agg cs57,agg cs23] fun k61 r60=>∃ b61,some (bool b61) = some r60 ∧
 ((!b61) = true →
 (∀ k62,Up k61 k62→R k62 (bool false))) ∧
 ((!b61) = false →
 (Cl k61 19 #[agg cs58,agg cs24] fun k64 r63=>∃ b62,some (bool b62) = some r63 ∧
 ((!b62) = true →
 (∀ k65,Up k64 k65→R k65 (bool false))) ∧
 ((!b62) = false →
 (Cl k64 78 #[agg cs19] fun k67 r66=>∃ cs63,Seg 3 cs63∧∃ b64,some (tuple #[agg cs63,bool b64]) = some r66 ∧
 Cl k67 79 #[agg cs22] fun k69 r68=>∃ b65,some (bool b65) = some r68 ∧
 (b65 = true →
 (Cl k69 79 #[agg cs23] fun k71 r70=>∃ b66,some (bool b66) = some r70 ∧
 (b66 = true →
 (Cl k71 79 #[agg cs24] fun k73 r72=>∃ b67,some (bool b67) = some r72 ∧
 ((!(b64 == b67)) = true →
 (∀ k74,Up k73 k74→R k74 (bool false))) ∧
 ((!(b64 == b67)) = false →
 ((b67 = true →
 (Cl k73 19 #[agg cs63,agg cs21] fun k76 r75=>∃ b68,some (bool b68) = some r75 ∧
 ((!b68) = true →
 (∀ k77,Up k76 k77→R k77 (bool false))) ∧
 ((!b68) = false →
 (((!b67) = true →
 (Cl k76 80 #[agg cs63] fun k79 r78=>∃ b69,some (bool b69) = some r78 ∧
 ((!b69) = true →
 (∀ k80,Up k79 k80→R k80 (bool false))) ∧
 ((!b69) = false →
 (Cl k79 15 #[agg #[int .i64 n8,int .i64 n9]] fun k82 r81=>Gt 3 r81 fun cs70 =>
 Cl k82 81 #[agg cs19,agg cs70] fun k84 r83=>Gt 9 r83 fun cs71 =>
 Cl k84 82 #[agg cs25] fun k86 r85=>∃ cs72,Seg 3 cs72∧∃ cs73,Seg 3 cs73∧∃ cs74,Seg 3 cs74∧∃ cs75,Seg 3 cs75∧some (agg (cs72.toList ++ (cs73.toList ++ (cs74.toList ++ (cs75.toList ++ ([]))))).toArray) = some r85 ∧
 Cl k86 50 #[agg cs71,agg (cs72.toList ++ (cs73.toList ++ (cs74.toList ++ (cs75.toList ++ ([]))))).toArray] fun k88 r87=>∃ b76,some (bool b76) = some r87 ∧
 ((!b76) = true →
 (∀ k89,Up k88 k89→R k89 (bool false))) ∧
 ((!b76) = false →
 (Cl k88 83 #[agg cs19] fun k91 r90=>Gt 9 r90 fun cs77 =>
 Cl k91 84 #[agg (cs21.toList ++ (cs22.toList ++ (cs23.toList ++ (cs24.toList ++ ([]))))).toArray] fun k93 r92=>∃ cs78,Seg 3 cs78∧∃ cs79,Seg 3 cs79∧∃ cs80,Seg 3 cs80∧∃ cs81,Seg 3 cs81∧some (agg (cs78.toList ++ (cs79.toList ++ (cs80.toList ++ (cs81.toList ++ ([]))))).toArray) = some r92 ∧
 Cl k93 50 #[agg cs77,agg (cs78.toList ++ (cs79.toList ++ (cs80.toList ++ (cs81.toList ++ ([]))))).toArray] fun k95 r94=>∃ b82,some (bool b82) = some r94 ∧
 (b82 = true →
 (Cl k95 85 #[agg cs19] fun k97 r96=>Gt 9 r96 fun cs83 =>
 Cl k97 50 #[agg cs83,agg (cs21.toList ++ (cs22.toList ++ (cs23.toList ++ (cs24.toList ++ ([]))))).toArray] fun k99 r98=>∃ b84,some (bool b84) = some r98 ∧
 (b84 = true →
 (Cl k99 86 #[agg cs19,agg cs20] fun k101 r100=>∃ n85,some (int .i64 n85) = some r100 ∧
 Cl k101 87 #[agg (cs21.toList ++ (cs22.toList ++ (cs23.toList ++ (cs24.toList ++ ([]))))).toArray,agg (cs25.toList ++ (cs26.toList ++ (cs27.toList ++ (cs28.toList ++ ([]))))).toArray] fun k103 r102=>∃ n86,some (int .i64 n86) = some r102 ∧
 (((n85 : Int) == n86) = true →
 (Cl k103 88 #[agg cs19,agg cs20] fun k105 r104=>∃ b87,some (bool b87) = some r104 ∧
 Cl k105 89 #[agg (cs21.toList ++ (cs22.toList ++ (cs23.toList ++ (cs24.toList ++ ([]))))).toArray,agg (cs25.toList ++ (cs26.toList ++ (cs27.toList ++ (cs28.toList ++ ([]))))).toArray] fun k107 r106=>∃ b88,some (bool b88) = some r106 ∧
 ((b87 == b88) = true →
 (Cl k107 90 #[agg cs19] fun k109 r108=>∃ b89,some (bool b89) = some r108 ∧
 Cl k109 91 #[agg (cs21.toList ++ (cs22.toList ++ (cs23.toList ++ (cs24.toList ++ ([]))))).toArray] fun k111 r110=>∃ b90,some (bool b90) = some r110 ∧
 ∀ k112,Up k111 k112→R k112 (bool (b89 == b90)))) ∧
 ((b87 == b88) = false →
 (∀ k113,Up k107 k113→R k113 (bool false))))) ∧
 (((n85 : Int) == n86) = false →
 (∀ k114,Up k103 k114→R k114 (bool false))))) ∧
 (b84 = false →
 (∀ k115,Up k99 k115→R k115 (bool false))))) ∧
 (b82 = false →
 (∀ k116,Up k95 k116→R k116 (bool false))))))))) ∧
 ((!b67) = false →
 (Cl k76 15 #[agg #[int .i64 n8,int .i64 n9]] fun k118 r117=>Gt 3 r117 fun cs69 =>
 Cl k118 81 #[agg cs19,agg cs69] fun k120 r119=>Gt 9 r119 fun cs70 =>
 Cl k120 82 #[agg cs25] fun k122 r121=>∃ cs71,Seg 3 cs71∧∃ cs72,Seg 3 cs72∧∃ cs73,Seg 3 cs73∧∃ cs74,Seg 3 cs74∧some (agg (cs71.toList ++ (cs72.toList ++ (cs73.toList ++ (cs74.toList ++ ([]))))).toArray) = some r121 ∧
 Cl k122 50 #[agg cs70,agg (cs71.toList ++ (cs72.toList ++ (cs73.toList ++ (cs74.toList ++ ([]))))).toArray] fun k124 r123=>∃ b75,some (bool b75) = some r123 ∧
 ((!b75) = true →
 (∀ k125,Up k124 k125→R k125 (bool false))) ∧
 ((!b75) = false →
 (Cl k124 83 #[agg cs19] fun k127 r126=>Gt 9 r126 fun cs76 =>
 Cl k127 84 #[agg (cs21.toList ++ (cs22.toList ++ (cs23.toList ++ (cs24.toList ++ ([]))))).toArray] fun k129 r128=>∃ cs77,Seg 3 cs77∧∃ cs78,Seg 3 cs78∧∃ cs79,Seg 3 cs79∧∃ cs80,Seg 3 cs80∧some (agg (cs77.toList ++ (cs78.toList ++ (cs79.toList ++ (cs80.toList ++ ([]))))).toArray) = some r128 ∧
 Cl k129 50 #[agg cs76,agg (cs77.toList ++ (cs78.toList ++ (cs79.toList ++ (cs80.toList ++ ([]))))).toArray] fun k131 r130=>∃ b81,some (bool b81) = some r130 ∧
 (b81 = true →
 (Cl k131 85 #[agg cs19] fun k133 r132=>Gt 9 r132 fun cs82 =>
 Cl k133 50 #[agg cs82,agg (cs21.toList ++ (cs22.toList ++ (cs23.toList ++ (cs24.toList ++ ([]))))).toArray] fun k135 r134=>∃ b83,some (bool b83) = some r134 ∧
 (b83 = true →
 (Cl k135 86 #[agg cs19,agg cs20] fun k137 r136=>∃ n84,some (int .i64 n84) = some r136 ∧
 Cl k137 87 #[agg (cs21.toList ++ (cs22.toList ++ (cs23.toList ++ (cs24.toList ++ ([]))))).toArray,agg (cs25.toList ++ (cs26.toList ++ (cs27.toList ++ (cs28.toList ++ ([]))))).toArray] fun k139 r138=>∃ n85,some (int .i64 n85) = some r138 ∧
 (((n84 : Int) == n85) = true →
 (Cl k139 88 #[agg cs19,agg cs20] fun k141 r140=>∃ b86,some (bool b86) = some r140 ∧
 Cl k141 89 #[agg (cs21.toList ++ (cs22.toList ++ (cs23.toList ++ (cs24.toList ++ ([]))))).toArray,agg (cs25.toList ++ (cs26.toList ++ (cs27.toList ++ (cs28.toList ++ ([]))))).toArray] fun k143 r142=>∃ b87,some (bool b87) = some r142 ∧
 ((b86 == b87) = true →
 (Cl k143 90 #[agg cs19] fun k145 r144=>∃ b88,some (bool b88) = some r144 ∧
 Cl k145 91 #[agg (cs21.toList ++ (cs22.toList ++ (cs23.toList ++ (cs24.toList ++ ([]))))).toArray] fun k147 r146=>∃ b89,some (bool b89) = some r146 ∧
 ∀ k148,Up k147 k148→R k148 (bool (b88 == b89)))) ∧
 ((b86 == b87) = false →
 (∀ k149,Up k143 k149→R k149 (bool false))))) ∧
 (((n84 : Int) == n85) = false →
 (∀ k150,Up k139 k150→R k150 (bool false))))) ∧
 (b83 = false →
 (∀ k151,Up k135 k151→R k151 (bool false))))) ∧
 (b81 = false →
 (∀ k152,Up k131 k152→R k152 (bool false))))))))))) ∧
 (b67 = false →
 (((!b67) = true →
 (Cl k73 80 #[agg cs63] fun k154 r153=>∃ b68,some (bool b68) = some r153 ∧
 ((!b68) = true →
 (∀ k155,Up k154 k155→R k155 (bool false))) ∧
 ((!b68) = false →
 (Cl k154 15 #[agg #[int .i64 n8,int .i64 n9]] fun k157 r156=>Gt 3 r156 fun cs69 =>
 Cl k157 81 #[agg cs19,agg cs69] fun k159 r158=>Gt 9 r158 fun cs70 =>
 Cl k159 82 #[agg cs25] fun k161 r160=>∃ cs71,Seg 3 cs71∧∃ cs72,Seg 3 cs72∧∃ cs73,Seg 3 cs73∧∃ cs74,Seg 3 cs74∧some (agg (cs71.toList ++ (cs72.toList ++ (cs73.toList ++ (cs74.toList ++ ([]))))).toArray) = some r160 ∧
 Cl k161 50 #[agg cs70,agg (cs71.toList ++ (cs72.toList ++ (cs73.toList ++ (cs74.toList ++ ([]))))).toArray] fun k163 r162=>∃ b75,some (bool b75) = some r162 ∧
 ((!b75) = true →
 (∀ k164,Up k163 k164→R k164 (bool false))) ∧
 ((!b75) = false →
 (Cl k163 83 #[agg cs19] fun k166 r165=>Gt 9 r165 fun cs76 =>
 Cl k166 84 #[agg (cs21.toList ++ (cs22.toList ++ (cs23.toList ++ (cs24.toList ++ ([]))))).toArray] fun k168 r167=>∃ cs77,Seg 3 cs77∧∃ cs78,Seg 3 cs78∧∃ cs79,Seg 3 cs79∧∃ cs80,Seg 3 cs80∧some (agg (cs77.toList ++ (cs78.toList ++ (cs79.toList ++ (cs80.toList ++ ([]))))).toArray) = some r167 ∧
 Cl k168 50 #[agg cs76,agg (cs77.toList ++ (cs78.toList ++ (cs79.toList ++ (cs80.toList ++ ([]))))).toArray] fun k170 r169=>∃ b81,some (bool b81) = some r169 ∧
 (b81 = true →
 (Cl k170 85 #[agg cs19] fun k172 r171=>Gt 9 r171 fun cs82 =>
 Cl k172 50 #[agg cs82,agg (cs21.toList ++ (cs22.toList ++ (cs23.toList ++ (cs24.toList ++ ([]))))).toArray] fun k174 r173=>∃ b83,some (bool b83) = some r173 ∧
 (b83 = true →
 (Cl k174 86 #[agg cs19,agg cs20] fun k176 r175=>∃ n84,some (int .i64 n84) = some r175 ∧
 Cl k176 87 #[agg (cs21.toList ++ (cs22.toList ++ (cs23.toList ++ (cs24.toList ++ ([]))))).toArray,agg (cs25.toList ++ (cs26.toList ++ (cs27.toList ++ (cs28.toList ++ ([]))))).toArray] fun k178 r177=>∃ n85,some (int .i64 n85) = some r177 ∧
 (((n84 : Int) == n85) = true →
 (Cl k178 88 #[agg cs19,agg cs20] fun k180 r179=>∃ b86,some (bool b86) = some r179 ∧
 Cl k180 89 #[agg (cs21.toList ++ (cs22.toList ++ (cs23.toList ++ (cs24.toList ++ ([]))))).toArray,agg (cs25.toList ++ (cs26.toList ++ (cs27.toList ++ (cs28.toList ++ ([]))))).toArray] fun k182 r181=>∃ b87,some (bool b87) = some r181 ∧
 ((b86 == b87) = true →
 (Cl k182 90 #[agg cs19] fun k184 r183=>∃ b88,some (bool b88) = some r183 ∧
 Cl k184 91 #[agg (cs21.toList ++ (cs22.toList ++ (cs23.toList ++ (cs24.toList ++ ([]))))).toArray] fun k186 r185=>∃ b89,some (bool b89) = some r185 ∧
 ∀ k187,Up k186 k187→R k187 (bool (b88 == b89)))) ∧
 ((b86 == b87) = false →
 (∀ k188,Up k182 k188→R k188 (bool false))))) ∧
 (((n84 : Int) == n85) = false →
 (∀ k189,Up k178 k189→R k189 (bool false))))) ∧
 (b83 = false →
 (∀ k190,Up k174 k190→R k190 (bool false))))) ∧
 (b81 = false →
 (∀ k191,Up k170 k191→R k191 (bool false))))))))) ∧
 ((!b67) = false →
 (Cl k73 15 #[agg #[int .i64 n8,int .i64 n9]] fun k193 r192=>Gt 3 r192 fun cs68 =>
 Cl k193 81 #[agg cs19,agg cs68] fun k195 r194=>Gt 9 r194 fun cs69 =>
 Cl k195 82 #[agg cs25] fun k197 r196=>∃ cs70,Seg 3 cs70∧∃ cs71,Seg 3 cs71∧∃ cs72,Seg 3 cs72∧∃ cs73,Seg 3 cs73∧some (agg (cs70.toList ++ (cs71.toList ++ (cs72.toList ++ (cs73.toList ++ ([]))))).toArray) = some r196 ∧
 Cl k197 50 #[agg cs69,agg (cs70.toList ++ (cs71.toList ++ (cs72.toList ++ (cs73.toList ++ ([]))))).toArray] fun k199 r198=>∃ b74,some (bool b74) = some r198 ∧
 ((!b74) = true →
 (∀ k200,Up k199 k200→R k200 (bool false))) ∧
 ((!b74) = false →
 (Cl k199 83 #[agg cs19] fun k202 r201=>Gt 9 r201 fun cs75 =>
 Cl k202 84 #[agg (cs21.toList ++ (cs22.toList ++ (cs23.toList ++ (cs24.toList ++ ([]))))).toArray] fun k204 r203=>∃ cs76,Seg 3 cs76∧∃ cs77,Seg 3 cs77∧∃ cs78,Seg 3 cs78∧∃ cs79,Seg 3 cs79∧some (agg (cs76.toList ++ (cs77.toList ++ (cs78.toList ++ (cs79.toList ++ ([]))))).toArray) = some r203 ∧
 Cl k204 50 #[agg cs75,agg (cs76.toList ++ (cs77.toList ++ (cs78.toList ++ (cs79.toList ++ ([]))))).toArray] fun k206 r205=>∃ b80,some (bool b80) = some r205 ∧
 (b80 = true →
 (Cl k206 85 #[agg cs19] fun k208 r207=>Gt 9 r207 fun cs81 =>
 Cl k208 50 #[agg cs81,agg (cs21.toList ++ (cs22.toList ++ (cs23.toList ++ (cs24.toList ++ ([]))))).toArray] fun k210 r209=>∃ b82,some (bool b82) = some r209 ∧
 (b82 = true →
 (Cl k210 86 #[agg cs19,agg cs20] fun k212 r211=>∃ n83,some (int .i64 n83) = some r211 ∧
 Cl k212 87 #[agg (cs21.toList ++ (cs22.toList ++ (cs23.toList ++ (cs24.toList ++ ([]))))).toArray,agg (cs25.toList ++ (cs26.toList ++ (cs27.toList ++ (cs28.toList ++ ([]))))).toArray] fun k214 r213=>∃ n84,some (int .i64 n84) = some r213 ∧
 (((n83 : Int) == n84) = true →
 (Cl k214 88 #[agg cs19,agg cs20] fun k216 r215=>∃ b85,some (bool b85) = some r215 ∧
 Cl k216 89 #[agg (cs21.toList ++ (cs22.toList ++ (cs23.toList ++ (cs24.toList ++ ([]))))).toArray,agg (cs25.toList ++ (cs26.toList ++ (cs27.toList ++ (cs28.toList ++ ([]))))).toArray] fun k218 r217=>∃ b86,some (bool b86) = some r217 ∧
 ((b85 == b86) = true →
 (Cl k218 90 #[agg cs19] fun k220 r219=>∃ b87,some (bool b87) = some r219 ∧
 Cl k220 91 #[agg (cs21.toList ++ (cs22.toList ++ (cs23.toList ++ (cs24.toList ++ ([]))))).toArray] fun k222 r221=>∃ b88,some (bool b88) = some r221 ∧
 ∀ k223,Up k222 k223→R k223 (bool (b87 == b88)))) ∧
 ((b85 == b86) = false →
 (∀ k224,Up k218 k224→R k224 (bool false))))) ∧
 (((n83 : Int) == n84) = false →
 (∀ k225,Up k214 k225→R k225 (bool false))))) ∧
 (b82 = false →
 (∀ k226,Up k210 k226→R k226 (bool false))))) ∧
 (b80 = false →
 (∀ k227,Up k206 k227→R k227 (bool false))))))))))))) ∧
 (b66 = false →
 (((!(b64 == false)) = true →
 (∀ k228,Up k71 k228→R k228 (bool false))) ∧
 ((!(b64 == false)) = false →
 (Cl k71 80 #[agg cs63] fun k230 r229=>∃ b67,some (bool b67) = some r229 ∧
 ((!b67) = true →
 (∀ k231,Up k230 k231→R k231 (bool false))) ∧
 ((!b67) = false →
 (Cl k230 15 #[agg #[int .i64 n8,int .i64 n9]] fun k233 r232=>Gt 3 r232 fun cs68 =>
 Cl k233 81 #[agg cs19,agg cs68] fun k235 r234=>Gt 9 r234 fun cs69 =>
 Cl k235 82 #[agg cs25] fun k237 r236=>∃ cs70,Seg 3 cs70∧∃ cs71,Seg 3 cs71∧∃ cs72,Seg 3 cs72∧∃ cs73,Seg 3 cs73∧some (agg (cs70.toList ++ (cs71.toList ++ (cs72.toList ++ (cs73.toList ++ ([]))))).toArray) = some r236 ∧
 Cl k237 50 #[agg cs69,agg (cs70.toList ++ (cs71.toList ++ (cs72.toList ++ (cs73.toList ++ ([]))))).toArray] fun k239 r238=>∃ b74,some (bool b74) = some r238 ∧
 ((!b74) = true →
 (∀ k240,Up k239 k240→R k240 (bool false))) ∧
 ((!b74) = false →
 (Cl k239 83 #[agg cs19] fun k242 r241=>Gt 9 r241 fun cs75 =>
 Cl k242 84 #[agg (cs21.toList ++ (cs22.toList ++ (cs23.toList ++ (cs24.toList ++ ([]))))).toArray] fun k244 r243=>∃ cs76,Seg 3 cs76∧∃ cs77,Seg 3 cs77∧∃ cs78,Seg 3 cs78∧∃ cs79,Seg 3 cs79∧some (agg (cs76.toList ++ (cs77.toList ++ (cs78.toList ++ (cs79.toList ++ ([]))))).toArray) = some r243 ∧
 Cl k244 50 #[agg cs75,agg (cs76.toList ++ (cs77.toList ++ (cs78.toList ++ (cs79.toList ++ ([]))))).toArray] fun k246 r245=>∃ b80,some (bool b80) = some r245 ∧
 (b80 = true →
 (Cl k246 85 #[agg cs19] fun k248 r247=>Gt 9 r247 fun cs81 =>
 Cl k248 50 #[agg cs81,agg (cs21.toList ++ (cs22.toList ++ (cs23.toList ++ (cs24.toList ++ ([]))))).toArray] fun k250 r249=>∃ b82,some (bool b82) = some r249 ∧
 (b82 = true →
 (Cl k250 86 #[agg cs19,agg cs20] fun k252 r251=>∃ n83,some (int .i64 n83) = some r251 ∧
 Cl k252 87 #[agg (cs21.toList ++ (cs22.toList ++ (cs23.toList ++ (cs24.toList ++ ([]))))).toArray,agg (cs25.toList ++ (cs26.toList ++ (cs27.toList ++ (cs28.toList ++ ([]))))).toArray] fun k254 r253=>∃ n84,some (int .i64 n84) = some r253 ∧
 (((n83 : Int) == n84) = true →
 (Cl k254 88 #[agg cs19,agg cs20] fun k256 r255=>∃ b85,some (bool b85) = some r255 ∧
 Cl k256 89 #[agg (cs21.toList ++ (cs22.toList ++ (cs23.toList ++ (cs24.toList ++ ([]))))).toArray,agg (cs25.toList ++ (cs26.toList ++ (cs27.toList ++ (cs28.toList ++ ([]))))).toArray] fun k258 r257=>∃ b86,some (bool b86) = some r257 ∧
 ((b85 == b86) = true →
 (Cl k258 90 #[agg cs19] fun k260 r259=>∃ b87,some (bool b87) = some r259 ∧
 Cl k260 91 #[agg (cs21.toList ++ (cs22.toList ++ (cs23.toList ++ (cs24.toList ++ ([]))))).toArray] fun k262 r261=>∃ b88,some (bool b88) = some r261 ∧
 ∀ k263,Up k262 k263→R k263 (bool (b87 == b88)))) ∧
 ((b85 == b86) = false →
 (∀ k264,Up k258 k264→R k264 (bool false))))) ∧
 (((n83 : Int) == n84) = false →
 (∀ k265,Up k254 k265→R k265 (bool false))))) ∧
 (b82 = false →
 (∀ k266,Up k250 k266→R k266 (bool false))))) ∧
 (b80 = false →
 (∀ k267,Up k246 k267→R k267 (bool false))))))))))))) ∧
 (b65 = false →
 (((!(b64 == false)) = true →
 (∀ k268,Up k69 k268→R k268 (bool false))) ∧
 ((!(b64 == false)) = false →
 (Cl k69 80 #[agg cs63] fun k270 r269=>∃ b66,some (bool b66) = some r269 ∧
 ((!b66) = true →
 (∀ k271,Up k270 k271→R k271 (bool false))) ∧
 ((!b66) = false →
 (Cl k270 15 #[agg #[int .i64 n8,int .i64 n9]] fun k273 r272=>Gt 3 r272 fun cs67 =>
 Cl k273 81 #[agg cs19,agg cs67] fun k275 r274=>Gt 9 r274 fun cs68 =>
 Cl k275 82 #[agg cs25] fun k277 r276=>∃ cs69,Seg 3 cs69∧∃ cs70,Seg 3 cs70∧∃ cs71,Seg 3 cs71∧∃ cs72,Seg 3 cs72∧some (agg (cs69.toList ++ (cs70.toList ++ (cs71.toList ++ (cs72.toList ++ ([]))))).toArray) = some r276 ∧
 Cl k277 50 #[agg cs68,agg (cs69.toList ++ (cs70.toList ++ (cs71.toList ++ (cs72.toList ++ ([]))))).toArray] fun k279 r278=>∃ b73,some (bool b73) = some r278 ∧
 ((!b73) = true →
 (∀ k280,Up k279 k280→R k280 (bool false))) ∧
 ((!b73) = false →
 (Cl k279 83 #[agg cs19] fun k282 r281=>Gt 9 r281 fun cs74 =>
 Cl k282 84 #[agg (cs21.toList ++ (cs22.toList ++ (cs23.toList ++ (cs24.toList ++ ([]))))).toArray] fun k284 r283=>∃ cs75,Seg 3 cs75∧∃ cs76,Seg 3 cs76∧∃ cs77,Seg 3 cs77∧∃ cs78,Seg 3 cs78∧some (agg (cs75.toList ++ (cs76.toList ++ (cs77.toList ++ (cs78.toList ++ ([]))))).toArray) = some r283 ∧
 Cl k284 50 #[agg cs74,agg (cs75.toList ++ (cs76.toList ++ (cs77.toList ++ (cs78.toList ++ ([]))))).toArray] fun k286 r285=>∃ b79,some (bool b79) = some r285 ∧
 (b79 = true →
 (Cl k286 85 #[agg cs19] fun k288 r287=>Gt 9 r287 fun cs80 =>
 Cl k288 50 #[agg cs80,agg (cs21.toList ++ (cs22.toList ++ (cs23.toList ++ (cs24.toList ++ ([]))))).toArray] fun k290 r289=>∃ b81,some (bool b81) = some r289 ∧
 (b81 = true →
 (Cl k290 86 #[agg cs19,agg cs20] fun k292 r291=>∃ n82,some (int .i64 n82) = some r291 ∧
 Cl k292 87 #[agg (cs21.toList ++ (cs22.toList ++ (cs23.toList ++ (cs24.toList ++ ([]))))).toArray,agg (cs25.toList ++ (cs26.toList ++ (cs27.toList ++ (cs28.toList ++ ([]))))).toArray] fun k294 r293=>∃ n83,some (int .i64 n83) = some r293 ∧
 (((n82 : Int) == n83) = true →
 (Cl k294 88 #[agg cs19,agg cs20] fun k296 r295=>∃ b84,some (bool b84) = some r295 ∧
 Cl k296 89 #[agg (cs21.toList ++ (cs22.toList ++ (cs23.toList ++ (cs24.toList ++ ([]))))).toArray,agg (cs25.toList ++ (cs26.toList ++ (cs27.toList ++ (cs28.toList ++ ([]))))).toArray] fun k298 r297=>∃ b85,some (bool b85) = some r297 ∧
 ((b84 == b85) = true →
 (Cl k298 90 #[agg cs19] fun k300 r299=>∃ b86,some (bool b86) = some r299 ∧
 Cl k300 91 #[agg (cs21.toList ++ (cs22.toList ++ (cs23.toList ++ (cs24.toList ++ ([]))))).toArray] fun k302 r301=>∃ b87,some (bool b87) = some r301 ∧
 ∀ k303,Up k302 k303→R k303 (bool (b86 == b87)))) ∧
 ((b84 == b85) = false →
 (∀ k304,Up k298 k304→R k304 (bool false))))) ∧
 (((n82 : Int) == n83) = false →
 (∀ k305,Up k294 k305→R k305 (bool false))))) ∧
 (b81 = false →
 (∀ k306,Up k290 k306→R k306 (bool false))))) ∧
 (b79 = false →
 (∀ k307,Up k286 k307→R k307 (bool false)))))))))))))))))))))))))))))))))))) :
   CallsG Tryz.prog 6 #[agg #[int .i64 n0,int .i64 n1,int .i64 n2,int .i64 n3,int .i64 n4,int .i64 n5,int .i64 n6,int .i64 n7],agg #[int .i64 n8,int .i64 n9,int .i64 n10,int .i64 n11,int .i64 n12,int .i64 n13,int .i64 n14,int .i64 n15]] k R :=
  execFn_use (cfg:={ opq:=[30,57,34] }) (args:=[.agg [.var 0,.var 1,.var 2,.var 3,.var 4,.var 5,.var 6,.var 7],.agg [.var 8,.var 9,.var 10,.var 11,.var 12,.var 13,.var 14,.var 15]]) (vals:=[int .i64 n0,int .i64 n1,int .i64 n2,int .i64 n3,int .i64 n4,int .i64 n5,int .i64 n6,int .i64 n7,int .i64 n8,int .i64 n9,int .i64 n10,int .i64 n11,int .i64 n12,int .i64 n13,int .i64 n14,int .i64 n15]) (kinds:=[.int .i64,.int .i64,.int .i64,.int .i64,.int .i64,.int .i64,.int .i64,.int .i64,.int .i64,.int .i64,.int .i64,.int .i64,.int .i64,.int .i64,.int .i64,.int .i64]) (by kernel_rfl) ⟨⟨_,rfl⟩,⟨⟨_,rfl⟩,⟨⟨_,rfl⟩,⟨⟨_,rfl⟩,⟨⟨_,rfl⟩,⟨⟨_,rfl⟩,⟨⟨_,rfl⟩,⟨⟨_,rfl⟩,⟨⟨_,rfl⟩,⟨⟨_,rfl⟩,⟨⟨_,rfl⟩,⟨⟨_,rfl⟩,⟨⟨_,rfl⟩,⟨⟨_,rfl⟩,⟨⟨_,rfl⟩,⟨⟨_,rfl⟩,trivial⟩⟩⟩⟩⟩⟩⟩⟩⟩⟩⟩⟩⟩⟩⟩⟩ (by kernel_rfl) (by kernel_rfl) h
end Go.Proofs.YtpjakokgmgggiaaGreat

/- What is to be shown of the calls of some functions. (Printed by gen/vc.py.) -/
namespace Go.Proofs.YtpjakokgmgggiaaGreat
open Go.RowKit
open Value (agg slice int bool tuple)
open Sy (Up Sees CallsG Seg execFn_use)
set_option maxRecDepth 100000
variable {k : World} {R : World→Value→Prop}
theorem sConj_vc {cs0 : Array Value} (hcs0 : Seg 9 cs0)
 (h : ∀ k0,Up k k0→R k0 (agg cs0)) :
 CallsG Tryz.prog 85 #[agg cs0] k R :=
 execFn_use (cfg:={ opq:=[57] }) (args:=[.agg [.seg 0 9]]) (vals:=[agg cs0]) (kinds:=[.seg 9]) (by kernel_rfl) ⟨⟨cs0,rfl,hcs0⟩,trivial⟩ (by kernel_rfl) (by kernel_rfl) h
end Go.Proofs.YtpjakokgmgggiaaGreat

/- What ExactSurds computes. (Printed by gen/lawsz.py.) -/
namespace Go.Proofs.YtpjakokgmgggiaaGreat
open Go.RowKit Num Plain W32
open Sy (Up Sees CallsG Seg)
section
variable {k k' : World} {R : World→Value→Prop} {x q : Rat} {K L : Nat} {cs cs' : Array Value} {v : Q4} {w : W4}
theorem SConj_s (hx : SurdV k cs v K) (C : ∀ k' ds,Up k k'→SurdV k' ds v K→R k' (.agg ds)) :
 Cl k 85 #[.agg cs] R :=
 fun _ u0=>sConj_vc hx.seg fun k1 u1=>C k1 cs (u0.trans u1) (hx.up (u0.trans u1))
theorem RatV.nilz (K : Nat) : RatV k #[.bool false,.slice none 0 0,.slice none 0 0] 0 K:=⟨_,_,_,_,_,_,_,rfl,⟨⟨rfl,LimR.nil⟩,LimR.nil⟩,Nat.zero_le _,Nat.zero_le _⟩
def irr (v : Q4) : Bool:=decide (v.b = 0) && (decide (v.c = 0) && decide (v.d = 0))
theorem Rational_s (hx : SurdV k cs v K) (hK : K≤268435456) (C : ∀ k' ds,Up k k'→RatV k' ds (if irr v then v.a else 0) K→R k' (.tuple #[.agg ds,.bool (irr v)])) :
 Cl k 78 #[.agg cs] R:=by
 intro k0 u0
 obtain ⟨c0,c1,c2,c3,D,d,e,x0,x1,x2,x3,m,rfl,hm,hg,rfl,⟨b0,A0,n0,e0,rfl,i0,l0⟩,⟨b1,A1,n1,e1,rfl,i1,l1⟩,⟨b2,A2,n2,e2,rfl,i2,l2⟩,⟨b3,A3,n3,e3,rfl,i3,l3⟩,lx,hd⟩:=hx
 have hcs : mk9 #[.bool b0,.slice A0 n0 e0] #[.bool b1,.slice A1 n1 e1] #[.bool b2,.slice A2 n2 e2] #[.bool b3,.slice A3 n3 e3] (.slice D d e) = #[.bool b0,.slice A0 n0 e0,.bool b1,.slice A1 n1 e1,.bool b2,.slice A2 n2 e2,.bool b3,.slice A3 n3 e3,.slice D d e]:=rfl
 rw [hcs]
 have q1:=i1.lim.zero_iff
 have q2:=i2.lim.zero_iff
 have q3:=i3.lim.zero_iff
 have ee : IntKind.wrap .i64 (IntKind.wrap .i64 ((n1 : Nat)+(n2 : Nat))+(n3 : Nat)) = ((n1+n2+n3 : Nat) : Int):=by
  rw [wrap_small (x:=(n1 : Nat)+(n2 : Nat)) (by omega) (by omega),wrap_small (x:=(n1 : Nat)+(n2 : Nat)+(n3 : Nat)) (by omega) (by omega)]
  omega
 have hirr : irr (mkQ x0 x1 x2 x3 m) = decide (x1 = 0∧x2 = 0∧x3 = 0):=by
  unfold irr mkQ
  rw [Bool.eq_iff_iff]
  simp only [Bool.and_eq_true,decide_eq_true_eq,mkRat_zero_iff hm]
 refine xRational_vc ⟨rfl,rfl,rfl,fun h=>fun k1 u1=>?_,fun h=>fun k1 u1=>?_⟩
 ·rw [ee] at h
  have h:=of_decide_eq_true h
  have er : irr (mkQ x0 x1 x2 x3 m) = false:=by rw [hirr]; exact decide_eq_false (by omega)
  have:=C k1 _ (u0.trans u1) (by rw [er]; exact RatV.nilz K)
  rwa [er] at this
 ·rw [ee] at h
  have h:=of_decide_eq_false h
  have hz : x1 = 0∧x2 = 0∧x3 = 0:=by omega
  have er : irr (mkQ x0 x1 x2 x3 m) = true:=by rw [hirr]; exact decide_eq_true hz
  obtain ⟨z1,z2,z3⟩:=hz
  have hgm : Nat.Coprime x0.natAbs m:=by
   unfold gcd5 at hg
   rw [z1,z2,z3] at hg
   simp only [Int.natAbs_zero,Nat.gcd_zero_right] at hg
   rw [Nat.coprime_comm]
   exact hg
  have hn : (mkRat x0 m).num = x0∧(mkRat x0 m).den = m:=by
   rw [← Rat.mk_eq_mkRat x0 m (by omega) hgm]
   exact ⟨rfl,rfl⟩
  have u:=u0.trans u1
  have:=C k1 #[.bool b0,.slice A0 n0 e0,.slice D d e] u (by
   rw [er,if_pos rfl]
   show RatV k1 _ (mkRat x0 m) K
   exact ⟨b0,A0,n0,e0,D,d,_,rfl,⟨by rw [hn.1]; exact i0.up u,by rw [hn.2]; exact lx.up u⟩,l0,hd⟩)
  rwa [er] at this
set_option maxRecDepth 4000 in
theorem surds_s {n0 n1 n2 n3 n4 n5 n6 n7 n8 n9 n10 n11 n12 n13 n14 n15 : Int} (h0 : In64 n0) (h1 : In64 n1) (h2 : In64 n2) (h3 : In64 n3) (h4 : In64 n4) (h5 : In64 n5) (h6 : In64 n6) (h7 : In64 n7) (h8 : In64 n8) (h9 : In64 n9) (h10 : In64 n10) (h11 : In64 n11) (h12 : In64 n12) (h13 : In64 n13) (h14 : In64 n14) (h15 : In64 n15) (C : ∀ k',Up k k'→R k' (.bool true)) :
 Cl k 6 #[.agg #[.int .i64 n0,.int .i64 n1,.int .i64 n2,.int .i64 n3,.int .i64 n4,.int .i64 n5,.int .i64 n6,.int .i64 n7],.agg #[.int .i64 n8,.int .i64 n9,.int .i64 n10,.int .i64 n11,.int .i64 n12,.int .i64 n13,.int .i64 n14,.int .i64 n15]] R:=by
 intro k0 u0
 replace C:=fun k' u=>C k' (u0.trans u)
 refine surds_vc ?_
 have aw : ∀ {k1 : World},Up k0 k1→Cl k1 14 #[] fun k3 r2=>∃ b : Bool,some (Value.bool b) = some r2∧∀ k4,Up k3 k4→R k4 (Value.bool b) :=
  fun u1=>awake_s fun k3 u3=>⟨_,rfl,fun k4 u4=>C k4 ((u1.trans u3).trans u4)⟩
 refine awake_s fun k1 u1=>⟨_,rfl,fun h=>(nomatch h),fun _=>?_⟩
 refine small_s fun k2 b2 u2=>⟨_,rfl,fun _=>aw (u1.trans u2),fun _=>?_⟩
 refine small_s fun k3 b3 u3=>⟨_,rfl,fun _=>aw ((u1.trans u2).trans u3),fun _=>?_⟩
 clear aw
 replace C:=fun k' u=>C k' (((u1.trans u2).trans u3).trans u)
 refine OfQuad_s h0 h1 h2 h3 h4 h5 h6 h7 fun k4 d4 u4 hX=>⟨d4,hX.seg,rfl,?_⟩
 replace C:=fun k' u=>C k' (u4.trans u)
 clear u4
 refine OfQuad_s h8 h9 h10 h11 h12 h13 h14 h15 fun k5 d5 u5 hY=>⟨d5,hY.seg,rfl,?_⟩
 replace hX:=hX.up u5
 replace C:=fun k' u=>C k' (u5.trans u)
 clear u5
 refine squad_v h0 h1 h2 h3 h4 h5 h6 h7 fun k6 d6 u6 hP=>?_
 have hP':=hP
 obtain ⟨Pc0,Pc1,Pc2,Pc3,rfl,Ph0,Ph1,Ph2,Ph3⟩:=hP'
 refine ⟨Pc0,Ph0.seg,Pc1,Ph1.seg,Pc2,Ph2.seg,Pc3,Ph3.seg,rfl,?_⟩
 replace hX:=hX.up u6
 replace hY:=hY.up u6
 replace C:=fun k' u=>C k' (u6.trans u)
 clear u6
 refine squad_v h8 h9 h10 h11 h12 h13 h14 h15 fun k7 d7 u7 hQ=>?_
 have hQ':=hQ
 obtain ⟨Qc0,Qc1,Qc2,Qc3,rfl,Qh0,Qh1,Qh2,Qh3⟩:=hQ'
 refine ⟨Qc0,Qh0.seg,Qc1,Qh1.seg,Qc2,Qh2.seg,Qc3,Qh3.seg,rfl,?_⟩
 replace hX:=hX.up u7
 replace hY:=hY.up u7
 replace hP:=hP.up u7
 replace Ph0:=Ph0.up u7
 replace Ph1:=Ph1.up u7
 replace Ph2:=Ph2.up u7
 replace Ph3:=Ph3.up u7
 replace C:=fun k' u=>C k' (u7.trans u)
 clear u7
 have hr0:=h8
 have hr1:=h9
 generalize ex : (⟨ofQ n0 n1,ofQ n2 n3,ofQ n4 n5,ofQ n6 n7⟩ : Q4) = x at *
 generalize ey : (⟨ofQ n8 n9,ofQ n10 n11,ofQ n12 n13,ofQ n14 n15⟩ : Q4) = y at *
 have ez : ofQ n8 n9 = y.a:=by rw [← ey]
 clear h0 h1 h2 h3 h4 h5 h6 h7 h8 h9 h10 h11 h12 h13 h14 h15 ex ey
 refine SDiv_d hX hY (by decide) (by decide)  fun k8 d8 u8 hD=>⟨d8,hD.seg,_,rfl,?_⟩
 replace hX:=hX.up u8
 replace hY:=hY.up u8
 replace hP:=hP.up u8
 replace Ph0:=Ph0.up u8
 replace Ph1:=Ph1.up u8
 replace Ph2:=Ph2.up u8
 replace Ph3:=Ph3.up u8
 replace hQ:=hQ.up u8
 replace Qh0:=Qh0.up u8
 replace C:=fun k' u=>C k' (u8.trans u)
 clear u8
 refine sdiv_v hP hQ (by decide) (by decide) (by decide)  fun k9 d9 u9 hE=>?_
 have hE':=hE
 obtain ⟨Ec0,Ec1,Ec2,Ec3,rfl,Eh0,Eh1,Eh2,Eh3⟩:=hE'
 refine ⟨Ec0,Eh0.seg,Ec1,Eh1.seg,Ec2,Eh2.seg,Ec3,Eh3.seg,_,rfl,fun h=>by simp at h,fun _=>?_⟩
 clear Eh0 Eh1 Eh2 Eh3
 replace hX:=hX.up u9
 replace hY:=hY.up u9
 replace hP:=hP.up u9
 replace Ph0:=Ph0.up u9
 replace Ph1:=Ph1.up u9
 replace Ph2:=Ph2.up u9
 replace Ph3:=Ph3.up u9
 replace hQ:=hQ.up u9
 replace Qh0:=Qh0.up u9
 replace hD:=hD.up u9
 replace C:=fun k' u=>C k' (u9.trans u)
 clear u9
 refine isSurd_s hD (by decide) (by decide) hE (by decide)  fun k10 u10=>⟨_,rfl,fun h=>(nomatch h),fun _=>?_⟩
 clear hD hE
 replace hX:=hX.up u10
 replace hY:=hY.up u10
 replace hP:=hP.up u10
 replace Ph0:=Ph0.up u10
 replace Ph1:=Ph1.up u10
 replace Ph2:=Ph2.up u10
 replace Ph3:=Ph3.up u10
 replace hQ:=hQ.up u10
 replace Qh0:=Qh0.up u10
 replace C:=fun k' u=>C k' (u10.trans u)
 clear u10
 refine SAdd_s hX hY (by decide) (by decide)  fun k11 d11 u11 hD=>⟨d11,hD.seg,rfl,?_⟩
 replace hX:=hX.up u11
 replace hY:=hY.up u11
 replace hP:=hP.up u11
 replace Ph0:=Ph0.up u11
 replace Ph1:=Ph1.up u11
 replace Ph2:=Ph2.up u11
 replace Ph3:=Ph3.up u11
 replace hQ:=hQ.up u11
 replace Qh0:=Qh0.up u11
 replace C:=fun k' u=>C k' (u11.trans u)
 clear u11
 refine sadd_v hP hQ (by decide)  fun k12 d12 u12 hE=>?_
 have hE':=hE
 obtain ⟨Ec0,Ec1,Ec2,Ec3,rfl,Eh0,Eh1,Eh2,Eh3⟩:=hE'
 refine ⟨Ec0,Eh0.seg,Ec1,Eh1.seg,Ec2,Eh2.seg,Ec3,Eh3.seg,rfl,?_⟩
 clear Eh0 Eh1 Eh2 Eh3
 replace hX:=hX.up u12
 replace hY:=hY.up u12
 replace hP:=hP.up u12
 replace Ph0:=Ph0.up u12
 replace Ph1:=Ph1.up u12
 replace Ph2:=Ph2.up u12
 replace Ph3:=Ph3.up u12
 replace hQ:=hQ.up u12
 replace Qh0:=Qh0.up u12
 replace hD:=hD.up u12
 replace C:=fun k' u=>C k' (u12.trans u)
 clear u12
 refine isSurd_s hD (by decide) (by decide) hE (by decide)  fun k13 u13=>⟨_,rfl,fun h=>(nomatch h),fun _=>?_⟩
 clear hD hE
 replace hX:=hX.up u13
 replace hY:=hY.up u13
 replace hP:=hP.up u13
 replace Ph0:=Ph0.up u13
 replace Ph1:=Ph1.up u13
 replace Ph2:=Ph2.up u13
 replace Ph3:=Ph3.up u13
 replace hQ:=hQ.up u13
 replace Qh0:=Qh0.up u13
 replace C:=fun k' u=>C k' (u13.trans u)
 clear u13
 refine SSub_s hX hY (by decide) (by decide)  fun k14 d14 u14 hD=>⟨d14,hD.seg,rfl,?_⟩
 replace hX:=hX.up u14
 replace hY:=hY.up u14
 replace hP:=hP.up u14
 replace Ph0:=Ph0.up u14
 replace Ph1:=Ph1.up u14
 replace Ph2:=Ph2.up u14
 replace Ph3:=Ph3.up u14
 replace hQ:=hQ.up u14
 replace Qh0:=Qh0.up u14
 replace C:=fun k' u=>C k' (u14.trans u)
 clear u14
 refine ssub_v hP hQ (by decide)  fun k15 d15 u15 hE=>?_
 have hE':=hE
 obtain ⟨Ec0,Ec1,Ec2,Ec3,rfl,Eh0,Eh1,Eh2,Eh3⟩:=hE'
 refine ⟨Ec0,Eh0.seg,Ec1,Eh1.seg,Ec2,Eh2.seg,Ec3,Eh3.seg,rfl,?_⟩
 clear Eh0 Eh1 Eh2 Eh3
 replace hX:=hX.up u15
 replace hY:=hY.up u15
 replace hP:=hP.up u15
 replace Ph0:=Ph0.up u15
 replace Ph1:=Ph1.up u15
 replace Ph2:=Ph2.up u15
 replace Ph3:=Ph3.up u15
 replace hQ:=hQ.up u15
 replace Qh0:=Qh0.up u15
 replace hD:=hD.up u15
 replace C:=fun k' u=>C k' (u15.trans u)
 clear u15
 refine isSurd_s hD (by decide) (by decide) hE (by decide)  fun k16 u16=>⟨_,rfl,fun h=>(nomatch h),fun _=>?_⟩
 clear hD hE
 replace hX:=hX.up u16
 replace hY:=hY.up u16
 replace hP:=hP.up u16
 replace Ph0:=Ph0.up u16
 replace Ph1:=Ph1.up u16
 replace Ph2:=Ph2.up u16
 replace Ph3:=Ph3.up u16
 replace hQ:=hQ.up u16
 replace Qh0:=Qh0.up u16
 replace C:=fun k' u=>C k' (u16.trans u)
 clear u16
 refine SMul_s hX hY (by decide) (by decide)  fun k17 d17 u17 hD=>⟨d17,hD.seg,rfl,?_⟩
 replace hX:=hX.up u17
 replace hY:=hY.up u17
 replace hP:=hP.up u17
 replace Ph0:=Ph0.up u17
 replace Ph1:=Ph1.up u17
 replace Ph2:=Ph2.up u17
 replace Ph3:=Ph3.up u17
 replace hQ:=hQ.up u17
 replace Qh0:=Qh0.up u17
 replace C:=fun k' u=>C k' (u17.trans u)
 clear u17
 refine smul_v hP hQ (by decide)  fun k18 d18 u18 hE=>?_
 have hE':=hE
 obtain ⟨Ec0,Ec1,Ec2,Ec3,rfl,Eh0,Eh1,Eh2,Eh3⟩:=hE'
 refine ⟨Ec0,Eh0.seg,Ec1,Eh1.seg,Ec2,Eh2.seg,Ec3,Eh3.seg,rfl,?_⟩
 clear Eh0 Eh1 Eh2 Eh3
 replace hX:=hX.up u18
 replace hY:=hY.up u18
 replace hP:=hP.up u18
 replace Ph0:=Ph0.up u18
 replace Ph1:=Ph1.up u18
 replace Ph2:=Ph2.up u18
 replace Ph3:=Ph3.up u18
 replace hQ:=hQ.up u18
 replace Qh0:=Qh0.up u18
 replace hD:=hD.up u18
 replace C:=fun k' u=>C k' (u18.trans u)
 clear u18
 refine isSurd_s hD (by decide) (by decide) hE (by decide)  fun k19 u19=>⟨_,rfl,fun h=>(nomatch h),fun _=>?_⟩
 clear hD hE
 replace hX:=hX.up u19
 replace hY:=hY.up u19
 replace hP:=hP.up u19
 replace Ph0:=Ph0.up u19
 replace Ph1:=Ph1.up u19
 replace Ph2:=Ph2.up u19
 replace Ph3:=Ph3.up u19
 replace hQ:=hQ.up u19
 replace Qh0:=Qh0.up u19
 replace C:=fun k' u=>C k' (u19.trans u)
 clear u19
 refine Parts_s hX (by decide) (by decide) fun k20 t0 t1 t2 t3 u20 hT0 hT1 hT2 hT3=>⟨t0,hT0.seg,t1,hT1.seg,t2,hT2.seg,t3,hT3.seg,rfl,?_⟩
 replace hX:=hX.up u20
 replace hY:=hY.up u20
 replace hP:=hP.up u20
 replace Ph0:=Ph0.up u20
 replace Ph1:=Ph1.up u20
 replace Ph2:=Ph2.up u20
 replace Ph3:=Ph3.up u20
 replace hQ:=hQ.up u20
 replace Qh0:=Qh0.up u20
 replace C:=fun k' u=>C k' (u20.trans u)
 clear u20
 refine is_v hT0 (by decide) Ph0 (by decide)  fun k21 u21=>⟨_,rfl,fun h=>(nomatch h),fun _=>?_⟩
 clear hT0
 replace hX:=hX.up u21
 replace hY:=hY.up u21
 replace hP:=hP.up u21
 replace Ph0:=Ph0.up u21
 replace Ph1:=Ph1.up u21
 replace Ph2:=Ph2.up u21
 replace Ph3:=Ph3.up u21
 replace hQ:=hQ.up u21
 replace Qh0:=Qh0.up u21
 replace hT1:=hT1.up u21
 replace hT2:=hT2.up u21
 replace hT3:=hT3.up u21
 replace C:=fun k' u=>C k' (u21.trans u)
 clear u21
 refine is_v hT1 (by decide) Ph1 (by decide)  fun k22 u22=>⟨_,rfl,fun h=>(nomatch h),fun _=>?_⟩
 clear hT1
 replace hX:=hX.up u22
 replace hY:=hY.up u22
 replace hP:=hP.up u22
 replace Ph0:=Ph0.up u22
 replace Ph1:=Ph1.up u22
 replace Ph2:=Ph2.up u22
 replace Ph3:=Ph3.up u22
 replace hQ:=hQ.up u22
 replace Qh0:=Qh0.up u22
 replace hT2:=hT2.up u22
 replace hT3:=hT3.up u22
 replace C:=fun k' u=>C k' (u22.trans u)
 clear u22
 refine is_v hT2 (by decide) Ph2 (by decide)  fun k23 u23=>⟨_,rfl,fun h=>(nomatch h),fun _=>?_⟩
 clear hT2
 replace hX:=hX.up u23
 replace hY:=hY.up u23
 replace hP:=hP.up u23
 replace Ph0:=Ph0.up u23
 replace Ph1:=Ph1.up u23
 replace Ph2:=Ph2.up u23
 replace Ph3:=Ph3.up u23
 replace hQ:=hQ.up u23
 replace Qh0:=Qh0.up u23
 replace hT3:=hT3.up u23
 replace C:=fun k' u=>C k' (u23.trans u)
 clear u23
 refine is_v hT3 (by decide) Ph3 (by decide)  fun k24 u24=>⟨_,rfl,fun h=>(nomatch h),fun _=>?_⟩
 clear hT3
 replace hX:=hX.up u24
 replace hY:=hY.up u24
 replace hP:=hP.up u24
 replace Ph0:=Ph0.up u24
 replace Ph1:=Ph1.up u24
 replace Ph2:=Ph2.up u24
 replace Ph3:=Ph3.up u24
 replace hQ:=hQ.up u24
 replace Qh0:=Qh0.up u24
 replace C:=fun k' u=>C k' (u24.trans u)
 clear u24
 refine Rational_s hX (by decide)  fun k25 d25 u25 hF=>⟨d25,hF.seg,_,rfl,?_⟩
 replace hX:=hX.up u25
 replace hY:=hY.up u25
 replace hP:=hP.up u25
 replace Ph0:=Ph0.up u25
 replace Ph1:=Ph1.up u25
 replace Ph2:=Ph2.up u25
 replace Ph3:=Ph3.up u25
 replace hQ:=hQ.up u25
 replace Qh0:=Qh0.up u25
 replace C:=fun k' u=>C k' (u25.trans u)
 clear u25
 have hirr : irr x = (decide (x.b = 0) && (decide (x.c = 0) && decide (x.d = 0))):=rfl
 generalize irr x = ir at hF hirr ⊢
 refine zero_v Ph1 fun k26 u26=>⟨_,rfl,fun z1=>?_,fun z1=>⟨fun h=>?_,fun _=>?_⟩⟩
 ·rw [z1] at hirr
  replace hX:=hX.up u26
  replace hY:=hY.up u26
  replace hP:=hP.up u26
  replace Ph0:=Ph0.up u26
  replace Ph2:=Ph2.up u26
  replace Ph3:=Ph3.up u26
  replace hQ:=hQ.up u26
  replace Qh0:=Qh0.up u26
  replace hF:=hF.up u26
  replace C:=fun k' u=>C k' (u26.trans u)
  clear u26
  refine zero_v Ph2 fun k27 u27=>⟨_,rfl,fun z2=>?_,fun z2=>⟨fun h=>?_,fun _=>?_⟩⟩
  ·rw [z2] at hirr
   replace hX:=hX.up u27
   replace hY:=hY.up u27
   replace hP:=hP.up u27
   replace Ph0:=Ph0.up u27
   replace Ph3:=Ph3.up u27
   replace hQ:=hQ.up u27
   replace Qh0:=Qh0.up u27
   replace hF:=hF.up u27
   replace C:=fun k' u=>C k' (u27.trans u)
   clear u27
   refine zero_v Ph3 fun k28 u28=>⟨_,rfl,fun h=>?_,fun _=>⟨fun z3=>?_,fun z3=>⟨fun _=>?_,fun h=>?_⟩⟩⟩
   ·rw [hirr] at h; simp at h
   ·rw [z3] at hirr
    subst hirr
    replace hX:=hX.up u28
    replace hY:=hY.up u28
    replace hP:=hP.up u28
    replace Ph0:=Ph0.up u28
    replace hQ:=hQ.up u28
    replace Qh0:=Qh0.up u28
    replace hF:=hF.up u28
    replace C:=fun k' u=>C k' (u28.trans u)
    clear u28
    refine is_v hF (by decide) Ph0 (by decide) fun k29 u29=>⟨_,rfl,fun h=>(nomatch h),fun _=>⟨fun h=>?_,fun _=>?_⟩⟩
    ·rw [z3] at h; exact absurd h (by decide)
    ·skip
     replace hX:=hX.up u29
     replace hY:=hY.up u29
     replace hP:=hP.up u29
     replace hQ:=hQ.up u29
     replace Qh0:=Qh0.up u29
     replace hF:=hF.up u29
     replace C:=fun k' u=>C k' (u29.trans u)
     clear u29
     refine Of_s hr0 hr1 fun k46 d46 u46 hD=>⟨d46,hD.seg,rfl,?_⟩
     replace hX:=hX.up u46
     replace hY:=hY.up u46
     replace hP:=hP.up u46
     replace hQ:=hQ.up u46
     replace Qh0:=Qh0.up u46
     replace hF:=hF.up u46
     replace C:=fun k' u=>C k' (u46.trans u)
     clear u46
     refine SOf_s hX hD fun k47 d47 u47 hE=>⟨d47,hE.seg,rfl,?_⟩
     clear hD
     replace hX:=hX.up u47
     replace hY:=hY.up u47
     replace hP:=hP.up u47
     replace hQ:=hQ.up u47
     replace Qh0:=Qh0.up u47
     replace hF:=hF.up u47
     replace C:=fun k' u=>C k' (u47.trans u)
     clear u47
     refine real_v Qh0 (by decide)  fun k48 d48 u48 hG=>?_
     have hG':=hG
     obtain ⟨Gc0,Gc1,Gc2,Gc3,rfl,Gh0,Gh1,Gh2,Gh3⟩:=hG'
     refine ⟨Gc0,Gh0.seg,Gc1,Gh1.seg,Gc2,Gh2.seg,Gc3,Gh3.seg,rfl,?_⟩
     clear Gh0 Gh1 Gh2 Gh3
     replace hX:=hX.up u48
     replace hY:=hY.up u48
     replace hP:=hP.up u48
     replace hQ:=hQ.up u48
     replace Qh0:=Qh0.up u48
     replace hF:=hF.up u48
     replace hE:=hE.up u48
     replace C:=fun k' u=>C k' (u48.trans u)
     clear u48
     rw [ez] at hE
     refine isSurd_s hE (by decide) (by decide) hG (by decide)  fun k49 u49=>⟨_,rfl,fun h=>(nomatch h),fun _=>?_⟩
     clear hE hG
     replace hX:=hX.up u49
     replace hY:=hY.up u49
     replace hP:=hP.up u49
     replace hQ:=hQ.up u49
     replace Qh0:=Qh0.up u49
     replace hF:=hF.up u49
     replace C:=fun k' u=>C k' (u49.trans u)
     clear u49
     refine SNeg_s hX (by decide)  fun k50 d50 u50 hD=>⟨d50,hD.seg,rfl,?_⟩
     replace hX:=hX.up u50
     replace hY:=hY.up u50
     replace hP:=hP.up u50
     replace hQ:=hQ.up u50
     replace Qh0:=Qh0.up u50
     replace hF:=hF.up u50
     replace C:=fun k' u=>C k' (u50.trans u)
     clear u50
     refine sneg_v hP (by decide)  fun k51 d51 u51 hE=>?_
     have hE':=hE
     obtain ⟨Ec0,Ec1,Ec2,Ec3,rfl,Eh0,Eh1,Eh2,Eh3⟩:=hE'
     refine ⟨Ec0,Eh0.seg,Ec1,Eh1.seg,Ec2,Eh2.seg,Ec3,Eh3.seg,rfl,?_⟩
     clear Eh0 Eh1 Eh2 Eh3
     replace hX:=hX.up u51
     replace hY:=hY.up u51
     replace hP:=hP.up u51
     replace hQ:=hQ.up u51
     replace Qh0:=Qh0.up u51
     replace hF:=hF.up u51
     replace hD:=hD.up u51
     replace C:=fun k' u=>C k' (u51.trans u)
     clear u51
     refine isSurd_s hD (by decide) (by decide) hE (by decide)  fun k52 u52=>⟨_,rfl,fun _=>?_,fun h=>(nomatch h)⟩
     clear hD hE
     replace hX:=hX.up u52
     replace hY:=hY.up u52
     replace hP:=hP.up u52
     replace hQ:=hQ.up u52
     replace Qh0:=Qh0.up u52
     replace hF:=hF.up u52
     replace C:=fun k' u=>C k' (u52.trans u)
     clear u52
     refine SConj_s hX fun k53 d53 u53 hD=>⟨d53,hD.seg,rfl,?_⟩
     replace hX:=hX.up u53
     replace hY:=hY.up u53
     replace hP:=hP.up u53
     replace hQ:=hQ.up u53
     replace Qh0:=Qh0.up u53
     replace hF:=hF.up u53
     replace C:=fun k' u=>C k' (u53.trans u)
     clear u53
     refine isSurd_s hD (by decide) (by decide) hP (by decide)  fun k54 u54=>⟨_,rfl,fun _=>?_,fun h=>(nomatch h)⟩
     clear hD
     replace hX:=hX.up u54
     replace hY:=hY.up u54
     replace hP:=hP.up u54
     replace hQ:=hQ.up u54
     replace Qh0:=Qh0.up u54
     replace hF:=hF.up u54
     replace C:=fun k' u=>C k' (u54.trans u)
     clear u54
     refine SCmp_s hX hY (by decide) (by decide)  fun k55 u55=>⟨_,rfl,?_⟩
     replace hX:=hX.up u55
     replace hY:=hY.up u55
     replace hP:=hP.up u55
     replace hQ:=hQ.up u55
     replace Qh0:=Qh0.up u55
     replace hF:=hF.up u55
     replace C:=fun k' u=>C k' (u55.trans u)
     clear u55
     refine scmp_v hP hQ (by decide)  fun k56 u56=>⟨_,rfl,fun _=>?_,fun h=>by simp at h⟩
     replace hX:=hX.up u56
     replace hY:=hY.up u56
     replace hP:=hP.up u56
     replace hQ:=hQ.up u56
     replace Qh0:=Qh0.up u56
     replace hF:=hF.up u56
     replace C:=fun k' u=>C k' (u56.trans u)
     clear u56
     refine SSame_d hX hY (by decide) (by decide)  fun k57 u57=>⟨_,rfl,?_⟩
     replace hX:=hX.up u57
     replace hY:=hY.up u57
     replace hP:=hP.up u57
     replace hQ:=hQ.up u57
     replace Qh0:=Qh0.up u57
     replace hF:=hF.up u57
     replace C:=fun k' u=>C k' (u57.trans u)
     clear u57
     refine ssame_v hP hQ (by decide)  fun k58 u58=>⟨_,rfl,fun _=>?_,fun h=>by simp at h⟩
     replace hX:=hX.up u58
     replace hY:=hY.up u58
     replace hP:=hP.up u58
     replace hQ:=hQ.up u58
     replace Qh0:=Qh0.up u58
     replace hF:=hF.up u58
     replace C:=fun k' u=>C k' (u58.trans u)
     clear u58
     refine SZero_d hX (by decide)  fun k59 u59=>⟨_,rfl,?_⟩
     replace hX:=hX.up u59
     replace hY:=hY.up u59
     replace hP:=hP.up u59
     replace hQ:=hQ.up u59
     replace Qh0:=Qh0.up u59
     replace hF:=hF.up u59
     replace C:=fun k' u=>C k' (u59.trans u)
     clear u59
     refine szero_v hP fun k60 u60=>⟨_,rfl,fun k' u=>?_⟩
     have:=C k' (u60.trans u)
     simpa using this
   ·rw [z3] at hirr
    replace hX:=hX.up u28
    replace hY:=hY.up u28
    replace hP:=hP.up u28
    replace hQ:=hQ.up u28
    replace Qh0:=Qh0.up u28
    replace hF:=hF.up u28
    replace C:=fun k' u=>C k' (u28.trans u)
    clear u28
    subst hirr
    refine QZero_s hF (by decide) fun k30 u30=>⟨_,rfl,fun h=>by simp at h,fun _=>?_⟩
    replace hX:=hX.up u30
    replace hY:=hY.up u30
    replace hP:=hP.up u30
    replace hQ:=hQ.up u30
    replace Qh0:=Qh0.up u30
    replace hF:=hF.up u30
    replace C:=fun k' u=>C k' (u30.trans u)
    clear u30
    refine Of_s hr0 hr1 fun k46 d46 u46 hD=>⟨d46,hD.seg,rfl,?_⟩
    replace hX:=hX.up u46
    replace hY:=hY.up u46
    replace hP:=hP.up u46
    replace hQ:=hQ.up u46
    replace Qh0:=Qh0.up u46
    replace hF:=hF.up u46
    replace C:=fun k' u=>C k' (u46.trans u)
    clear u46
    refine SOf_s hX hD fun k47 d47 u47 hE=>⟨d47,hE.seg,rfl,?_⟩
    clear hD
    replace hX:=hX.up u47
    replace hY:=hY.up u47
    replace hP:=hP.up u47
    replace hQ:=hQ.up u47
    replace Qh0:=Qh0.up u47
    replace hF:=hF.up u47
    replace C:=fun k' u=>C k' (u47.trans u)
    clear u47
    refine real_v Qh0 (by decide)  fun k48 d48 u48 hG=>?_
    have hG':=hG
    obtain ⟨Gc0,Gc1,Gc2,Gc3,rfl,Gh0,Gh1,Gh2,Gh3⟩:=hG'
    refine ⟨Gc0,Gh0.seg,Gc1,Gh1.seg,Gc2,Gh2.seg,Gc3,Gh3.seg,rfl,?_⟩
    clear Gh0 Gh1 Gh2 Gh3
    replace hX:=hX.up u48
    replace hY:=hY.up u48
    replace hP:=hP.up u48
    replace hQ:=hQ.up u48
    replace Qh0:=Qh0.up u48
    replace hF:=hF.up u48
    replace hE:=hE.up u48
    replace C:=fun k' u=>C k' (u48.trans u)
    clear u48
    rw [ez] at hE
    refine isSurd_s hE (by decide) (by decide) hG (by decide)  fun k49 u49=>⟨_,rfl,fun h=>(nomatch h),fun _=>?_⟩
    clear hE hG
    replace hX:=hX.up u49
    replace hY:=hY.up u49
    replace hP:=hP.up u49
    replace hQ:=hQ.up u49
    replace Qh0:=Qh0.up u49
    replace hF:=hF.up u49
    replace C:=fun k' u=>C k' (u49.trans u)
    clear u49
    refine SNeg_s hX (by decide)  fun k50 d50 u50 hD=>⟨d50,hD.seg,rfl,?_⟩
    replace hX:=hX.up u50
    replace hY:=hY.up u50
    replace hP:=hP.up u50
    replace hQ:=hQ.up u50
    replace Qh0:=Qh0.up u50
    replace hF:=hF.up u50
    replace C:=fun k' u=>C k' (u50.trans u)
    clear u50
    refine sneg_v hP (by decide)  fun k51 d51 u51 hE=>?_
    have hE':=hE
    obtain ⟨Ec0,Ec1,Ec2,Ec3,rfl,Eh0,Eh1,Eh2,Eh3⟩:=hE'
    refine ⟨Ec0,Eh0.seg,Ec1,Eh1.seg,Ec2,Eh2.seg,Ec3,Eh3.seg,rfl,?_⟩
    clear Eh0 Eh1 Eh2 Eh3
    replace hX:=hX.up u51
    replace hY:=hY.up u51
    replace hP:=hP.up u51
    replace hQ:=hQ.up u51
    replace Qh0:=Qh0.up u51
    replace hF:=hF.up u51
    replace hD:=hD.up u51
    replace C:=fun k' u=>C k' (u51.trans u)
    clear u51
    refine isSurd_s hD (by decide) (by decide) hE (by decide)  fun k52 u52=>⟨_,rfl,fun _=>?_,fun h=>(nomatch h)⟩
    clear hD hE
    replace hX:=hX.up u52
    replace hY:=hY.up u52
    replace hP:=hP.up u52
    replace hQ:=hQ.up u52
    replace Qh0:=Qh0.up u52
    replace hF:=hF.up u52
    replace C:=fun k' u=>C k' (u52.trans u)
    clear u52
    refine SConj_s hX fun k53 d53 u53 hD=>⟨d53,hD.seg,rfl,?_⟩
    replace hX:=hX.up u53
    replace hY:=hY.up u53
    replace hP:=hP.up u53
    replace hQ:=hQ.up u53
    replace Qh0:=Qh0.up u53
    replace hF:=hF.up u53
    replace C:=fun k' u=>C k' (u53.trans u)
    clear u53
    refine isSurd_s hD (by decide) (by decide) hP (by decide)  fun k54 u54=>⟨_,rfl,fun _=>?_,fun h=>(nomatch h)⟩
    clear hD
    replace hX:=hX.up u54
    replace hY:=hY.up u54
    replace hP:=hP.up u54
    replace hQ:=hQ.up u54
    replace Qh0:=Qh0.up u54
    replace hF:=hF.up u54
    replace C:=fun k' u=>C k' (u54.trans u)
    clear u54
    refine SCmp_s hX hY (by decide) (by decide)  fun k55 u55=>⟨_,rfl,?_⟩
    replace hX:=hX.up u55
    replace hY:=hY.up u55
    replace hP:=hP.up u55
    replace hQ:=hQ.up u55
    replace Qh0:=Qh0.up u55
    replace hF:=hF.up u55
    replace C:=fun k' u=>C k' (u55.trans u)
    clear u55
    refine scmp_v hP hQ (by decide)  fun k56 u56=>⟨_,rfl,fun _=>?_,fun h=>by simp at h⟩
    replace hX:=hX.up u56
    replace hY:=hY.up u56
    replace hP:=hP.up u56
    replace hQ:=hQ.up u56
    replace Qh0:=Qh0.up u56
    replace hF:=hF.up u56
    replace C:=fun k' u=>C k' (u56.trans u)
    clear u56
    refine SSame_d hX hY (by decide) (by decide)  fun k57 u57=>⟨_,rfl,?_⟩
    replace hX:=hX.up u57
    replace hY:=hY.up u57
    replace hP:=hP.up u57
    replace hQ:=hQ.up u57
    replace Qh0:=Qh0.up u57
    replace hF:=hF.up u57
    replace C:=fun k' u=>C k' (u57.trans u)
    clear u57
    refine ssame_v hP hQ (by decide)  fun k58 u58=>⟨_,rfl,fun _=>?_,fun h=>by simp at h⟩
    replace hX:=hX.up u58
    replace hY:=hY.up u58
    replace hP:=hP.up u58
    replace hQ:=hQ.up u58
    replace Qh0:=Qh0.up u58
    replace hF:=hF.up u58
    replace C:=fun k' u=>C k' (u58.trans u)
    clear u58
    refine SZero_d hX (by decide)  fun k59 u59=>⟨_,rfl,?_⟩
    replace hX:=hX.up u59
    replace hY:=hY.up u59
    replace hP:=hP.up u59
    replace hQ:=hQ.up u59
    replace Qh0:=Qh0.up u59
    replace hF:=hF.up u59
    replace C:=fun k' u=>C k' (u59.trans u)
    clear u59
    refine szero_v hP fun k60 u60=>⟨_,rfl,fun k' u=>?_⟩
    have:=C k' (u60.trans u)
    simpa using this
   ·rw [z3] at h; exact absurd h (by decide)
  ·rw [z2] at hirr; rw [hirr] at h; simp at h
  ·rw [z2] at hirr
   replace hX:=hX.up u27
   replace hY:=hY.up u27
   replace hP:=hP.up u27
   replace hQ:=hQ.up u27
   replace Qh0:=Qh0.up u27
   replace hF:=hF.up u27
   replace C:=fun k' u=>C k' (u27.trans u)
   clear u27
   subst hirr
   refine QZero_s hF (by decide) fun k30 u30=>⟨_,rfl,fun h=>by simp at h,fun _=>?_⟩
   replace hX:=hX.up u30
   replace hY:=hY.up u30
   replace hP:=hP.up u30
   replace hQ:=hQ.up u30
   replace Qh0:=Qh0.up u30
   replace hF:=hF.up u30
   replace C:=fun k' u=>C k' (u30.trans u)
   clear u30
   refine Of_s hr0 hr1 fun k46 d46 u46 hD=>⟨d46,hD.seg,rfl,?_⟩
   replace hX:=hX.up u46
   replace hY:=hY.up u46
   replace hP:=hP.up u46
   replace hQ:=hQ.up u46
   replace Qh0:=Qh0.up u46
   replace hF:=hF.up u46
   replace C:=fun k' u=>C k' (u46.trans u)
   clear u46
   refine SOf_s hX hD fun k47 d47 u47 hE=>⟨d47,hE.seg,rfl,?_⟩
   clear hD
   replace hX:=hX.up u47
   replace hY:=hY.up u47
   replace hP:=hP.up u47
   replace hQ:=hQ.up u47
   replace Qh0:=Qh0.up u47
   replace hF:=hF.up u47
   replace C:=fun k' u=>C k' (u47.trans u)
   clear u47
   refine real_v Qh0 (by decide)  fun k48 d48 u48 hG=>?_
   have hG':=hG
   obtain ⟨Gc0,Gc1,Gc2,Gc3,rfl,Gh0,Gh1,Gh2,Gh3⟩:=hG'
   refine ⟨Gc0,Gh0.seg,Gc1,Gh1.seg,Gc2,Gh2.seg,Gc3,Gh3.seg,rfl,?_⟩
   clear Gh0 Gh1 Gh2 Gh3
   replace hX:=hX.up u48
   replace hY:=hY.up u48
   replace hP:=hP.up u48
   replace hQ:=hQ.up u48
   replace Qh0:=Qh0.up u48
   replace hF:=hF.up u48
   replace hE:=hE.up u48
   replace C:=fun k' u=>C k' (u48.trans u)
   clear u48
   rw [ez] at hE
   refine isSurd_s hE (by decide) (by decide) hG (by decide)  fun k49 u49=>⟨_,rfl,fun h=>(nomatch h),fun _=>?_⟩
   clear hE hG
   replace hX:=hX.up u49
   replace hY:=hY.up u49
   replace hP:=hP.up u49
   replace hQ:=hQ.up u49
   replace Qh0:=Qh0.up u49
   replace hF:=hF.up u49
   replace C:=fun k' u=>C k' (u49.trans u)
   clear u49
   refine SNeg_s hX (by decide)  fun k50 d50 u50 hD=>⟨d50,hD.seg,rfl,?_⟩
   replace hX:=hX.up u50
   replace hY:=hY.up u50
   replace hP:=hP.up u50
   replace hQ:=hQ.up u50
   replace Qh0:=Qh0.up u50
   replace hF:=hF.up u50
   replace C:=fun k' u=>C k' (u50.trans u)
   clear u50
   refine sneg_v hP (by decide)  fun k51 d51 u51 hE=>?_
   have hE':=hE
   obtain ⟨Ec0,Ec1,Ec2,Ec3,rfl,Eh0,Eh1,Eh2,Eh3⟩:=hE'
   refine ⟨Ec0,Eh0.seg,Ec1,Eh1.seg,Ec2,Eh2.seg,Ec3,Eh3.seg,rfl,?_⟩
   clear Eh0 Eh1 Eh2 Eh3
   replace hX:=hX.up u51
   replace hY:=hY.up u51
   replace hP:=hP.up u51
   replace hQ:=hQ.up u51
   replace Qh0:=Qh0.up u51
   replace hF:=hF.up u51
   replace hD:=hD.up u51
   replace C:=fun k' u=>C k' (u51.trans u)
   clear u51
   refine isSurd_s hD (by decide) (by decide) hE (by decide)  fun k52 u52=>⟨_,rfl,fun _=>?_,fun h=>(nomatch h)⟩
   clear hD hE
   replace hX:=hX.up u52
   replace hY:=hY.up u52
   replace hP:=hP.up u52
   replace hQ:=hQ.up u52
   replace Qh0:=Qh0.up u52
   replace hF:=hF.up u52
   replace C:=fun k' u=>C k' (u52.trans u)
   clear u52
   refine SConj_s hX fun k53 d53 u53 hD=>⟨d53,hD.seg,rfl,?_⟩
   replace hX:=hX.up u53
   replace hY:=hY.up u53
   replace hP:=hP.up u53
   replace hQ:=hQ.up u53
   replace Qh0:=Qh0.up u53
   replace hF:=hF.up u53
   replace C:=fun k' u=>C k' (u53.trans u)
   clear u53
   refine isSurd_s hD (by decide) (by decide) hP (by decide)  fun k54 u54=>⟨_,rfl,fun _=>?_,fun h=>(nomatch h)⟩
   clear hD
   replace hX:=hX.up u54
   replace hY:=hY.up u54
   replace hP:=hP.up u54
   replace hQ:=hQ.up u54
   replace Qh0:=Qh0.up u54
   replace hF:=hF.up u54
   replace C:=fun k' u=>C k' (u54.trans u)
   clear u54
   refine SCmp_s hX hY (by decide) (by decide)  fun k55 u55=>⟨_,rfl,?_⟩
   replace hX:=hX.up u55
   replace hY:=hY.up u55
   replace hP:=hP.up u55
   replace hQ:=hQ.up u55
   replace Qh0:=Qh0.up u55
   replace hF:=hF.up u55
   replace C:=fun k' u=>C k' (u55.trans u)
   clear u55
   refine scmp_v hP hQ (by decide)  fun k56 u56=>⟨_,rfl,fun _=>?_,fun h=>by simp at h⟩
   replace hX:=hX.up u56
   replace hY:=hY.up u56
   replace hP:=hP.up u56
   replace hQ:=hQ.up u56
   replace Qh0:=Qh0.up u56
   replace hF:=hF.up u56
   replace C:=fun k' u=>C k' (u56.trans u)
   clear u56
   refine SSame_d hX hY (by decide) (by decide)  fun k57 u57=>⟨_,rfl,?_⟩
   replace hX:=hX.up u57
   replace hY:=hY.up u57
   replace hP:=hP.up u57
   replace hQ:=hQ.up u57
   replace Qh0:=Qh0.up u57
   replace hF:=hF.up u57
   replace C:=fun k' u=>C k' (u57.trans u)
   clear u57
   refine ssame_v hP hQ (by decide)  fun k58 u58=>⟨_,rfl,fun _=>?_,fun h=>by simp at h⟩
   replace hX:=hX.up u58
   replace hY:=hY.up u58
   replace hP:=hP.up u58
   replace hQ:=hQ.up u58
   replace Qh0:=Qh0.up u58
   replace hF:=hF.up u58
   replace C:=fun k' u=>C k' (u58.trans u)
   clear u58
   refine SZero_d hX (by decide)  fun k59 u59=>⟨_,rfl,?_⟩
   replace hX:=hX.up u59
   replace hY:=hY.up u59
   replace hP:=hP.up u59
   replace hQ:=hQ.up u59
   replace Qh0:=Qh0.up u59
   replace hF:=hF.up u59
   replace C:=fun k' u=>C k' (u59.trans u)
   clear u59
   refine szero_v hP fun k60 u60=>⟨_,rfl,fun k' u=>?_⟩
   have:=C k' (u60.trans u)
   simpa using this
 ·rw [z1] at hirr; rw [hirr] at h; simp at h
 ·rw [z1] at hirr
  replace hX:=hX.up u26
  replace hY:=hY.up u26
  replace hP:=hP.up u26
  replace hQ:=hQ.up u26
  replace Qh0:=Qh0.up u26
  replace hF:=hF.up u26
  replace C:=fun k' u=>C k' (u26.trans u)
  clear u26
  subst hirr
  refine QZero_s hF (by decide) fun k30 u30=>⟨_,rfl,fun h=>by simp at h,fun _=>?_⟩
  replace hX:=hX.up u30
  replace hY:=hY.up u30
  replace hP:=hP.up u30
  replace hQ:=hQ.up u30
  replace Qh0:=Qh0.up u30
  replace C:=fun k' u=>C k' (u30.trans u)
  clear u30
  refine Of_s hr0 hr1 fun k46 d46 u46 hD=>⟨d46,hD.seg,rfl,?_⟩
  replace hX:=hX.up u46
  replace hY:=hY.up u46
  replace hP:=hP.up u46
  replace hQ:=hQ.up u46
  replace Qh0:=Qh0.up u46
  replace C:=fun k' u=>C k' (u46.trans u)
  clear u46
  refine SOf_s hX hD fun k47 d47 u47 hE=>⟨d47,hE.seg,rfl,?_⟩
  clear hD
  replace hX:=hX.up u47
  replace hY:=hY.up u47
  replace hP:=hP.up u47
  replace hQ:=hQ.up u47
  replace Qh0:=Qh0.up u47
  replace C:=fun k' u=>C k' (u47.trans u)
  clear u47
  refine real_v Qh0 (by decide)  fun k48 d48 u48 hG=>?_
  have hG':=hG
  obtain ⟨Gc0,Gc1,Gc2,Gc3,rfl,Gh0,Gh1,Gh2,Gh3⟩:=hG'
  refine ⟨Gc0,Gh0.seg,Gc1,Gh1.seg,Gc2,Gh2.seg,Gc3,Gh3.seg,rfl,?_⟩
  clear Gh0 Gh1 Gh2 Gh3
  replace hX:=hX.up u48
  replace hY:=hY.up u48
  replace hP:=hP.up u48
  replace hQ:=hQ.up u48
  replace hE:=hE.up u48
  replace C:=fun k' u=>C k' (u48.trans u)
  clear u48
  rw [ez] at hE
  refine isSurd_s hE (by decide) (by decide) hG (by decide)  fun k49 u49=>⟨_,rfl,fun h=>(nomatch h),fun _=>?_⟩
  clear hE hG
  replace hX:=hX.up u49
  replace hY:=hY.up u49
  replace hP:=hP.up u49
  replace hQ:=hQ.up u49
  replace C:=fun k' u=>C k' (u49.trans u)
  clear u49
  refine SNeg_s hX (by decide)  fun k50 d50 u50 hD=>⟨d50,hD.seg,rfl,?_⟩
  replace hX:=hX.up u50
  replace hY:=hY.up u50
  replace hP:=hP.up u50
  replace hQ:=hQ.up u50
  replace C:=fun k' u=>C k' (u50.trans u)
  clear u50
  refine sneg_v hP (by decide)  fun k51 d51 u51 hE=>?_
  have hE':=hE
  obtain ⟨Ec0,Ec1,Ec2,Ec3,rfl,Eh0,Eh1,Eh2,Eh3⟩:=hE'
  refine ⟨Ec0,Eh0.seg,Ec1,Eh1.seg,Ec2,Eh2.seg,Ec3,Eh3.seg,rfl,?_⟩
  clear Eh0 Eh1 Eh2 Eh3
  replace hX:=hX.up u51
  replace hY:=hY.up u51
  replace hP:=hP.up u51
  replace hQ:=hQ.up u51
  replace hD:=hD.up u51
  replace C:=fun k' u=>C k' (u51.trans u)
  clear u51
  refine isSurd_s hD (by decide) (by decide) hE (by decide)  fun k52 u52=>⟨_,rfl,fun _=>?_,fun h=>(nomatch h)⟩
  clear hD hE
  replace hX:=hX.up u52
  replace hY:=hY.up u52
  replace hP:=hP.up u52
  replace hQ:=hQ.up u52
  replace C:=fun k' u=>C k' (u52.trans u)
  clear u52
  refine SConj_s hX fun k53 d53 u53 hD=>⟨d53,hD.seg,rfl,?_⟩
  replace hX:=hX.up u53
  replace hY:=hY.up u53
  replace hP:=hP.up u53
  replace hQ:=hQ.up u53
  replace C:=fun k' u=>C k' (u53.trans u)
  clear u53
  refine isSurd_s hD (by decide) (by decide) hP (by decide)  fun k54 u54=>⟨_,rfl,fun _=>?_,fun h=>(nomatch h)⟩
  clear hD
  replace hX:=hX.up u54
  replace hY:=hY.up u54
  replace hP:=hP.up u54
  replace hQ:=hQ.up u54
  replace C:=fun k' u=>C k' (u54.trans u)
  clear u54
  refine SCmp_s hX hY (by decide) (by decide)  fun k55 u55=>⟨_,rfl,?_⟩
  replace hX:=hX.up u55
  replace hY:=hY.up u55
  replace hP:=hP.up u55
  replace hQ:=hQ.up u55
  replace C:=fun k' u=>C k' (u55.trans u)
  clear u55
  refine scmp_v hP hQ (by decide)  fun k56 u56=>⟨_,rfl,fun _=>?_,fun h=>by simp at h⟩
  replace hX:=hX.up u56
  replace hY:=hY.up u56
  replace hP:=hP.up u56
  replace hQ:=hQ.up u56
  replace C:=fun k' u=>C k' (u56.trans u)
  clear u56
  refine SSame_d hX hY (by decide) (by decide)  fun k57 u57=>⟨_,rfl,?_⟩
  replace hX:=hX.up u57
  replace hP:=hP.up u57
  replace hQ:=hQ.up u57
  replace C:=fun k' u=>C k' (u57.trans u)
  clear u57
  refine ssame_v hP hQ (by decide)  fun k58 u58=>⟨_,rfl,fun _=>?_,fun h=>by simp at h⟩
  replace hX:=hX.up u58
  replace hP:=hP.up u58
  replace C:=fun k' u=>C k' (u58.trans u)
  clear u58
  refine SZero_d hX (by decide)  fun k59 u59=>⟨_,rfl,?_⟩
  replace hP:=hP.up u59
  replace C:=fun k' u=>C k' (u59.trans u)
  clear u59
  refine szero_v hP fun k60 u60=>⟨_,rfl,fun k' u=>?_⟩
  have:=C k' (u60.trans u)
  simpa using this
end
end Go.Proofs.YtpjakokgmgggiaaGreat

