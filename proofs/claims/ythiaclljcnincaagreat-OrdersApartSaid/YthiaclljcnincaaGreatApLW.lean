/- Several texts in one. (Printed by prep.py.) -/
import Derived.Test.YthiaclljcnincaaGreatApVRS
namespace Go.Proofs.YthiaclljcnincaaGreat
open Num Plain
structure W4 where
 (re im:Q4)
theorem W4.ext' {x y:W4}(h1:x.re=y.re) (h2:x.im=y.im):x=y:=by cases x;cases y;simp_all
instance:DecidableEq Q4:=fun x y=>decidable_of_iff (x.a=y.a∧x.b=y.b∧x.c=y.c∧x.d=y.d)
 ⟨fun ⟨h1,h2,h3,h4⟩=>Q4.ext' h1 h2 h3 h4,fun h=>by rw [h];exact⟨rfl,rfl,rfl,rfl⟩⟩
instance:DecidableEq W4:=fun x y=>decidable_of_iff (x.re=y.re∧x.im=y.im)
 ⟨fun ⟨h1,h2⟩=>W4.ext' h1 h2,fun h=>by rw [h];exact⟨rfl,rfl⟩⟩
def W4.add (x y:W4):W4:=⟨x.re.add y.re,x.im.add y.im⟩
def W4.sub (x y:W4):W4:=⟨x.re.sub y.re,x.im.sub y.im⟩
def W4.mul (x y:W4):W4:=⟨(x.re.mul y.re).sub (x.im.mul y.im),(x.re.mul y.im).add (x.im.mul y.re)⟩
def W4.neg (x:W4):W4:=⟨x.re.neg,x.im.neg⟩
def W4.conj (x:W4):W4:=⟨x.re,x.im.neg⟩
def W4.norm (x:W4):Q4:=(x.re.mul x.re).add (x.im.mul x.im)
def W4.zero:W4:=⟨Q4.zero,Q4.zero⟩
def W4.real (q:Rat):W4:=⟨Q4.real q,Q4.zero⟩
theorem Q4.sub_zero_iff {x y:Q4}:x.sub y=Q4.zero↔x=y:=by
 constructor
 ·intro h;have ha:=congrArg Q4.a h;have hb:=congrArg Q4.b h;have hc:=congrArg Q4.c h;have hd:=congrArg Q4.d h;simp only [Q4.sub,Q4.add,Q4.neg,Q4.zero]at ha hb hc hd;exact Q4.ext' (by grind) (by grind) (by grind) (by grind)
 ·intro h;subst h;simp only [Q4.sub,Q4.add,Q4.neg,Q4.zero];exact Q4.ext' (by grind) (by grind) (by grind) (by grind)
def aZz:Nat→Q4
 | 0=>⟨1,0,0,0⟩
 | 1=>⟨0,1/4,0,1/4⟩
 | 2=>⟨0,0,1/2,0⟩
 | 3=>⟨0,1/2,0,0⟩
 | 4=>⟨1/2,0,0,0⟩
 | 5=>⟨0,-1/4,0,1/4⟩
 | _=>⟨0,0,0,0⟩
def bAa (m:Nat):Q4:=if 6<m then (aZz (12-m)).neg else aZz m
def cH (n:Nat):Q4:=if 12<n then bAa (24-n) else bAa n
def iV (n:Nat):W4:=⟨cH n,cH ((n+18) % 24)⟩
def plc (k:Int):Nat:=(k % 24).toNat
theorem aOf (k:Int):plc k<24:=by unfold plc;omega
def bBi (k:Nat):Nat→W4
 | 0=>W4.zero
 | j+1=>(bBi k j).add (iV (j*k % 24))
def q4s (q:Rat):Bool:=(4*q).den == 1 && decide ((4*q).num.natAbs≤1000)
def Q4.small (v:Q4):Bool:=q4s v.a && q4s v.b && q4s v.c && q4s v.d
def W4.small (v:W4):Bool:=v.re.small && v.im.small
def Q4.t1 (y:Q4):Q4:=⟨y.a,-y.b,y.c,-y.d⟩
def Q4.t2 (y:Q4):Q4:=⟨y.a,y.b,-y.c,-y.d⟩
def Q4.cnj (y:Q4):Q4:=(y.t1.mul y.t2).mul y.t1.t2
def Q4.div (x y:Q4):Q4:=⟨(x.mul y.cnj).a/(y.mul y.cnj).a,(x.mul y.cnj).b/(y.mul y.cnj).a,(x.mul y.cnj).c/(y.mul y.cnj).a,(x.mul y.cnj).d/(y.mul y.cnj).a⟩
theorem Q4.cnj_norm (y:Q4):(y.mul y.cnj).b=0∧(y.mul y.cnj).c=0∧(y.mul y.cnj).d=0:=by
 obtain⟨a,b,c,d⟩:=y;simp only [Q4.cnj,Q4.mul,Q4.t1,Q4.t2];refine⟨?_,?_,?_⟩ <;> grind
theorem Q4.t1_ne {y:Q4}(h:y≠Q4.zero):y.t1≠Q4.zero:=fun e=>h (by
 have ha:=congrArg Q4.a e;have hb:=congrArg Q4.b e;have hc:=congrArg Q4.c e;have hd:=congrArg Q4.d e;simp only [Q4.t1,Q4.zero]at ha hb hc hd
 exact Q4.ext' ha (by show y.b=0;grind) hc (by show y.d=0;grind))
theorem Q4.t2_ne {y:Q4}(h:y≠Q4.zero):y.t2≠Q4.zero:=fun e=>h (by
 have ha:=congrArg Q4.a e;have hb:=congrArg Q4.b e;have hc:=congrArg Q4.c e;have hd:=congrArg Q4.d e;simp only [Q4.t2,Q4.zero]at ha hb hc hd
 exact Q4.ext' ha hb (by show y.c=0;grind) (by show y.d=0;grind))
theorem Q4.norm_ne {y:Q4}(h:y≠Q4.zero):(y.mul y.cnj).a≠0:=by
 intro ha;obtain⟨hb,hc,hd⟩:=Q4.cnj_norm y;have e:y.mul y.cnj=Q4.zero:=Q4.ext' ha hb hc hd;have e2:y.toQ*((y.t1.toQ*y.t2.toQ)*y.t1.t2.toQ)=0:=by
  rw [←bA,←bA,←bA];exact (congrArg Q4.toQ e).trans toQ_zero
 exact C.gN (qE.2 h) (C.gN (C.gN (qE.2 (Q4.t1_ne h)) (qE.2 (Q4.t2_ne h))) (qE.2 (Q4.t2_ne (Q4.t1_ne h)))) e2
theorem Q4.div_mul {x y:Q4}(h:y≠Q4.zero):(x.div y).toQ*y.toQ=x.toQ:=by
 have hn:=Q4.norm_ne h;obtain⟨hb,hc,hd⟩:=Q4.cnj_norm y;have e2:y.toQ*y.cnj.toQ=em (y.mul y.cnj).a:=by
  rw [←bA];show e4 _ _ _ _=e4 _ 0 0 0;rw [hb,hc,hd]
 have e1:(x.div y).toQ=(x.toQ*y.cnj.toQ)*em (1/(y.mul y.cnj).a):=by
  rw [←bA];show e4 _ _ _ _=e4 _ _ _ _*_;rw [aFb];simp only [xd,Rat.one_mul];rfl
 have e3:em (y.mul y.cnj).a*em (1/(y.mul y.cnj).a)=1:=by
  rw [wZ,xd,Rat.one_mul,Rat.mul_inv_cancel _ hn,aXz]
 rw [e1];generalize em (1/(y.mul y.cnj).a)=r at e3 ⊢;rw [←e2]at e3;generalize x.toQ=a at e3 ⊢;generalize y.toQ=b at e3 ⊢;generalize y.cnj.toQ=c at e3 ⊢;have e4:(a*c*r)*b=a*(b*c*r):=by
  (refine Q23.ext' (Q2.ext' ?_ ?_) (Q2.ext' ?_ ?_) <;> (simp only [Q23.mul_re,Q23.mul_im,Q2.add_re,Q2.add_im,Q2.mul_re,Q2.mul_im,Q2.three_re,Q2.three_im];grind))
 rw [e4,e3]
 (refine Q23.ext' (Q2.ext' ?_ ?_) (Q2.ext' ?_ ?_) <;> (simp only [Q23.mul_re,Q23.mul_im,Q23.one_re,Q23.one_im,Q2.add_re,Q2.add_im,Q2.mul_re,Q2.mul_im,Q2.one_re,Q2.one_im,Q2.zero_re,Q2.zero_im,Q2.three_re,Q2.three_im];grind))
theorem Q4.div_uniq {x y q:Q4}(h:y≠Q4.zero) (hq:q.toQ*y.toQ=x.toQ):q=x.div y:=by
 have e:=Q4.div_mul (x:=x) h;apply cL;have e1:(q.sub (x.div y)).toQ*y.toQ=0:=by
  rw [gW];have:(q.toQ-(x.div y).toQ)*y.toQ=q.toQ*y.toQ-(x.div y).toQ*y.toQ:=by
   generalize q.toQ=a;generalize (x.div y).toQ=b;generalize y.toQ=c
   (refine Q23.ext' (Q2.ext' ?_ ?_) (Q2.ext' ?_ ?_) <;> (simp only [Q23.mul_re,Q23.mul_im,Q23.sub_re,Q23.sub_im,Q2.add_re,Q2.add_im,Q2.mul_re,Q2.mul_im,Q2.sub_re,Q2.sub_im,Q2.three_re,Q2.three_im];grind))
  rw [this,hq,e];generalize x.toQ=a
  (refine Q23.ext' (Q2.ext' ?_ ?_) (Q2.ext' ?_ ?_) <;> (simp only [Q23.sub_re,Q23.sub_im,Q23.zero_re,Q23.zero_im,Q2.sub_re,Q2.sub_im,Q2.zero_re,Q2.zero_im];grind))
 have e2:q.sub (x.div y)=Q4.zero:=xv fun hn=>C.gN (qE.2 hn) (qE.2 h) e1;rw [Q4.sub_zero_iff.1 e2]
theorem Q4.div_zero (x:Q4):x.div Q4.zero=Q4.zero:=by
 have h:(Q4.zero.mul Q4.zero.cnj).a=0:=by simp only [Q4.cnj,Q4.mul,Q4.zero,Q4.t1,Q4.t2];grind
 unfold Q4.div;rw [h];refine Q4.ext' ?_ ?_ ?_ ?_ <;> (show _/(0:Rat)=0;rw [xd];simp)
theorem Q4.zero_iff (v:Q4):decide (v=Q4.zero)=(decide (v.a=0) && decide (v.b=0) && decide (v.c=0) && decide (v.d=0)):=by
 rw [vw];simp only [qf,decide_eq_true_iff];constructor
 ·intro h;subst h;exact⟨⟨⟨rfl,rfl⟩,rfl⟩,rfl⟩
 ·intro ⟨⟨⟨h1,h2⟩,h3⟩,h4⟩;exact Q4.ext' h1 h2 h3 h4
def W4.div (x y:W4):W4:=⟨(x.mul y.conj).re.div y.norm,(x.mul y.conj).im.div y.norm⟩
theorem W4.div_zero (x:W4):x.div W4.zero=W4.zero:=by
 have h:W4.zero.norm=Q4.zero:=by
  simp only [W4.norm,W4.zero,Q4.mul,Q4.add,Q4.zero];refine Q4.ext' ?_ ?_ ?_ ?_ <;> grind
 unfold W4.div;rw [h,Q4.div_zero,Q4.div_zero];rfl
theorem W4.zero_iff (v:W4):decide (v=W4.zero)=(decide (v.re=Q4.zero) && decide (v.im=Q4.zero)):=by
 rw [vw];simp only [qf,decide_eq_true_iff];constructor
 ·intro h;subst h;exact⟨rfl,rfl⟩
 ·intro ⟨h1,h2⟩;exact W4.ext' h1 h2
open Go.RowKit
open Value (agg slice int bool tuple)
open Sy (Up Sees CallsG Seg execFn_use)
set_option maxRecDepth 100000
variable {k:World}{R:World→Value→Prop}{cs0 cs1 cs2 cs3:Array Value}
theorem aVx (hcs0:Seg 9 cs0) (hcs1:Seg 9 cs1) (hcs2:Seg 9 cs2) (hcs3:Seg 9 cs3)
 (h:Cl k 26 #[agg cs0,agg cs2] fun k1 r0=>Gt 9 r0 fun cs4=>
 Cl k1 26 #[agg cs1,agg cs3] fun k3 r2=>Gt 9 r2 fun cs5=>
 Rt R k3 (agg (cs4.toList++(cs5.toList++([]))).toArray)) :
  CallsG Tryz.prog 47 #[agg (cs0.toList++(cs1.toList++([]))).toArray,agg (cs2.toList++(cs3.toList++([]))).toArray] k R:=
  qX { opq:=[36] } [.agg [.seg 0 9,.seg 1 9],.agg [.seg 2 9,.seg 3 9]] [agg cs0,agg cs1,agg cs2,agg cs3] [.seg 9,.seg 9,.seg 9,.seg 9] ⟨⟨cs0,rfl,hcs0⟩,⟨cs1,rfl,hcs1⟩,⟨cs2,rfl,hcs2⟩,⟨cs3,rfl,hcs3⟩,trivial⟩ h
theorem aWb (hcs0:Seg 9 cs0) (hcs1:Seg 9 cs1) (hcs2:Seg 9 cs2) (hcs3:Seg 9 cs3)
 (h:Cl k 27 #[agg cs0,agg cs2] fun k1 r0=>Gt 9 r0 fun cs4=>
 Cl k1 27 #[agg cs1,agg cs3] fun k3 r2=>Gt 9 r2 fun cs5=>
 Rt R k3 (agg (cs4.toList++(cs5.toList++([]))).toArray)) :
  CallsG Tryz.prog 174 #[agg (cs0.toList++(cs1.toList++([]))).toArray,agg (cs2.toList++(cs3.toList++([]))).toArray] k R:=
  qX { opq:=[36] } [.agg [.seg 0 9,.seg 1 9],.agg [.seg 2 9,.seg 3 9]] [agg cs0,agg cs1,agg cs2,agg cs3] [.seg 9,.seg 9,.seg 9,.seg 9] ⟨⟨cs0,rfl,hcs0⟩,⟨cs1,rfl,hcs1⟩,⟨cs2,rfl,hcs2⟩,⟨cs3,rfl,hcs3⟩,trivial⟩ h
theorem aVz (hcs0:Seg 9 cs0) (hcs1:Seg 9 cs1) (hcs2:Seg 9 cs2) (hcs3:Seg 9 cs3)
 (h:Cl k 25 #[agg cs0,agg cs2] fun k1 r0=>Gt 9 r0 fun cs4=>
 Cl k1 25 #[agg cs1,agg cs3] fun k3 r2=>Gt 9 r2 fun cs5=>
 Cl k3 27 #[agg cs4,agg cs5] fun k5 r4=>Gt 9 r4 fun cs6=>
 Cl k5 25 #[agg cs0,agg cs3] fun k7 r6=>Gt 9 r6 fun cs7=>
 Cl k7 25 #[agg cs1,agg cs2] fun k9 r8=>Gt 9 r8 fun cs8=>
 Cl k9 26 #[agg cs7,agg cs8] fun k11 r10=>Gt 9 r10 fun cs9=>
 Rt R k11 (agg (cs6.toList++(cs9.toList++([]))).toArray)) :
  CallsG Tryz.prog 170 #[agg (cs0.toList++(cs1.toList++([]))).toArray,agg (cs2.toList++(cs3.toList++([]))).toArray] k R:=
  qX { opq:=[36] } [.agg [.seg 0 9,.seg 1 9],.agg [.seg 2 9,.seg 3 9]] [agg cs0,agg cs1,agg cs2,agg cs3] [.seg 9,.seg 9,.seg 9,.seg 9] ⟨⟨cs0,rfl,hcs0⟩,⟨cs1,rfl,hcs1⟩,⟨cs2,rfl,hcs2⟩,⟨cs3,rfl,hcs3⟩,trivial⟩ h
theorem aWa (hcs0:Seg 9 cs0) (hcs1:Seg 9 cs1)
 (h:Cl k 57 #[agg cs0] fun k1 r0=>Gt 9 r0 fun cs2=>
 Cl k1 57 #[agg cs1] fun k3 r2=>Gt 9 r2 fun cs3=>
 Rt R k3 (agg (cs2.toList++(cs3.toList++([]))).toArray)) :
  CallsG Tryz.prog 172 #[agg (cs0.toList++(cs1.toList++([]))).toArray] k R:=
  qX { opq:=[36] } [.agg [.seg 0 9,.seg 1 9]] [agg cs0,agg cs1] [.seg 9,.seg 9] ⟨⟨cs0,rfl,hcs0⟩,⟨cs1,rfl,hcs1⟩,trivial⟩ h
theorem aRd (hcs0:Seg 9 cs0) (hcs1:Seg 9 cs1)
 (h:Cl k 57 #[agg cs1] fun k1 r0=>Gt 9 r0 fun cs2=>
 Rt R k1 (agg (cs0.toList++(cs2.toList++([]))).toArray)) :
  CallsG Tryz.prog 176 #[agg (cs0.toList++(cs1.toList++([]))).toArray] k R:=
  qX { opq:=[36] } [.agg [.seg 0 9,.seg 1 9]] [agg cs0,agg cs1] [.seg 9,.seg 9] ⟨⟨cs0,rfl,hcs0⟩,⟨cs1,rfl,hcs1⟩,trivial⟩ h
theorem aRf (hcs0:Seg 9 cs0) (hcs1:Seg 9 cs1)
 (h:Cl k 161 #[agg cs0] fun k1 r0=>Gb r0 fun b2=>
 Br b2 (Cl k1 161 #[agg cs1] fun k3 r2=>Gb r2 fun b3=>
 Rt R k3 (bool b3)) (Rt R k1 (bool false))) :
  CallsG Tryz.prog 175 #[agg (cs0.toList++(cs1.toList++([]))).toArray] k R:=
  qX { opq:=[36] } [.agg [.seg 0 9,.seg 1 9]] [agg cs0,agg cs1] [.seg 9,.seg 9] ⟨⟨cs0,rfl,hcs0⟩,⟨cs1,rfl,hcs1⟩,trivial⟩ h
theorem aRe (hcs0:Seg 9 cs0) (hcs1:Seg 9 cs1)
 (h:Cl k 25 #[agg cs0,agg cs0] fun k1 r0=>Gt 9 r0 fun cs2=>
 Cl k1 25 #[agg cs1,agg cs1] fun k3 r2=>Gt 9 r2 fun cs3=>
 Cl k3 26 #[agg cs2,agg cs3] fun k5 r4=>Gt 9 r4 fun cs4=>
 Rt R k5 (agg cs4)) :
  CallsG Tryz.prog 29 #[agg (cs0.toList++(cs1.toList++([]))).toArray] k R:=
  qX { opq:=[36] } [.agg [.seg 0 9,.seg 1 9]] [agg cs0,agg cs1] [.seg 9,.seg 9] ⟨⟨cs0,rfl,hcs0⟩,⟨cs1,rfl,hcs1⟩,trivial⟩ h
theorem aVy (hcs0:Seg 9 cs0) (hcs1:Seg 9 cs1) (hcs2:Seg 9 cs2) (hcs3:Seg 9 cs3)
 (h:Cl k 175 #[agg (cs2.toList++(cs3.toList++([]))).toArray] fun k1 r0=>Gb r0 fun b4=>
 Br b4 (Rt R k1 (tuple #[agg #[bool false,slice none 0 0,bool false,slice none 0 0,bool false,slice none 0 0,bool false,slice none 0 0,slice none 0 0,bool false,slice none 0 0,bool false,slice none 0 0,bool false,slice none 0 0,bool false,slice none 0 0,slice none 0 0],int .i64 3])) (Cl k1 176 #[agg (cs2.toList++(cs3.toList++([]))).toArray] fun k4 r3=>∃cs5,Seg 9 cs5∧∃cs6,Seg 9 cs6∧some (agg (cs5.toList++(cs6.toList++([]))).toArray)=some r3∧
 Cl k4 170 #[agg (cs0.toList++(cs1.toList++([]))).toArray,agg (cs5.toList++(cs6.toList++([]))).toArray] fun k6 r5=>∃cs7,Seg 9 cs7∧∃cs8,Seg 9 cs8∧some (agg (cs7.toList++(cs8.toList++([]))).toArray)=some r5∧
 Cl k6 29 #[agg (cs2.toList++(cs3.toList++([]))).toArray] fun k8 r7=>Gt 9 r7 fun cs9=>
 Cl k8 159 #[agg cs7,agg cs9] fun k10 r9=>∃cs10,Seg 9 cs10∧∃n11,some (tuple #[agg cs10,int .i64 n11])=some r9∧
 Cl k10 159 #[agg cs8,agg cs9] fun k12 r11=>∃cs12,Seg 9 cs12∧∃n13,some (tuple #[agg cs12,int .i64 n13])=some r11∧
 Rt R k12 (tuple #[agg (cs10.toList++(cs12.toList++([]))).toArray,int .i64 0]))) :
  CallsG Tryz.prog 169 #[agg (cs0.toList++(cs1.toList++([]))).toArray,agg (cs2.toList++(cs3.toList++([]))).toArray] k R:=
  qX { opq:=[36] } [.agg [.seg 0 9,.seg 1 9],.agg [.seg 2 9,.seg 3 9]] [agg cs0,agg cs1,agg cs2,agg cs3] [.seg 9,.seg 9,.seg 9,.seg 9] ⟨⟨cs0,rfl,hcs0⟩,⟨cs1,rfl,hcs1⟩,⟨cs2,rfl,hcs2⟩,⟨cs3,rfl,hcs3⟩,trivial⟩ h
theorem aZg (hcs0:Seg 9 cs0) (hcs1:Seg 9 cs1)
 (h:Rt R k (agg cs0)) :
 CallsG Tryz.prog 13 #[agg (cs0.toList++(cs1.toList++([]))).toArray] k R:=
 qX { opq:=[36] } [.agg [.seg 0 9,.seg 1 9]] [agg cs0,agg cs1] [.seg 9,.seg 9] ⟨⟨cs0,rfl,hcs0⟩,⟨cs1,rfl,hcs1⟩,trivial⟩ h
theorem aZe (hcs0:Seg 9 cs0) (hcs1:Seg 9 cs1)
 (h:Rt R k (agg cs1)) :
 CallsG Tryz.prog 73 #[agg (cs0.toList++(cs1.toList++([]))).toArray] k R:=
 qX { opq:=[36] } [.agg [.seg 0 9,.seg 1 9]] [agg cs0,agg cs1] [.seg 9,.seg 9] ⟨⟨cs0,rfl,hcs0⟩,⟨cs1,rfl,hcs1⟩,trivial⟩ h
theorem aZf (hcs0:Seg 9 cs0) (hcs1:Seg 9 cs1) (hcs2:Seg 3 cs2)
 (h:Cl k 7 #[agg cs0,agg cs2] fun k1 r0=>Gt 9 r0 fun cs3=>
 Rt R k1 (agg (cs3.toList++((bool false) :: ((slice none 0 0) :: ((bool false) :: ((slice none 0 0) :: ((bool false) :: ((slice none 0 0) :: ((bool false) :: ((slice none 0 0) :: ((slice none 0 0) :: ([]))))))))))).toArray)) :
  CallsG Tryz.prog 173 #[agg (cs0.toList++(cs1.toList++([]))).toArray,agg cs2] k R:=
  qX { opq:=[36,41] } [.agg [.seg 0 9,.seg 1 9],.agg [.seg 2 3]] [agg cs0,agg cs1,agg cs2] [.seg 9,.seg 9,.seg 3] ⟨⟨cs0,rfl,hcs0⟩,⟨cs1,rfl,hcs1⟩,⟨cs2,rfl,hcs2⟩,trivial⟩ h
theorem aUk (hcs0:Seg 9 cs0) (hcs1:Seg 9 cs1)
 (h:Rt R k (agg (cs0.toList++(cs1.toList++([]))).toArray)) :
 CallsG Tryz.prog 72 #[agg cs0,agg cs1] k R:=
 qX { opq:=[36] } [.agg [.seg 0 9],.agg [.seg 1 9]] [agg cs0,agg cs1] [.seg 9,.seg 9] ⟨⟨cs0,rfl,hcs0⟩,⟨cs1,rfl,hcs1⟩,trivial⟩ h
end Go.Proofs.YthiaclljcnincaaGreat

namespace Go.Proofs.YthiaclljcnincaaGreat
open Go.RowKit Num Plain
open Sy (Up Sees CallsG Seg)
def cat2 (c0 c1:Array Value):Array Value:=(c0.toList++(c1.toList++([]))).toArray
theorem aBn {m n:Nat}{c0 c1:Array Value}(h0:Seg m c0) (h1:Seg n c1):Seg (m+n) (cat2 c0 c1):=by
 obtain⟨a0,b0⟩:=h0;obtain⟨a1,b1⟩:=h1;refine⟨by simp [cat2,a0,a1],fun u hu=>?_⟩;simp only [cat2,List.append_nil,List.mem_append]at hu;rcases hu with hu|hu
 ·exact b0 u hu
 ·exact b1 u hu
def WaveV (k:World) (cs:Array Value) (w:W4) (K:Nat):Prop:=∃c0 c1:Array Value,cs=cat2 c0 c1∧SurdV k c0 w.re K∧SurdV k c1 w.im K
section
variable {k k':World}{cs cs' c0 c1:Array Value}{R:World→Value→Prop}{v v':Q4}{x y:W4}{K L:Nat}
theorem WaveV.up (h:WaveV k cs x K) (u:Up k k'):WaveV k' cs x K:=by
 obtain⟨c0,c1,e,h0,h1⟩:=h;exact⟨c0,c1,e,h0.up u,h1.up u⟩
theorem WaveV.mono (h:WaveV k cs x K) (hL:K≤L):WaveV k cs x L:=by
 obtain⟨c0,c1,e,h0,h1⟩:=h;exact⟨c0,c1,e,h0.mono hL,h1.mono hL⟩
theorem WaveV.seg (h:WaveV k cs x K):Seg 18 cs:=by
 obtain⟨c0,c1,rfl,h0,h1⟩:=h;exact aBn h0.seg h1.seg
theorem aEr (hx:SurdV k cs v K) (hK:K≤268435456) (C:∀k',Up k k'→R k' (.bool (decide (v=Q4.zero)))) :
 Cl k 161 #[.agg cs] R:=
 wP hx hK fun k' u b hb=>by
  have e:b=decide (v=Q4.zero):=by rw [vw,hb,decide_eq_true_iff]
  rw [e];exact C k' u
theorem aWu (hx:SurdV k cs v K) (hy:SurdV k cs' v' K) (hz:v'=Q4.zero) (hK:K≤33554431) (C:∀k',Up k k'→R k' (.tuple #[.agg #[.bool false,.slice none 0 0,.bool false,.slice none 0 0,.bool false,.slice none 0 0,.bool false,.slice none 0 0,.slice none 0 0],.int .i64 3])) :
 Cl k 159 #[.agg cs,.agg cs'] R:=by
 intro k0 u0;obtain⟨_,_,_,_,D,d,e,x0,x1,x2,x3,m,rfl,hm,hg,rfl,i0,i1,i2,i3,lx,hd⟩:=hx.up u0;have hy':=hy.up u0;obtain⟨_,_,_,_,D',d',e',y0,y1,y2,y3,n,rfl,hn,hg',rfl,j0,j1,j2,j3,ly,hd'⟩:=hy';obtain⟨bx0,Ax0,nx0,cx0,rfl,i0⟩:=i0.dest;obtain⟨by0,Ay0,ny0,cy0,rfl,j0⟩:=j0.dest;obtain⟨bx1,Ax1,nx1,cx1,rfl,i1⟩:=i1.dest;obtain⟨by1,Ay1,ny1,cy1,rfl,j1⟩:=j1.dest;obtain⟨bx2,Ax2,nx2,cx2,rfl,i2⟩:=i2.dest;obtain⟨by2,Ay2,ny2,cy2,rfl,j2⟩:=j2.dest;obtain⟨bx3,Ax3,nx3,cx3,rfl,i3⟩:=i3.dest;obtain⟨by3,Ay3,ny3,cy3,rfl,j3⟩:=j3.dest;replace hy:=hy.up u0;replace C:=fun k' u=>C k' (u0.trans u);refine zA ?_;refine wP hy oq ?_;intro k1 u1 b hb;refine⟨b,rfl,fun _ k2 u2=>C k2 (u1.trans u2),fun hbf=>?_⟩;rw [hb.2 hz]at hbf;cases hbf
theorem aLg (hx:SurdV k cs v K) (hy:SurdV k cs' v' K) (hK1:1≤K) (hK:K≤33554431)
 (C:∀k' ds,Up k k'→SurdV k' ds (v.div v') (5*K+12)→R k' (.tuple #[.agg ds,.int .i64 (if v'=Q4.zero then 3 else 0)])) :
 Cl k 159 #[.agg cs,.agg cs'] R:=by
 by_cases hz:v'=Q4.zero
 ·rw [og hz,hz,Q4.div_zero]at C;exact aWu hx hy hz hK (fun k' u=>C k' _ u (SurdV.nil (jx _)))
 ·rw [oh hz]at C;refine aWt hx hy hK1 hK (fun k' u h=>absurd h hz) (fun k' ds q u h e=>?_);rw [Q4.div_uniq hz e]at h;exact C k' ds u (h.mono oq)
theorem aWz (hx:WaveV k cs x K) (hy:WaveV k cs' y K) (hK1:1≤K) (hK:K≤134217727) (C:∀k' ds,Up k k'→WaveV k' ds (x.add y) (2*K+1)→R k' (.agg ds)) :
 Cl k 47 #[.agg cs,.agg cs'] R:=by
 intro k0 u0;obtain⟨a,b,rfl,a0,b0⟩:=hx.up u0;obtain⟨c,d,rfl,c0,d0⟩:=hy.up u0;refine aVx a0.seg b0.seg c0.seg d0.seg ?_;refine kK a0 c0 hK1 oq fun k1 e1 u1 h1=>⟨e1,h1.seg,rfl,?_⟩;refine kK (b0.up u1) (d0.up u1) hK1 oq fun k3 e3 u3 h3=>⟨e3,h3.seg,rfl,fun k4 u4=>?_⟩;exact C k4 _ (((u0.trans u1).trans u3).trans u4) ⟨e1,e3,rfl,(h1.up u3).up u4,h3.up u4⟩
theorem aLl (hx:WaveV k cs x K) (hy:WaveV k cs' y K) (hK1:1≤K) (hK:K≤134217727) (C:∀k' ds,Up k k'→WaveV k' ds (x.sub y) (2*K+1)→R k' (.agg ds)) :
 Cl k 174 #[.agg cs,.agg cs'] R:=by
 intro k0 u0;obtain⟨a,b,rfl,a0,b0⟩:=hx.up u0;obtain⟨c,d,rfl,c0,d0⟩:=hy.up u0;refine aWb a0.seg b0.seg c0.seg d0.seg ?_;refine pA a0 c0 hK1 oq fun k1 e1 u1 h1=>⟨e1,h1.seg,rfl,?_⟩;refine pA (b0.up u1) (d0.up u1) hK1 oq fun k3 e3 u3 h3=>⟨e3,h3.seg,rfl,fun k4 u4=>?_⟩;exact C k4 _ (((u0.trans u1).trans u3).trans u4) ⟨e1,e3,rfl,(h1.up u3).up u4,h3.up u4⟩
theorem sJ (hx:WaveV k cs x K) (hy:WaveV k cs' y K) (hK1:1≤K) (hK:K≤33554431) (C:∀k' ds,Up k k'→WaveV k' ds (x.mul y) (4*K+9)→R k' (.agg ds)) :
 Cl k 170 #[.agg cs,.agg cs'] R:=by
 intro k0 u0;obtain⟨a,b,rfl,a0,b0⟩:=hx.up u0;obtain⟨c,d,rfl,c0,d0⟩:=hy.up u0;refine aVz a0.seg b0.seg c0.seg d0.seg ?_;refine mN a0 c0 hK1 oq fun k1 e1 u1 h1=>⟨e1,h1.seg,rfl,?_⟩;refine mN (b0.up u1) (d0.up u1) hK1 oq fun k2 e2 u2 h2=>⟨e2,h2.seg,rfl,?_⟩;refine pA (h1.up u2) h2 oq oq fun k3 e3 u3 h3=>⟨e3,h3.seg,rfl,?_⟩;have u123:=(u1.trans u2).trans u3;refine mN (a0.up u123) (d0.up u123) hK1 oq fun k4 e4 u4 h4=>⟨e4,h4.seg,rfl,?_⟩;refine mN (b0.up (u123.trans u4)) (c0.up (u123.trans u4)) hK1 oq fun k5 e5 u5 h5=>⟨e5,h5.seg,rfl,?_⟩;refine kK (h4.up u5) h5 oq oq fun k6 e6 u6 h6=>⟨e6,h6.seg,rfl,fun k7 u7=>?_⟩;exact C k7 _ (((((u0.trans u123).trans u4).trans u5).trans u6).trans u7) ⟨e3,e6,rfl,((((h3.up u4).up u5).up u6).up u7).mono oq,(h6.up u7).mono oq⟩
theorem aXb (hx:WaveV k cs x K) (hK:K≤268435456) (C:∀k' ds,Up k k'→WaveV k' ds x.neg K→R k' (.agg ds)) :
 Cl k 172 #[.agg cs] R:=by
 intro k0 u0;obtain⟨a,b,rfl,a0,b0⟩:=hx.up u0;refine aWa a0.seg b0.seg ?_;refine eV a0 hK fun k1 e1 u1 h1=>⟨e1,h1.seg,rfl,?_⟩;refine eV (b0.up u1) hK fun k2 e2 u2 h2=>⟨e2,h2.seg,rfl,fun k4 u4=>?_⟩;exact C k4 _ (((u0.trans u1).trans u2).trans u4) ⟨e1,e2,rfl,(h1.up u2).up u4,h2.up u4⟩
theorem aSi (hx:WaveV k cs x K) (hK:K≤268435456) (C:∀k' ds,Up k k'→WaveV k' ds x.conj K→R k' (.agg ds)) :
 Cl k 176 #[.agg cs] R:=by
 intro k0 u0;obtain⟨a,b,rfl,a0,b0⟩:=hx.up u0;refine aRd a0.seg b0.seg ?_;refine eV b0 hK fun k2 e2 u2 h2=>⟨e2,h2.seg,rfl,fun k4 u4=>?_⟩;exact C k4 _ ((u0.trans u2).trans u4) ⟨a,e2,rfl,(a0.up u2).up u4,h2.up u4⟩
theorem rP (hx:WaveV k cs x K) (hK:K≤268435456) (C:∀k',Up k k'→R k' (.bool (decide (x=W4.zero)))) :
 Cl k 175 #[.agg cs] R:=by
 intro k0 u0;obtain⟨a,b,rfl,a0,b0⟩:=hx.up u0;rw [W4.zero_iff]at C;refine aRf a0.seg b0.seg (aEr a0 hK fun k1 u1=>⟨_,rfl,fun h=>?_,fun h k5 u5=>?_⟩)
 ·rw [h]at C;exact aEr (b0.up u1) hK fun k2 u2=>⟨_,rfl,fun k3 u3=>C k3 (((u0.trans u1).trans u2).trans u3)⟩
 ·rw [h]at C;exact C k5 ((u0.trans u1).trans u5)
theorem aEs (hx:WaveV k cs x K) (hK1:1≤K) (hK:K≤33554431) (C:∀k' ds,Up k k'→SurdV k' ds x.norm (4*K+9)→R k' (.agg ds)) :
 Cl k 29 #[.agg cs] R:=by
 intro k0 u0;obtain⟨a,b,rfl,a0,b0⟩:=hx.up u0;refine aRe a0.seg b0.seg ?_;refine mN a0 a0 hK1 oq fun k1 e1 u1 h1=>⟨e1,h1.seg,rfl,?_⟩;refine mN (b0.up u1) (b0.up u1) hK1 oq fun k2 e2 u2 h2=>⟨e2,h2.seg,rfl,?_⟩;refine kK (h1.up u2) h2 oq oq fun k3 e3 u3 h3=>⟨e3,h3.seg,rfl,fun k4 u4=>?_⟩;exact C k4 _ ((((u0.trans u1).trans u2).trans u3).trans u4) ((h3.up u4).mono oq)
theorem aLk (hx:WaveV k cs x K) (C:∀k' ds,Up k k'→SurdV k' ds x.re K→R k' (.agg ds)) :
 Cl k 13 #[.agg cs] R:=by
 intro k0 u0;obtain⟨a,b,rfl,a0,b0⟩:=hx.up u0;exact aZg a0.seg b0.seg fun k1 u1=>C k1 _ (u0.trans u1) (a0.up u1)
theorem aZp (hx:WaveV k cs x K) (C:∀k' ds,Up k k'→SurdV k' ds x.im K→R k' (.agg ds)) :
 Cl k 73 #[.agg cs] R:=by
 intro k0 u0;obtain⟨a,b,rfl,a0,b0⟩:=hx.up u0;exact aZe a0.seg b0.seg fun k1 u1=>C k1 _ (u0.trans u1) (b0.up u1)
theorem aZq {q:Rat}(hx:WaveV k cs x K) (hy:RatV k cs' q L) (C:∀k' ds,Up k k'→WaveV k' ds (W4.real q) L→R k' (.agg ds)) :
 Cl k 173 #[.agg cs,.agg cs'] R:=by
 intro k0 u0;obtain⟨a,b,rfl,a0,b0⟩:=hx.up u0;refine aZf a0.seg b0.seg hy.seg (uV a0 (hy.up u0) fun k1 e1 u1 h1=>⟨e1,h1.seg,rfl,fun k2 u2=>?_⟩);exact C k2 _ ((u0.trans u1).trans u2) ⟨e1,_,rfl,h1.up u2,SurdV.nil (jx _)⟩
theorem aYo (hx:SurdV k cs v K) (hy:SurdV k cs' v' K) (C:∀k' ds,Up k k'→WaveV k' ds ⟨v,v'⟩ K→R k' (.agg ds)) :
 Cl k 72 #[.agg cs,.agg cs'] R:=
 fun _ u0=>aUk hx.seg hy.seg fun k1 u1=>C k1 _ (u0.trans u1) ⟨cs,cs',rfl,(hx.up u0).up u1,(hy.up u0).up u1⟩
theorem aLj (hx:WaveV k cs x K) (hy:WaveV k cs' y K) (hK1:1≤K) (hK:K≤4194304) (C:∀k' ds,Up k k'→WaveV k' ds (x.div y) (20*K+57)→R k' (.tuple #[.agg ds,.int .i64 (if y=W4.zero then 3 else 0)])) :
 Cl k 169 #[.agg cs,.agg cs'] R:=by
 intro k0 u0;replace hx:=hx.up u0;replace hy:=hy.up u0;have hx':=hx;have hy':=hy;obtain⟨a,b,rfl,a0,b0⟩:=hx';obtain⟨c,d,rfl,c0,d0⟩:=hy';refine aVy a0.seg b0.seg c0.seg d0.seg (rP hy oq fun k1 u1=>⟨_,rfl,fun hz k2 u2=>?_,fun hz=>?_⟩)
 ·have hz:=ow hz;rw [og hz,hz,W4.div_zero]at C;exact C k2 _ ((u0.trans u1).trans u2) ⟨#[.bool false,.slice none 0 0,.bool false,.slice none 0 0,.bool false,.slice none 0 0,.bool false,.slice none 0 0,.slice none 0 0],#[.bool false,.slice none 0 0,.bool false,.slice none 0 0,.bool false,.slice none 0 0,.bool false,.slice none 0 0,.slice none 0 0],rfl,SurdV.nil (jx _),SurdV.nil (jx _)⟩
 ·have hz:=ov hz;rw [oh hz]at C;refine aSi (hy.up u1) oq fun k4 e4 u4 h4=>?_;have h4':=h4;obtain⟨p,q,rfl,p0,q0⟩:=h4';refine⟨p,p0.seg,q,q0.seg,rfl,?_⟩;refine sJ ((hx.up u1).up u4) h4 hK1 oq fun k6 e6 u6 h6=>?_;obtain⟨r,s,rfl,r0,s0⟩:=h6;refine⟨r,r0.seg,s,s0.seg,rfl,?_⟩;refine aEs (((hy.up u1).up u4).up u6) hK1 oq fun k8 e8 u8 h8=>⟨e8,h8.seg,rfl,?_⟩;refine aLg (r0.up u8) h8 oq oq fun k10 e10 u10 h10=>⟨e10,h10.seg,_,rfl,?_⟩;refine aLg ((s0.up u8).up u10) (h8.up u10) oq oq fun k12 e12 u12 h12=>⟨e12,h12.seg,_,rfl,fun k13 u13=>?_⟩;exact C k13 _ (((((((u0.trans u1).trans u4).trans u6).trans u8).trans u10).trans u12).trans u13) ⟨e10,e12,rfl,((h10.up u12).up u13).mono oq,(h12.up u13).mono oq⟩
end
end Go.Proofs.YthiaclljcnincaaGreat

namespace Go.Proofs.YthiaclljcnincaaGreat.W32
open Go.RowKit Num
open Sy (Up Sees CallsG Seg)
def cat4 (c0 c1 c2 c3:Array Value):Array Value:=(c0.toList++(c1.toList++(c2.toList++(c3.toList++([]))))).toArray
def SQ (k:World) (cs:Array Value) (v:Q4) (K:Nat):Prop:=∃c0 c1 c2 c3:Array Value,cs=cat4 c0 c1 c2 c3∧QV k c0 v.a K∧QV k c1 v.b K∧QV k c2 v.c K∧QV k c3 v.d K
section
variable {k k':World}{cs cs' c0 c1 c2 c3:Array Value}{R:World→Value→Prop}{x y q q':Rat}{v v':Q4}{K L:Nat}
theorem QV.cast (h:QV k cs q K) (e:q=q'):QV k cs q' K:=e▸h
theorem SQ.up (h:SQ k cs v K) (u:Up k k'):SQ k' cs v K:=by
 obtain⟨c0,c1,c2,c3,e,h0,h1,h2,h3⟩:=h;exact⟨c0,c1,c2,c3,e,h0.up u,h1.up u,h2.up u,h3.up u⟩
theorem SQ.mono (h:SQ k cs v K) (hL:K≤L):SQ k cs v L:=by
 obtain⟨c0,c1,c2,c3,e,h0,h1,h2,h3⟩:=h;exact⟨c0,c1,c2,c3,e,h0.mono hL,h1.mono hL,h2.mono hL,h3.mono hL⟩
theorem aQn (h0:Seg 3 c0) (h1:Seg 3 c1) (h2:Seg 3 c2) (h3:Seg 3 c3):Seg 12 (cat4 c0 c1 c2 c3):=by
 obtain⟨a0,b0⟩:=h0;obtain⟨a1,b1⟩:=h1;obtain⟨a2,b2⟩:=h2;obtain⟨a3,b3⟩:=h3;refine⟨by simp [cat4,a0,a1,a2,a3],fun u hu=>?_⟩;simp only [cat4,List.append_nil,List.mem_append]at hu;rcases hu with hu|hu|hu|hu
 ·exact b0 u hu
 ·exact b1 u hu
 ·exact b2 u hu
 ·exact b3 u hu
theorem SQ.seg (h:SQ k cs v K):Seg 12 cs:=by
 obtain⟨c0,c1,c2,c3,rfl,h0,h1,h2,h3⟩:=h;exact aQn h0.seg h1.seg h2.seg h3.seg
theorem aVs:((2:Int):Rat)=2:=rfl
theorem oZ:((0:Int):Rat)=0:=rfl
theorem yG (hx:SQ k cs v K) (hy:SQ k cs' v' L) (hK:K+L≤10000000000) (C:∀k' ds,Up k k'→SQ k' ds (v.add v') (K+L+1)→R k' (.agg ds)) :
 Cl k 67 #[.agg cs,.agg cs'] R:=by
 obtain⟨c0,c1,c2,c3,rfl,x0,x1,x2,x3⟩:=hx;obtain⟨e0,e1,e2,e3,rfl,y0,y1,y2,y3⟩:=hy;intro k0 u0;replace x0:=x0.up u0;replace x1:=x1.up u0;replace x2:=x2.up u0;replace x3:=x3.up u0;replace y0:=y0.up u0;replace y1:=y1.up u0;replace y2:=y2.up u0;replace y3:=y3.up u0;replace C:=fun k' ds u=>C k' ds (u0.trans u);refine aVc x0.seg x1.seg x2.seg x3.seg y0.seg y1.seg y2.seg y3.seg ?_;refine fD x0 y0 hK ?_;intro k1 d0 u1 z0;refine⟨d0,z0.seg,rfl,?_⟩;replace x1:=x1.up u1;replace x2:=x2.up u1;replace x3:=x3.up u1;replace y1:=y1.up u1;replace y2:=y2.up u1;replace y3:=y3.up u1;replace C:=fun k' ds u=>C k' ds (u1.trans u);refine fD x1 y1 hK ?_;intro k2 d1 u2 z1;refine⟨d1,z1.seg,rfl,?_⟩;replace x2:=x2.up u2;replace x3:=x3.up u2;replace y2:=y2.up u2;replace y3:=y3.up u2;replace z0:=z0.up u2;replace C:=fun k' ds u=>C k' ds (u2.trans u);refine fD x2 y2 hK ?_;intro k3 d2 u3 z2;refine⟨d2,z2.seg,rfl,?_⟩;replace x3:=x3.up u3;replace y3:=y3.up u3;replace z0:=z0.up u3;replace z1:=z1.up u3;replace C:=fun k' ds u=>C k' ds (u3.trans u);refine fD x3 y3 hK ?_;intro k4 d3 u4 z3;refine⟨d3,z3.seg,rfl,?_⟩;replace z0:=z0.up u4;replace z1:=z1.up u4;replace z2:=z2.up u4;replace C:=fun k' ds u=>C k' ds (u4.trans u);intro k5 u5;replace z0:=z0.up u5;replace z1:=z1.up u5;replace z2:=z2.up u5;replace z3:=z3.up u5;exact C _ _ u5 ⟨d0,d1,d2,d3,rfl,z0,z1,z2,z3⟩
theorem fW (hx:SQ k cs v K) (hK:K≤10000000000) (C:∀k' ds,Up k k'→SQ k' ds v.neg K→R k' (.agg ds)) :
 Cl k 66 #[.agg cs] R:=by
 obtain⟨c0,c1,c2,c3,rfl,x0,x1,x2,x3⟩:=hx;intro k0 u0;replace x0:=x0.up u0;replace x1:=x1.up u0;replace x2:=x2.up u0;replace x3:=x3.up u0;replace C:=fun k' ds u=>C k' ds (u0.trans u);refine aVe x0.seg x1.seg x2.seg x3.seg ?_;refine aFq x0 hK ?_;intro k1 d0 u1 z0;refine⟨d0,z0.seg,rfl,?_⟩;replace x1:=x1.up u1;replace x2:=x2.up u1;replace x3:=x3.up u1;replace C:=fun k' ds u=>C k' ds (u1.trans u);refine aFq x1 hK ?_;intro k2 d1 u2 z1;refine⟨d1,z1.seg,rfl,?_⟩;replace x2:=x2.up u2;replace x3:=x3.up u2;replace z0:=z0.up u2;replace C:=fun k' ds u=>C k' ds (u2.trans u);refine aFq x2 hK ?_;intro k3 d2 u3 z2;refine⟨d2,z2.seg,rfl,?_⟩;replace x3:=x3.up u3;replace z0:=z0.up u3;replace z1:=z1.up u3;replace C:=fun k' ds u=>C k' ds (u3.trans u);refine aFq x3 hK ?_;intro k4 d3 u4 z3;refine⟨d3,z3.seg,rfl,?_⟩;replace z0:=z0.up u4;replace z1:=z1.up u4;replace z2:=z2.up u4;replace C:=fun k' ds u=>C k' ds (u4.trans u);intro k5 u5;replace z0:=z0.up u5;replace z1:=z1.up u5;replace z2:=z2.up u5;replace z3:=z3.up u5;exact C _ _ u5 ⟨d0,d1,d2,d3,rfl,z0,z1,z2,z3⟩
theorem aEi (hx:SQ k cs v K) (hy:SQ k cs' v' L) (hK:K+L≤10000000000) (C:∀k' ds,Up k k'→SQ k' ds (v.sub v') (K+L+1)→R k' (.agg ds)) :
 Cl k 68 #[.agg cs,.agg cs'] R:=by
 intro k0 u0;exact aVf hx.seg hy.seg (fW (hy.up u0) oq fun k1 d1 u1 h1=>⟨d1,h1.seg,rfl,yG ((hx.up u0).up u1) h1 hK fun k3 d3 u3 h3=>⟨d3,h3.seg,rfl,fun k4 u4=>C k4 d3 (((u0.trans u1).trans u3).trans u4) (h3.up u4)⟩⟩)
theorem aDv (hx:QV k cs q K) (hK:2≤K) (C:∀k' ds,Up k k'→SQ k' ds (Q4.real q) K→R k' (.agg ds)) :
 Cl k 96 #[.agg cs] R:=by
 intro k0 u0;refine aQh hx.seg ?_;refine dI oz oz fun k1 d1 u1 h1=>⟨d1,h1.seg,rfl,?_⟩;refine dI oz oz fun k2 d2 u2 h2=>⟨d2,h2.seg,rfl,?_⟩;refine dI oz oz fun k3 d3 u3 h3=>⟨d3,h3.seg,rfl,fun k4 u4=>?_⟩;exact C k4 _ ((((u0.trans u1).trans u2).trans u3).trans u4) ⟨cs,d1,d2,d3,rfl,((((hx.up u0).up u1).up u2).up u3).up u4,(((h1.up u2).up u3).up u4).mono hK,((h2.up u3).up u4).mono hK,(h3.up u4).mono hK⟩
set_option maxHeartbeats 4000000 in
theorem yK (hx:SQ k cs v K) (hy:SQ k cs' v' L) (hK:4*(K+L)+22≤10000000000) (C:∀k' ds,Up k k'→SQ k' ds (v.mul v') (4*(K+L)+22)→R k' (.agg ds)) :
 Cl k 69 #[.agg cs,.agg cs'] R:=by
 obtain⟨c0,c1,c2,c3,rfl,x0,x1,x2,x3⟩:=hx;obtain⟨e0,e1,e2,e3,rfl,y0,y1,y2,y3⟩:=hy;intro k0 u0;replace x0:=x0.up u0;replace x1:=x1.up u0;replace x2:=x2.up u0;replace x3:=x3.up u0;replace y0:=y0.up u0;replace y1:=y1.up u0;replace y2:=y2.up u0;replace y3:=y3.up u0;replace C:=fun k' ds u=>C k' ds (u0.trans u);refine aVd x0.seg x1.seg x2.seg x3.seg y0.seg y1.seg y2.seg y3.seg ?_;refine dI oz oz ?_;intro k1 w0 u1 hw0;refine⟨w0,hw0.seg,rfl,?_⟩;replace x0:=x0.up u1;replace x1:=x1.up u1;replace x2:=x2.up u1;replace x3:=x3.up u1;replace y0:=y0.up u1;replace y1:=y1.up u1;replace y2:=y2.up u1;replace y3:=y3.up u1;replace C:=fun k' ds u=>C k' ds (u1.trans u);refine aDv hw0 oz ?_;rintro k2 _ u2 ⟨o0,o1,o2,o3,rfl,out0,out1,out2,out3⟩;refine⟨o0,out0.seg,o1,out1.seg,o2,out2.seg,o3,out3.seg,rfl,?_⟩;replace x0:=x0.up u2;replace x1:=x1.up u2;replace x2:=x2.up u2;replace x3:=x3.up u2;replace y0:=y0.up u2;replace y1:=y1.up u2;replace y2:=y2.up u2;replace y3:=y3.up u2;replace C:=fun k' ds u=>C k' ds (u2.trans u);clear hw0;refine dQ x0 y0 oq ?_;intro k3 a00 u3 p00;refine⟨a00,p00.seg,rfl,?_⟩;replace x0:=x0.up u3;replace x1:=x1.up u3;replace x2:=x2.up u3;replace x3:=x3.up u3;replace y0:=y0.up u3;replace y1:=y1.up u3;replace y2:=y2.up u3;replace y3:=y3.up u3;replace out0:=out0.up u3;replace out1:=out1.up u3;replace out2:=out2.up u3;replace out3:=out3.up u3;replace C:=fun k' ds u=>C k' ds (u3.trans u);refine fD out0 p00 oq ?_;intro k4 s00 u4 o00;refine⟨s00,o00.seg,rfl,?_⟩;replace x0:=x0.up u4;replace x1:=x1.up u4;replace x2:=x2.up u4;replace x3:=x3.up u4;replace y0:=y0.up u4;replace y1:=y1.up u4;replace y2:=y2.up u4;replace y3:=y3.up u4;replace out1:=out1.up u4;replace out2:=out2.up u4;replace out3:=out3.up u4;replace C:=fun k' ds u=>C k' ds (u4.trans u);clear out0 p00;refine dQ x0 y1 oq ?_;intro k5 a01 u5 p01;refine⟨a01,p01.seg,rfl,?_⟩;replace x0:=x0.up u5;replace x1:=x1.up u5;replace x2:=x2.up u5;replace x3:=x3.up u5;replace y0:=y0.up u5;replace y1:=y1.up u5;replace y2:=y2.up u5;replace y3:=y3.up u5;replace out1:=out1.up u5;replace out2:=out2.up u5;replace out3:=out3.up u5;replace o00:=o00.up u5;replace C:=fun k' ds u=>C k' ds (u5.trans u);refine fD out1 p01 oq ?_;intro k6 s01 u6 o01;refine⟨s01,o01.seg,rfl,?_⟩;replace x0:=x0.up u6;replace x1:=x1.up u6;replace x2:=x2.up u6;replace x3:=x3.up u6;replace y0:=y0.up u6;replace y1:=y1.up u6;replace y2:=y2.up u6;replace y3:=y3.up u6;replace out2:=out2.up u6;replace out3:=out3.up u6;replace o00:=o00.up u6;replace C:=fun k' ds u=>C k' ds (u6.trans u);clear out1 p01;refine dQ x0 y2 oq ?_;intro k7 a02 u7 p02;refine⟨a02,p02.seg,rfl,?_⟩;replace x0:=x0.up u7;replace x1:=x1.up u7;replace x2:=x2.up u7;replace x3:=x3.up u7;replace y0:=y0.up u7;replace y1:=y1.up u7;replace y2:=y2.up u7;replace y3:=y3.up u7;replace out2:=out2.up u7;replace out3:=out3.up u7;replace o00:=o00.up u7;replace o01:=o01.up u7;replace C:=fun k' ds u=>C k' ds (u7.trans u);refine fD out2 p02 oq ?_
 intro k8 s02 u8 o02;refine⟨s02,o02.seg,rfl,?_⟩;replace x0:=x0.up u8;replace x1:=x1.up u8;replace x2:=x2.up u8;replace x3:=x3.up u8;replace y0:=y0.up u8;replace y1:=y1.up u8;replace y2:=y2.up u8;replace y3:=y3.up u8;replace out3:=out3.up u8;replace o00:=o00.up u8;replace o01:=o01.up u8;replace C:=fun k' ds u=>C k' ds (u8.trans u);clear out2 p02;refine dQ x0 y3 oq ?_;intro k9 a03 u9 p03;refine⟨a03,p03.seg,rfl,?_⟩;replace x1:=x1.up u9;replace x2:=x2.up u9;replace x3:=x3.up u9;replace y0:=y0.up u9;replace y1:=y1.up u9;replace y2:=y2.up u9;replace y3:=y3.up u9;replace out3:=out3.up u9;replace o00:=o00.up u9;replace o01:=o01.up u9;replace o02:=o02.up u9;replace C:=fun k' ds u=>C k' ds (u9.trans u);refine fD out3 p03 oq ?_;intro k10 s03 u10 o03;refine⟨s03,o03.seg,rfl,?_⟩;replace x1:=x1.up u10;replace x2:=x2.up u10;replace x3:=x3.up u10;replace y0:=y0.up u10;replace y1:=y1.up u10;replace y2:=y2.up u10;replace y3:=y3.up u10;replace o00:=o00.up u10;replace o01:=o01.up u10;replace o02:=o02.up u10;replace C:=fun k' ds u=>C k' ds (u10.trans u);clear out3 p03;refine dQ x1 y0 oq ?_;intro k11 a10 u11 p10;refine⟨a10,p10.seg,rfl,?_⟩;replace x1:=x1.up u11;replace x2:=x2.up u11;replace x3:=x3.up u11;replace y0:=y0.up u11;replace y1:=y1.up u11;replace y2:=y2.up u11;replace y3:=y3.up u11;replace o00:=o00.up u11;replace o01:=o01.up u11;replace o02:=o02.up u11;replace o03:=o03.up u11;replace C:=fun k' ds u=>C k' ds (u11.trans u);refine fD o01 p10 oq ?_;intro k12 s10 u12 o10;refine⟨s10,o10.seg,rfl,?_⟩;replace x1:=x1.up u12;replace x2:=x2.up u12;replace x3:=x3.up u12;replace y0:=y0.up u12;replace y1:=y1.up u12;replace y2:=y2.up u12;replace y3:=y3.up u12;replace o00:=o00.up u12;replace o02:=o02.up u12;replace o03:=o03.up u12;replace C:=fun k' ds u=>C k' ds (u12.trans u);clear o01 p10;refine dQ x1 y1 oq ?_;intro k13 a11 u13 p11;refine⟨a11,p11.seg,rfl,?_⟩;replace x1:=x1.up u13;replace x2:=x2.up u13;replace x3:=x3.up u13;replace y0:=y0.up u13;replace y1:=y1.up u13;replace y2:=y2.up u13;replace y3:=y3.up u13;replace o00:=o00.up u13;replace o02:=o02.up u13;replace o03:=o03.up u13;replace o10:=o10.up u13;replace C:=fun k' ds u=>C k' ds (u13.trans u);refine dI oz oz ?_;intro k14 w11 u14 hw11;refine⟨w11,hw11.seg,rfl,?_⟩;replace x1:=x1.up u14;replace x2:=x2.up u14;replace x3:=x3.up u14;replace y0:=y0.up u14;replace y1:=y1.up u14;replace y2:=y2.up u14;replace y3:=y3.up u14;replace o00:=o00.up u14;replace o02:=o02.up u14;replace o03:=o03.up u14;replace o10:=o10.up u14;replace p11:=p11.up u14;replace C:=fun k' ds u=>C k' ds (u14.trans u);refine dQ p11 hw11 oq ?_;intro k15 b112 u15 r112;refine⟨b112,r112.seg,rfl,?_⟩;replace x1:=x1.up u15;replace x2:=x2.up u15;replace x3:=x3.up u15;replace y0:=y0.up u15;replace y1:=y1.up u15;replace y2:=y2.up u15;replace y3:=y3.up u15;replace o00:=o00.up u15;replace o02:=o02.up u15;replace o03:=o03.up u15;replace o10:=o10.up u15;replace C:=fun k' ds u=>C k' ds (u15.trans u)
 clear p11 hw11;refine fD o00 r112 oq ?_;intro k16 s11 u16 o11;refine⟨s11,o11.seg,rfl,?_⟩;replace x1:=x1.up u16;replace x2:=x2.up u16;replace x3:=x3.up u16;replace y0:=y0.up u16;replace y1:=y1.up u16;replace y2:=y2.up u16;replace y3:=y3.up u16;replace o02:=o02.up u16;replace o03:=o03.up u16;replace o10:=o10.up u16;replace C:=fun k' ds u=>C k' ds (u16.trans u);clear o00 r112;refine dQ x1 y2 oq ?_;intro k17 a12 u17 p12;refine⟨a12,p12.seg,rfl,?_⟩;replace x1:=x1.up u17;replace x2:=x2.up u17;replace x3:=x3.up u17;replace y0:=y0.up u17;replace y1:=y1.up u17;replace y2:=y2.up u17;replace y3:=y3.up u17;replace o02:=o02.up u17;replace o03:=o03.up u17;replace o10:=o10.up u17;replace o11:=o11.up u17;replace C:=fun k' ds u=>C k' ds (u17.trans u);refine fD o03 p12 oq ?_;intro k18 s12 u18 o12;refine⟨s12,o12.seg,rfl,?_⟩;replace x1:=x1.up u18;replace x2:=x2.up u18;replace x3:=x3.up u18;replace y0:=y0.up u18;replace y1:=y1.up u18;replace y2:=y2.up u18;replace y3:=y3.up u18;replace o02:=o02.up u18;replace o10:=o10.up u18;replace o11:=o11.up u18;replace C:=fun k' ds u=>C k' ds (u18.trans u);clear o03 p12;refine dQ x1 y3 oq ?_;intro k19 a13 u19 p13;refine⟨a13,p13.seg,rfl,?_⟩;replace x2:=x2.up u19;replace x3:=x3.up u19;replace y0:=y0.up u19;replace y1:=y1.up u19;replace y2:=y2.up u19;replace y3:=y3.up u19;replace o02:=o02.up u19;replace o10:=o10.up u19;replace o11:=o11.up u19;replace o12:=o12.up u19;replace C:=fun k' ds u=>C k' ds (u19.trans u);refine dI oz oz ?_;intro k20 w13 u20 hw13;refine⟨w13,hw13.seg,rfl,?_⟩;replace x2:=x2.up u20;replace x3:=x3.up u20;replace y0:=y0.up u20;replace y1:=y1.up u20;replace y2:=y2.up u20;replace y3:=y3.up u20;replace o02:=o02.up u20;replace o10:=o10.up u20;replace o11:=o11.up u20;replace o12:=o12.up u20;replace p13:=p13.up u20;replace C:=fun k' ds u=>C k' ds (u20.trans u);refine dQ p13 hw13 oq ?_;intro k21 b132 u21 r132;refine⟨b132,r132.seg,rfl,?_⟩;replace x2:=x2.up u21;replace x3:=x3.up u21;replace y0:=y0.up u21;replace y1:=y1.up u21;replace y2:=y2.up u21;replace y3:=y3.up u21;replace o02:=o02.up u21;replace o10:=o10.up u21;replace o11:=o11.up u21;replace o12:=o12.up u21;replace C:=fun k' ds u=>C k' ds (u21.trans u);clear p13 hw13;refine fD o02 r132 oq ?_;intro k22 s13 u22 o13;refine⟨s13,o13.seg,rfl,?_⟩;replace x2:=x2.up u22;replace x3:=x3.up u22;replace y0:=y0.up u22;replace y1:=y1.up u22;replace y2:=y2.up u22;replace y3:=y3.up u22;replace o10:=o10.up u22;replace o11:=o11.up u22;replace o12:=o12.up u22;replace C:=fun k' ds u=>C k' ds (u22.trans u);clear o02 r132;refine dQ x2 y0 oq ?_;intro k23 a20 u23 p20;refine⟨a20,p20.seg,rfl,?_⟩;replace x2:=x2.up u23;replace x3:=x3.up u23;replace y0:=y0.up u23;replace y1:=y1.up u23;replace y2:=y2.up u23;replace y3:=y3.up u23;replace o10:=o10.up u23;replace o11:=o11.up u23;replace o12:=o12.up u23;replace o13:=o13.up u23;replace C:=fun k' ds u=>C k' ds (u23.trans u);refine fD o13 p20 oq ?_
 intro k24 s20 u24 o20;refine⟨s20,o20.seg,rfl,?_⟩;replace x2:=x2.up u24;replace x3:=x3.up u24;replace y0:=y0.up u24;replace y1:=y1.up u24;replace y2:=y2.up u24;replace y3:=y3.up u24;replace o10:=o10.up u24;replace o11:=o11.up u24;replace o12:=o12.up u24;replace C:=fun k' ds u=>C k' ds (u24.trans u);clear o13 p20;refine dQ x2 y1 oq ?_;intro k25 a21 u25 p21;refine⟨a21,p21.seg,rfl,?_⟩;replace x2:=x2.up u25;replace x3:=x3.up u25;replace y0:=y0.up u25;replace y1:=y1.up u25;replace y2:=y2.up u25;replace y3:=y3.up u25;replace o10:=o10.up u25;replace o11:=o11.up u25;replace o12:=o12.up u25;replace o20:=o20.up u25;replace C:=fun k' ds u=>C k' ds (u25.trans u);refine fD o12 p21 oq ?_;intro k26 s21 u26 o21;refine⟨s21,o21.seg,rfl,?_⟩;replace x2:=x2.up u26;replace x3:=x3.up u26;replace y0:=y0.up u26;replace y1:=y1.up u26;replace y2:=y2.up u26;replace y3:=y3.up u26;replace o10:=o10.up u26;replace o11:=o11.up u26;replace o20:=o20.up u26;replace C:=fun k' ds u=>C k' ds (u26.trans u);clear o12 p21;refine dQ x2 y2 oq ?_;intro k27 a22 u27 p22;refine⟨a22,p22.seg,rfl,?_⟩;replace x2:=x2.up u27;replace x3:=x3.up u27;replace y0:=y0.up u27;replace y1:=y1.up u27;replace y2:=y2.up u27;replace y3:=y3.up u27;replace o10:=o10.up u27;replace o11:=o11.up u27;replace o20:=o20.up u27;replace o21:=o21.up u27;replace C:=fun k' ds u=>C k' ds (u27.trans u);refine dI oz oz ?_;intro k28 w22 u28 hw22;refine⟨w22,hw22.seg,rfl,?_⟩;replace x2:=x2.up u28;replace x3:=x3.up u28;replace y0:=y0.up u28;replace y1:=y1.up u28;replace y2:=y2.up u28;replace y3:=y3.up u28;replace o10:=o10.up u28;replace o11:=o11.up u28;replace o20:=o20.up u28;replace o21:=o21.up u28;replace p22:=p22.up u28;replace C:=fun k' ds u=>C k' ds (u28.trans u);refine dQ p22 hw22 oq ?_;intro k29 b223 u29 r223;refine⟨b223,r223.seg,rfl,?_⟩;replace x2:=x2.up u29;replace x3:=x3.up u29;replace y0:=y0.up u29;replace y1:=y1.up u29;replace y2:=y2.up u29;replace y3:=y3.up u29;replace o10:=o10.up u29;replace o11:=o11.up u29;replace o20:=o20.up u29;replace o21:=o21.up u29;replace C:=fun k' ds u=>C k' ds (u29.trans u);clear p22 hw22;refine fD o11 r223 oq ?_;intro k30 s22 u30 o22;refine⟨s22,o22.seg,rfl,?_⟩;replace x2:=x2.up u30;replace x3:=x3.up u30;replace y0:=y0.up u30;replace y1:=y1.up u30;replace y2:=y2.up u30;replace y3:=y3.up u30;replace o10:=o10.up u30;replace o20:=o20.up u30;replace o21:=o21.up u30;replace C:=fun k' ds u=>C k' ds (u30.trans u);clear o11 r223;refine dQ x2 y3 oq ?_;intro k31 a23 u31 p23;refine⟨a23,p23.seg,rfl,?_⟩;replace x3:=x3.up u31;replace y0:=y0.up u31;replace y1:=y1.up u31;replace y2:=y2.up u31;replace y3:=y3.up u31;replace o10:=o10.up u31;replace o20:=o20.up u31;replace o21:=o21.up u31;replace o22:=o22.up u31;replace C:=fun k' ds u=>C k' ds (u31.trans u);refine dI oz oz ?_;intro k32 w23 u32 hw23;refine⟨w23,hw23.seg,rfl,?_⟩;replace x3:=x3.up u32;replace y0:=y0.up u32;replace y1:=y1.up u32;replace y2:=y2.up u32
 replace y3:=y3.up u32;replace o10:=o10.up u32;replace o20:=o20.up u32;replace o21:=o21.up u32;replace o22:=o22.up u32;replace p23:=p23.up u32;replace C:=fun k' ds u=>C k' ds (u32.trans u);refine dQ p23 hw23 oq ?_;intro k33 b233 u33 r233;refine⟨b233,r233.seg,rfl,?_⟩;replace x3:=x3.up u33;replace y0:=y0.up u33;replace y1:=y1.up u33;replace y2:=y2.up u33;replace y3:=y3.up u33;replace o10:=o10.up u33;replace o20:=o20.up u33;replace o21:=o21.up u33;replace o22:=o22.up u33;replace C:=fun k' ds u=>C k' ds (u33.trans u);clear p23 hw23;refine fD o10 r233 oq ?_;intro k34 s23 u34 o23;refine⟨s23,o23.seg,rfl,?_⟩;replace x3:=x3.up u34;replace y0:=y0.up u34;replace y1:=y1.up u34;replace y2:=y2.up u34;replace y3:=y3.up u34;replace o20:=o20.up u34;replace o21:=o21.up u34;replace o22:=o22.up u34;replace C:=fun k' ds u=>C k' ds (u34.trans u);clear o10 r233;refine dQ x3 y0 oq ?_;intro k35 a30 u35 p30;refine⟨a30,p30.seg,rfl,?_⟩;replace x3:=x3.up u35;replace y1:=y1.up u35;replace y2:=y2.up u35;replace y3:=y3.up u35;replace o20:=o20.up u35;replace o21:=o21.up u35;replace o22:=o22.up u35;replace o23:=o23.up u35;replace C:=fun k' ds u=>C k' ds (u35.trans u);refine fD o21 p30 oq ?_;intro k36 s30 u36 o30;refine⟨s30,o30.seg,rfl,?_⟩;replace x3:=x3.up u36;replace y1:=y1.up u36;replace y2:=y2.up u36;replace y3:=y3.up u36;replace o20:=o20.up u36;replace o22:=o22.up u36;replace o23:=o23.up u36;replace C:=fun k' ds u=>C k' ds (u36.trans u);clear o21 p30;refine dQ x3 y1 oq ?_;intro k37 a31 u37 p31;refine⟨a31,p31.seg,rfl,?_⟩;replace x3:=x3.up u37;replace y2:=y2.up u37;replace y3:=y3.up u37;replace o20:=o20.up u37;replace o22:=o22.up u37;replace o23:=o23.up u37;replace o30:=o30.up u37;replace C:=fun k' ds u=>C k' ds (u37.trans u);refine dI oz oz ?_;intro k38 w31 u38 hw31;refine⟨w31,hw31.seg,rfl,?_⟩;replace x3:=x3.up u38;replace y2:=y2.up u38;replace y3:=y3.up u38;replace o20:=o20.up u38;replace o22:=o22.up u38;replace o23:=o23.up u38;replace o30:=o30.up u38;replace p31:=p31.up u38;replace C:=fun k' ds u=>C k' ds (u38.trans u);refine dQ p31 hw31 oq ?_;intro k39 b312 u39 r312;refine⟨b312,r312.seg,rfl,?_⟩;replace x3:=x3.up u39;replace y2:=y2.up u39;replace y3:=y3.up u39;replace o20:=o20.up u39;replace o22:=o22.up u39;replace o23:=o23.up u39;replace o30:=o30.up u39;replace C:=fun k' ds u=>C k' ds (u39.trans u);clear p31 hw31;refine fD o20 r312 oq ?_;intro k40 s31 u40 o31;refine⟨s31,o31.seg,rfl,?_⟩;replace x3:=x3.up u40;replace y2:=y2.up u40;replace y3:=y3.up u40;replace o22:=o22.up u40;replace o23:=o23.up u40;replace o30:=o30.up u40;replace C:=fun k' ds u=>C k' ds (u40.trans u);clear o20 r312;refine dQ x3 y2 oq ?_;intro k41 a32 u41 p32;refine⟨a32,p32.seg,rfl,?_⟩;replace x3:=x3.up u41;replace y3:=y3.up u41;replace o22:=o22.up u41;replace o23:=o23.up u41;replace o30:=o30.up u41;replace o31:=o31.up u41;replace C:=fun k' ds u=>C k' ds (u41.trans u);refine dI oz oz ?_
 intro k42 w32 u42 hw32;refine⟨w32,hw32.seg,rfl,?_⟩;replace x3:=x3.up u42;replace y3:=y3.up u42;replace o22:=o22.up u42;replace o23:=o23.up u42;replace o30:=o30.up u42;replace o31:=o31.up u42;replace p32:=p32.up u42;replace C:=fun k' ds u=>C k' ds (u42.trans u);refine dQ p32 hw32 oq ?_;intro k43 b323 u43 r323;refine⟨b323,r323.seg,rfl,?_⟩;replace x3:=x3.up u43;replace y3:=y3.up u43;replace o22:=o22.up u43;replace o23:=o23.up u43;replace o30:=o30.up u43;replace o31:=o31.up u43;replace C:=fun k' ds u=>C k' ds (u43.trans u);clear p32 hw32;refine fD o23 r323 oq ?_;intro k44 s32 u44 o32;refine⟨s32,o32.seg,rfl,?_⟩;replace x3:=x3.up u44;replace y3:=y3.up u44;replace o22:=o22.up u44;replace o30:=o30.up u44;replace o31:=o31.up u44;replace C:=fun k' ds u=>C k' ds (u44.trans u);clear o23 r323;refine dQ x3 y3 oq ?_;intro k45 a33 u45 p33;refine⟨a33,p33.seg,rfl,?_⟩;replace o22:=o22.up u45;replace o30:=o30.up u45;replace o31:=o31.up u45;replace o32:=o32.up u45;replace C:=fun k' ds u=>C k' ds (u45.trans u);refine dI oz oz ?_;intro k46 w33 u46 hw33;refine⟨w33,hw33.seg,rfl,?_⟩;replace o22:=o22.up u46;replace o30:=o30.up u46;replace o31:=o31.up u46;replace o32:=o32.up u46;replace p33:=p33.up u46;replace C:=fun k' ds u=>C k' ds (u46.trans u);refine dQ p33 hw33 oq ?_;intro k47 b332 u47 r332;refine⟨b332,r332.seg,rfl,?_⟩;replace o22:=o22.up u47;replace o30:=o30.up u47;replace o31:=o31.up u47;replace o32:=o32.up u47;replace hw33:=hw33.up u47;replace C:=fun k' ds u=>C k' ds (u47.trans u);clear p33 hw33;refine dI oz oz ?_;intro k48 w33 u48 hw33;refine⟨w33,hw33.seg,rfl,?_⟩;replace o22:=o22.up u48;replace o30:=o30.up u48;replace o31:=o31.up u48;replace o32:=o32.up u48;replace r332:=r332.up u48;replace C:=fun k' ds u=>C k' ds (u48.trans u);refine dQ r332 hw33 oq ?_;intro k49 b333 u49 r333;refine⟨b333,r333.seg,rfl,?_⟩;replace o22:=o22.up u49;replace o30:=o30.up u49;replace o31:=o31.up u49;replace o32:=o32.up u49;replace C:=fun k' ds u=>C k' ds (u49.trans u);clear r332 hw33;refine fD o22 r333 oq ?_;intro k50 s33 u50 o33;refine⟨s33,o33.seg,rfl,?_⟩;replace o30:=o30.up u50;replace o31:=o31.up u50;replace o32:=o32.up u50;replace C:=fun k' ds u=>C k' ds (u50.trans u);clear o22 r333;intro k51 u51;replace o30:=o30.up u51;replace o31:=o31.up u51;replace o32:=o32.up u51;replace o33:=o33.up u51;exact C _ _ u51 ⟨_,_,_,_,rfl,(o33.mono oq).cast (by simp only [Q4.mul,Q4.real,oZ];grind),(o32.mono oq).cast (by simp only [Q4.mul,Q4.real,oZ];grind),(o31.mono oq).cast (by simp only [Q4.mul,Q4.real,oZ,aVs];grind),(o30.mono oq).cast (by simp only [Q4.mul,Q4.real,oZ];grind)⟩
end
section
variable {k k':World}{cs cs' c0 c1 c2 c3:Array Value}{R:World→Value→Prop}{x y q q':Rat}{v v':Q4}{K L:Nat}
theorem aGk (hx:SQ k cs v K)  (C:∀k',Up k k'→R k' (.bool (decide (v=Q4.zero)))) :
 Cl k 44 #[.agg cs] R:=by
 intro k0 u0;replace C:=fun k' u=>C k' (u0.trans u);obtain⟨c0,c1,c2,c3,rfl,x0,x1,x2,x3⟩:=hx.up u0;refine aQi x0.seg x1.seg x2.seg x3.seg ?_;refine yY x0 fun k1 u1=>⟨_,rfl,fun h0=>?_,fun h0=>fun k11 u11=>?_⟩
 ·refine yY (x1.up u1) fun k3 u3=>⟨_,rfl,fun h1=>?_,fun h1=>fun k10 u10=>?_⟩
  ·refine yY (x2.up (u1.trans u3)) fun k5 u5=>⟨_,rfl,fun h2=>?_,fun h2=>fun k9 u9=>?_⟩
   ·refine yY (x3.up ((u1.trans u3).trans u5)) fun k7 u7=>⟨_,rfl,fun k8 u8=>?_⟩;have e:decide (v=Q4.zero)=decide (v.d=0):=by rw [Q4.zero_iff,h0,h1,h2];rfl
    have:=C k8 ((((u1.trans u3).trans u5).trans u7).trans u8);rw [e]at this;exact this
   ·have e:decide (v=Q4.zero)=false:=by rw [Q4.zero_iff,h0,h1,h2];rfl
    have:=C k9 (((u1.trans u3).trans u5).trans u9);rw [e]at this;exact this
  ·have e:decide (v=Q4.zero)=false:=by rw [Q4.zero_iff,h0,h1];rfl
   have:=C k10 ((u1.trans u3).trans u10);rw [e]at this;exact this
 ·have e:decide (v=Q4.zero)=false:=by rw [Q4.zero_iff,h0];rfl
  have:=C k11 (u1.trans u11);rw [e]at this;exact this
end
def WQ (k:World) (cs:Array Value) (w:W4) (K:Nat):Prop:=∃c0 c1:Array Value,cs=cat2 c0 c1∧SQ k c0 w.re K∧SQ k c1 w.im K
section
variable {k k':World}{cs cs' c0 c1:Array Value}{R:World→Value→Prop}{v v':Q4}{x y:W4}{q:Rat}{K L:Nat}
theorem WQ.up (h:WQ k cs x K) (u:Up k k'):WQ k' cs x K:=by
 obtain⟨c0,c1,e,h0,h1⟩:=h;exact⟨c0,c1,e,h0.up u,h1.up u⟩
theorem WQ.mono (h:WQ k cs x K) (hL:K≤L):WQ k cs x L:=by
 obtain⟨c0,c1,e,h0,h1⟩:=h;exact⟨c0,c1,e,h0.mono hL,h1.mono hL⟩
theorem WQ.seg (h:WQ k cs x K):Seg 24 cs:=by
 obtain⟨c0,c1,rfl,h0,h1⟩:=h;exact aBn h0.seg h1.seg
theorem gO (hx:WQ k cs x K) (hy:WQ k cs' y L) (hK:K+L≤10000000000) (C:∀k' ds,Up k k'→WQ k' ds (x.add y) (K+L+1)→R k' (.agg ds)) :
 Cl k 42 #[.agg cs,.agg cs'] R:=by
 intro k0 u0;obtain⟨a,b,rfl,a0,b0⟩:=hx.up u0;obtain⟨c,d,rfl,c0,d0⟩:=hy.up u0;refine aQe a0.seg b0.seg c0.seg d0.seg ?_;refine yG a0 c0 hK fun k1 e1 u1 h1=>⟨e1,h1.seg,rfl,?_⟩;refine yG (b0.up u1) (d0.up u1) hK fun k3 e3 u3 h3=>⟨e3,h3.seg,rfl,fun k4 u4=>?_⟩;exact C k4 _ (((u0.trans u1).trans u3).trans u4) ⟨e1,e3,rfl,(h1.up u3).up u4,h3.up u4⟩
theorem aEq (hx:WQ k cs x K) (hy:WQ k cs' y L) (hK:K+L≤10000000000) (C:∀k' ds,Up k k'→WQ k' ds (x.sub y) (K+L+1)→R k' (.agg ds)) :
 Cl k 45 #[.agg cs,.agg cs'] R:=by
 intro k0 u0;obtain⟨a,b,rfl,a0,b0⟩:=hx.up u0;obtain⟨c,d,rfl,c0,d0⟩:=hy.up u0;refine aQg a0.seg b0.seg c0.seg d0.seg ?_;refine aEi a0 c0 hK fun k1 e1 u1 h1=>⟨e1,h1.seg,rfl,?_⟩;refine aEi (b0.up u1) (d0.up u1) hK fun k3 e3 u3 h3=>⟨e3,h3.seg,rfl,fun k4 u4=>?_⟩;exact C k4 _ (((u0.trans u1).trans u3).trans u4) ⟨e1,e3,rfl,(h1.up u3).up u4,h3.up u4⟩
theorem dO (hx:WQ k cs x K) (hy:WQ k cs' y L) (hK:8*(K+L)+45≤10000000000) (C:∀k' ds,Up k k'→WQ k' ds (x.mul y) (8*(K+L)+45)→R k' (.agg ds)) :
 Cl k 43 #[.agg cs,.agg cs'] R:=by
 intro k0 u0;obtain⟨a,b,rfl,a0,b0⟩:=hx.up u0;obtain⟨c,d,rfl,c0,d0⟩:=hy.up u0;refine aQf a0.seg b0.seg c0.seg d0.seg ?_;refine yK a0 c0 oq fun k1 e1 u1 h1=>⟨e1,h1.seg,rfl,?_⟩;refine yK (b0.up u1) (d0.up u1) oq fun k2 e2 u2 h2=>⟨e2,h2.seg,rfl,?_⟩;refine aEi (h1.up u2) h2 oq fun k3 e3 u3 h3=>⟨e3,h3.seg,rfl,?_⟩;have u123:=(u1.trans u2).trans u3;refine yK (a0.up u123) (d0.up u123) oq fun k4 e4 u4 h4=>⟨e4,h4.seg,rfl,?_⟩;refine yK (b0.up (u123.trans u4)) (c0.up (u123.trans u4)) oq fun k5 e5 u5 h5=>⟨e5,h5.seg,rfl,?_⟩;refine yG (h4.up u5) h5 oq fun k6 e6 u6 h6=>⟨e6,h6.seg,rfl,fun k7 u7=>?_⟩;exact C k7 _ (((((u0.trans u123).trans u4).trans u5).trans u6).trans u7) ⟨e3,e6,rfl,((((h3.up u4).up u5).up u6).up u7).mono oq,(h6.up u7).mono oq⟩
theorem yP (hx:WQ k cs x K) (hK:K≤10000000000) (C:∀k' ds,Up k k'→WQ k' ds x.conj K→R k' (.agg ds)) :
 Cl k 41 #[.agg cs] R:=by
 intro k0 u0;obtain⟨a,b,rfl,a0,b0⟩:=hx.up u0;refine aKn a0.seg b0.seg ?_;refine fW b0 hK fun k2 e2 u2 h2=>⟨e2,h2.seg,rfl,fun k4 u4=>?_⟩;exact C k4 _ ((u0.trans u2).trans u4) ⟨a,e2,rfl,(a0.up u2).up u4,h2.up u4⟩
theorem aGr (hx:QV k cs q K) (hK:2≤K) (C:∀k' ds,Up k k'→WQ k' ds (W4.real q) K→R k' (.agg ds)) :
 Cl k 63 #[.agg cs] R:=by
 intro k0 u0;refine aKo hx.seg (aDv (hx.up u0) hK fun k1 e1 u1 h1=>⟨e1,h1.seg,rfl,?_⟩);refine dI oz oz fun k2 e2 u2 h2=>⟨e2,h2.seg,rfl,?_⟩;refine aDv h2 oz fun k3 e3 u3 h3=>⟨e3,h3.seg,rfl,fun k4 u4=>?_⟩;exact C k4 _ ((((u0.trans u1).trans u2).trans u3).trans u4) ⟨e1,e3,rfl,((h1.up u2).up u3).up u4,(h3.up u4).mono hK⟩
theorem aWe (hx:WQ k cs x K) (C:∀k',Up k k'→R k' (.bool (decide (x=W4.zero)))) :
 Cl k 19 #[.agg cs] R:=by
 intro k0 u0;obtain⟨a,b,rfl,a0,b0⟩:=hx.up u0;rw [W4.zero_iff]at C;refine aKp a0.seg b0.seg (aGk a0 fun k1 u1=>⟨_,rfl,fun h=>?_,fun h k5 u5=>?_⟩)
 ·rw [h]at C;exact aGk (b0.up u1) fun k2 u2=>⟨_,rfl,fun k3 u3=>C k3 (((u0.trans u1).trans u2).trans u3)⟩
 ·rw [h]at C;exact C k5 ((u0.trans u1).trans u5)
end
end Go.Proofs.YthiaclljcnincaaGreat.W32

namespace Go.Proofs.YthiaclljcnincaaGreat
open Go.RowKit
open Value (agg slice int bool tuple)
open Sy (Up Sees CallsG Seg execFn_use)
set_option maxRecDepth 100000
variable {k:World}{R:World→Value→Prop}
end Go.Proofs.YthiaclljcnincaaGreat

namespace Go.Proofs.YthiaclljcnincaaGreat.W32
open Go.RowKit Num
open Sy (Up Sees CallsG Seg)
section
variable {k k':World}{cs cs' c0 c1 c2 c3:Array Value}{R:World→Value→Prop}{x y q q':Rat}{v v':Q4}{K L:Nat}
end
end Go.Proofs.YthiaclljcnincaaGreat.W32

namespace Go.Proofs.YthiaclljcnincaaGreat
open Go.RowKit
open Value (agg slice int bool tuple)
open Sy (Up Sees CallsG Seg execFn_use)
set_option maxRecDepth 100000
variable {k:World}{R:World→Value→Prop}
end Go.Proofs.YthiaclljcnincaaGreat

namespace Go.Proofs.YthiaclljcnincaaGreat
open Go.RowKit Num Plain W32
open Sy (Up Sees CallsG Seg)
section
variable {k k':World}{R:World→Value→Prop}{x q:Rat}{K L:Nat}{cs cs':Array Value}{v:Q4}{w:W4}
end
