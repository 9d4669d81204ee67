/- Surds: quotients. (Printed by gen/surd5.py.) -/
import Derived.Test.YtpjakokgmgggiaaGreatSuVS
import Derived.Test.YtpjakokgmgggiaaGreatSuS4
import Derived.Test.YtpjakokgmgggiaaGreatSuVD
namespace Go.Proofs.YtpjakokgmgggiaaGreat
open Go.RowKit Num Plain
open Sy (Up Sees CallsG Seg)
def em (r : Rat) : Q23:=e4 r 0 0 0
theorem em_mul (r s : Rat) : em r*em s = em (r*s):=by
 unfold em; rw [e4_mul]; unfold e4
 refine Q23.ext' (Q2.ext' ?_ ?_) (Q2.ext' ?_ ?_) <;> (dsimp only; grind)
theorem em_one : em 1 = 1:=rfl
theorem e4_em (a b c d r : Rat) : e4 a b c d*em r = e4 (a*r) (b*r) (c*r) (d*r):=by
 unfold em; rw [e4_mul]; unfold e4
 refine Q23.ext' (Q2.ext' ?_ ?_) (Q2.ext' ?_ ?_) <;> (dsimp only; grind)
theorem mkQ_em (x0 x1 x2 x3 : Int) {m : Nat} (_hm : 0 < m) : (mkQ x0 x1 x2 x3 m).toQ = e4 x0 x1 x2 x3*em (1 / (m : Rat)):=by
 rw [e4_em]
 have hd : ∀ x : Int,mkRat x m = (x : Rat)*(1 / (m : Rat)):=fun x=>by
  rw [Rat.mkRat_eq_div,Rat.div_def,Rat.div_def,Rat.one_mul]
 show e4 (mkRat x0 m) (mkRat x1 m) (mkRat x2 m) (mkRat x3 m) = _
 rw [hd,hd,hd,hd]
theorem e4_ne {y : Q4} : y.toQ ≠ 0↔y ≠ Q4.zero:=by
 constructor
 ·intro h e; exact h (by rw [e]; rfl)
 ·intro h e; exact h (toQ_inj (e.trans toQ_zero.symm))
theorem div_law {x0 x1 x2 x3 y0 y1 y2 y3 p0 p1 p2 p3 t0 t1 t2 t3 n0 n1 n2 n3 w0 w1 w2 w3 : Int} {m n : Nat} (hm : 0 < m) (hn : 0 < n)
 (hp : e4 p0 p1 p2 p3 = e4 y0 y1 y2 y3*e4 y0 y1 ((-y2 : Int) : Rat) ((-y3 : Int) : Rat))
 (ht : e4 t0 t1 t2 t3 = e4 x0 x1 x2 x3*e4 y0 y1 ((-y2 : Int) : Rat) ((-y3 : Int) : Rat))
 (hN : e4 n0 n1 n2 n3 = e4 t0 t1 t2 t3*e4 p0 ((-p1 : Int) : Rat) ((0 : Int) : Rat) ((0 : Int) : Rat))
 (hw : e4 w0 w1 w2 w3 = e4 p0 p1 p2 p3*e4 p0 ((-p1 : Int) : Rat) ((0 : Int) : Rat) ((0 : Int) : Rat))
 (hy : mkQ y0 y1 y2 y3 n ≠ Q4.zero) :
 w0 ≠ 0∧(w0 < 0→(mkQ (-(n0*n)) (-(n1*n)) (-(n2*n)) (-(n3*n)) (m*w0.natAbs)).toQ*(mkQ y0 y1 y2 y3 n).toQ = (mkQ x0 x1 x2 x3 m).toQ) ∧
  (¬ w0 < 0→(mkQ (n0*n) (n1*n) (n2*n) (n3*n) (m*w0.natAbs)).toQ*(mkQ y0 y1 y2 y3 n).toQ = (mkQ x0 x1 x2 x3 m).toQ):=by
 have hY : e4 y0 y1 y2 y3 ≠ 0:=by
  intro h
  apply e4_ne.2 hy
  rw [mkQ_em _ _ _ _ hn,h]
  generalize em (1 / (n : Rat)) = z
  (refine Q23.ext' (Q2.ext' ?_ ?_) (Q2.ext' ?_ ?_) <;> (simp only [Q23.mul_re,Q23.mul_im,Q23.zero_re,Q23.zero_im,Q2.add_re,Q2.add_im,Q2.mul_re,Q2.mul_im,Q2.zero_re,Q2.zero_im,Q2.three_re,Q2.three_im]; grind))
 have hI : e4 y0 y1 ((-y2 : Int) : Rat) ((-y3 : Int) : Rat) ≠ 0:=by
  intro h
  apply hY
  obtain ⟨h0,h1,h2,h3⟩:=e4_inj (h.trans toQ_zero.symm : e4 _ _ _ _ = e4 0 0 0 0)
  rw [Rat.intCast_neg] at h2 h3
  rw [h0,h1,show ((y2 : Int) : Rat) = 0 by grind,show ((y3 : Int) : Rat) = 0 by grind]; rfl
 have hP:=C.mul_ne hY hI
 rw [← hp] at hP
 obtain ⟨_,_,e2,e3⟩:=e4_inj (hp.trans (e4_mul _ _ _ _ _ _ _ _))
 have e2 : ((p2 : Int) : Rat) = 0:=by rw [e2,Rat.intCast_neg,Rat.intCast_neg]; grind
 have e3 : ((p3 : Int) : Rat) = 0:=by rw [e3,Rat.intCast_neg,Rat.intCast_neg]; grind
 have hO : e4 p0 ((-p1 : Int) : Rat) ((0 : Int) : Rat) ((0 : Int) : Rat) ≠ 0:=by
  intro h
  apply hP
  obtain ⟨h0,h1,_,_⟩:=e4_inj (h.trans toQ_zero.symm : e4 _ _ _ _ = e4 0 0 0 0)
  rw [Rat.intCast_neg] at h1
  rw [h0,e2,e3,show ((p1 : Int) : Rat) = 0 by grind]; rfl
 have hW:=C.mul_ne hP hO
 rw [← hw] at hW
 have hwe : e4 w0 w1 w2 w3 = em (w0 : Rat):=by
  obtain ⟨_,f1,f2,f3⟩:=e4_inj (hw.trans (e4_mul _ _ _ _ _ _ _ _))
  have g1 : ((w1 : Int) : Rat) = 0:=by rw [f1,e2,e3,Rat.intCast_neg,Rat.intCast_zero]; grind
  have g2 : ((w2 : Int) : Rat) = 0:=by rw [f2,e2,e3,Rat.intCast_zero]; grind
  have g3 : ((w3 : Int) : Rat) = 0:=by rw [f3,e2,e3,Rat.intCast_neg,Rat.intCast_zero]; grind
  rw [g1,g2,g3]; rfl
 rw [hwe] at hW
 have hw0 : w0 ≠ 0:=by
  intro e; apply hW; rw [e]; rfl
 have hw0' : (w0 : Rat) ≠ 0:=by
  intro e; apply hw0; exact Rat.intCast_inj.1 (by rw [e]; rfl)
 -- the heart: N Y = w X
 have heart : e4 n0 n1 n2 n3*e4 y0 y1 y2 y3 = em w0*e4 x0 x1 x2 x3:=by
  rw [hN,ht,← hwe,hw,hp]; ac_rfl
 have hnr:=natCast_ne hn
 have hmr:=natCast_ne hm
 have fin : ∀ (s : Rat) (a0 a1 a2 a3 : Int),s*(w0.natAbs : Rat) = w0→(∀ z : Int,True)→e4 a0 a1 a2 a3 = e4 n0 n1 n2 n3*em (s*n)→s*s = 1 →
  (mkQ a0 a1 a2 a3 (m*w0.natAbs)).toQ*(mkQ y0 y1 y2 y3 n).toQ = (mkQ x0 x1 x2 x3 m).toQ:=by
  intro s a0 a1 a2 a3 hs _ ha hss
  have hab : 0 < w0.natAbs:=Int.natAbs_pos.2 hw0
  have habr:=natCast_ne hab
  rw [mkQ_em _ _ _ _ (Nat.mul_pos hm hab),mkQ_em _ _ _ _ hn,mkQ_em _ _ _ _ hm,ha]
  have e : e4 n0 n1 n2 n3*em (s*n)*em (1 / ((m*w0.natAbs : Nat) : Rat))*(e4 y0 y1 y2 y3*em (1 / (n : Rat))) = (e4 n0 n1 n2 n3*e4 y0 y1 y2 y3)*(em (s*n)*em (1 / ((m*w0.natAbs : Nat) : Rat))*em (1 / (n : Rat))):=by ac_rfl
  rw [e,heart,em_mul,em_mul]
  have e' : em w0*e4 x0 x1 x2 x3*em (s*n*(1 / ((m*w0.natAbs : Nat) : Rat))*(1 / (n : Rat))) = e4 x0 x1 x2 x3*(em w0*em (s*n*(1 / ((m*w0.natAbs : Nat) : Rat))*(1 / (n : Rat)))):=by ac_rfl
  rw [e',em_mul]
  congr 2
  rw [Rat.natCast_mul,← hs]
  grind
 refine ⟨hw0,fun hlt=>?_,fun hge=>?_⟩
 ·refine fin (-1) _ _ _ _ ?_ (fun _=>trivial) ?_ (by grind)
  ·have : (w0.natAbs : Int) = -w0:=by omega
   have h2 : ((w0.natAbs : Nat) : Rat) = ((-w0 : Int) : Rat):=by rw [← this]; rfl
   rw [h2,Rat.intCast_neg]; grind
  ·rw [e4_em]
   simp only [Rat.intCast_neg,Rat.intCast_mul,Rat.intCast_natCast]
   congr 1 <;> grind
 ·refine fin 1 _ _ _ _ ?_ (fun _=>trivial) ?_ (by grind)
  ·have : (w0.natAbs : Int) = w0:=by omega
   have h2 : ((w0.natAbs : Nat) : Rat) = ((w0 : Int) : Rat):=by
    conv=>rhs; rw [← this]
    rfl
   rw [h2]; grind
  ·rw [e4_em]
   simp only [Rat.intCast_mul,Rat.intCast_natCast]
   congr 1 <;> grind
theorem z4_mul (x0 x1 x2 x3 y0 y1 y2 y3 : Int) : e4 ((x0*y0+x1*y1*(2 : Nat)+x2*y2*(3 : Nat)+x3*y3*(6 : Nat) : Int) : Rat) ((x0*y1+x1*y0+(x2*y3+x3*y2)*(3 : Nat) : Int) : Rat) ((x0*y2+x2*y0+(x1*y3+x3*y1)*(2 : Nat) : Int) : Rat) ((x0*y3+x3*y0+x1*y2+x2*y1 : Int) : Rat) = e4 x0 x1 x2 x3*e4 y0 y1 y2 y3:=by
 rw [e4_mul]
 simp only [Rat.intCast_add,Rat.intCast_mul,Rat.intCast_natCast]
 show e4 ((x0 : Rat)*y0+x1*y1*2+x2*y2*3+x3*y3*6) (x0*y1+x1*y0+(x2*y3+x3*y2)*3) (x0*y2+x2*y0+(x1*y3+x3*y1)*2) (x0*y3+x3*y0+x1*y2+x2*y1) = _
 unfold e4
 refine Q23.ext' (Q2.ext' ?_ ?_) (Q2.ext' ?_ ?_) <;> first | rfl | grind | (dsimp only; grind)
section
variable {k : World} {R : World→Value→Prop} {K L : Nat} {cs cs' : Array Value} {v v' : Q4}
theorem IntV.dest {z : Int} (h : IntV k cs z K) : ∃ b A n c,cs = #[.bool b,.slice A n c]∧IntV k #[.bool b,.slice A n c] z K:=by
 obtain ⟨b,A,n,c,rfl,h1,h2⟩:=h; exact ⟨b,A,n,c,rfl,b,A,n,c,rfl,h1,h2⟩
theorem SurdV.flat (h : SurdV k cs v K) : ∃ b0 A0 l0 c0 b1 A1 l1 c1 b2 A2 l2 c2 b3 A3 l3 c3 D d e,cs = #[.bool b0,.slice A0 l0 c0,.bool b1,.slice A1 l1 c1,.bool b2,.slice A2 l2 c2,.bool b3,.slice A3 l3 c3,.slice D d e]:=by
 obtain ⟨_,_,_,_,D,d,e,y0,y1,y2,y3,m,rfl,h2,h3,h4,⟨b0,A0,l0,c0,rfl,_⟩,⟨b1,A1,l1,c1,rfl,_⟩,⟨b2,A2,l2,c2,rfl,_⟩,⟨b3,A3,l3,c3,rfl,_⟩,l,hd⟩:=h
 exact ⟨b0,A0,l0,c0,b1,A1,l1,c1,b2,A2,l2,c2,b3,A3,l3,c3,D,d,e,rfl⟩
theorem SurdV.nil (hK : 0≤K) : SurdV k #[.bool false,.slice none 0 0,.bool false,.slice none 0 0,.bool false,.slice none 0 0,.bool false,.slice none 0 0,.slice none 0 0] Q4.zero K :=
 ⟨_,_,_,_,none,0,0,0,0,0,0,1,rfl,by omega,by decide,by unfold mkQ Q4.zero; simp,IntV.nil,IntV.nil,IntV.nil,IntV.nil,LimR.nil,hK⟩
theorem product_q {xb0 : Bool} {xA0 : Option Addr} {xn0 xc0 : Nat} {xb1 : Bool} {xA1 : Option Addr} {xn1 xc1 : Nat} {xb2 : Bool} {xA2 : Option Addr} {xn2 xc2 : Nat} {xb3 : Bool} {xA3 : Option Addr} {xn3 xc3 : Nat} {yb0 : Bool} {yA0 : Option Addr} {yn0 yc0 : Nat} {yb1 : Bool} {yA1 : Option Addr} {yn1 yc1 : Nat} {yb2 : Bool} {yA2 : Option Addr} {yn2 yc2 : Nat} {yb3 : Bool} {yA3 : Option Addr} {yn3 yc3 : Nat} {x0 x1 x2 x3 y0 y1 y2 y3 : Int} (i0 : IntV k #[.bool xb0,.slice xA0 xn0 xc0] x0 K) (i1 : IntV k #[.bool xb1,.slice xA1 xn1 xc1] x1 K) (i2 : IntV k #[.bool xb2,.slice xA2 xn2 xc2] x2 K) (i3 : IntV k #[.bool xb3,.slice xA3 xn3 xc3] x3 K) (j0 : IntV k #[.bool yb0,.slice yA0 yn0 yc0] y0 K) (j1 : IntV k #[.bool yb1,.slice yA1 yn1 yc1] y1 K) (j2 : IntV k #[.bool yb2,.slice yA2 yn2 yc2] y2 K) (j3 : IntV k #[.bool yb3,.slice yA3 yn3 yc3] y3 K) (hK : K≤268435456)
 (C : ∀ k' b0 A0 l0 g0 b1 A1 l1 g1 b2 A2 l2 g2 b3 A3 l3 g3 (p0 p1 p2 p3 : Int),Up k k'→e4 p0 p1 p2 p3 = e4 x0 x1 x2 x3*e4 y0 y1 y2 y3→IntV k' #[.bool b0,.slice A0 l0 g0] p0 (2*K+4)→IntV k' #[.bool b1,.slice A1 l1 g1] p1 (2*K+4)→IntV k' #[.bool b2,.slice A2 l2 g2] p2 (2*K+4)→IntV k' #[.bool b3,.slice A3 l3 g3] p3 (2*K+4) →
   R k' (.agg #[.bool b0,.slice A0 l0 g0,.bool b1,.slice A1 l1 g1,.bool b2,.slice A2 l2 g2,.bool b3,.slice A3 l3 g3])) :
 Cl k 160 #[.agg #[.bool xb0,.slice xA0 xn0 xc0,.bool xb1,.slice xA1 xn1 xc1,.bool xb2,.slice xA2 xn2 xc2,.bool xb3,.slice xA3 xn3 xc3],.agg #[.bool yb0,.slice yA0 yn0 yc0,.bool yb1,.slice yA1 yn1 yc1,.bool yb2,.slice yA2 yn2 yc2,.bool yb3,.slice yA3 yn3 yc3]] R:=by
 have h:=product_s (R:=R) i0 i1 i2 i3 j0 j1 j2 j3 hK fun k' d0 d1 d2 d3 u z0 z1 z2 z3=>by
  obtain ⟨b0,A0,l0,g0,rfl,z0⟩:=z0.dest
  obtain ⟨b1,A1,l1,g1,rfl,z1⟩:=z1.dest
  obtain ⟨b2,A2,l2,g2,rfl,z2⟩:=z2.dest
  obtain ⟨b3,A3,l3,g3,rfl,z3⟩:=z3.dest
  exact C k' b0 A0 l0 g0 b1 A1 l1 g1 b2 A2 l2 g2 b3 A3 l3 g3 _ _ _ _ u (z4_mul x0 x1 x2 x3 y0 y1 y2 y3) z0 z1 z2 z3
 exact h
theorem surd_q {xb0 : Bool} {xA0 : Option Addr} {xn0 xc0 : Nat} {xb1 : Bool} {xA1 : Option Addr} {xn1 xc1 : Nat} {xb2 : Bool} {xA2 : Option Addr} {xn2 xc2 : Nat} {xb3 : Bool} {xA3 : Option Addr} {xn3 xc3 : Nat}  {x0 x1 x2 x3 : Int} {A : Option Addr} {n c m : Nat} (i0 : IntV k #[.bool xb0,.slice xA0 xn0 xc0] x0 K) (i1 : IntV k #[.bool xb1,.slice xA1 xn1 xc1] x1 K) (i2 : IntV k #[.bool xb2,.slice xA2 xn2 xc2] x2 K) (i3 : IntV k #[.bool xb3,.slice xA3 xn3 xc3] x3 K)  (hm : LimR k A n c m) (hm0 : 0 < m) (hn : n≤K) (hK : K≤1073741824)
 (C : ∀ k' ds,Up k k'→SurdV k' ds (mkQ x0 x1 x2 x3 m) K→R k' (.agg ds)) :
 Cl k 161 #[.agg #[.bool xb0,.slice xA0 xn0 xc0,.bool xb1,.slice xA1 xn1 xc1,.bool xb2,.slice xA2 xn2 xc2,.bool xb3,.slice xA3 xn3 xc3],.slice A n c] R:=by
 have h:=surd_s (R:=R) i0 i1 i2 i3 hm hm0 hn hK C
 exact h
theorem SDiv_s (hx : SurdV k cs v K) (hy : SurdV k cs' v' K) (hK1 : 1≤K) (hK : K≤33554431)
 (C0 : ∀ k',Up k k'→v' = Q4.zero→R k' (.tuple #[.agg #[.bool false,.slice none 0 0,.bool false,.slice none 0 0,.bool false,.slice none 0 0,.bool false,.slice none 0 0,.slice none 0 0],.int .i64 3]))
 (C : ∀ k' ds q,Up k k'→SurdV k' ds q ((2*(2*K+4)+4)+K)→q.toQ*v'.toQ = v.toQ→R k' (.tuple #[.agg ds,.int .i64 0])) :
 Cl k 69 #[.agg cs,.agg cs'] R:=by
 intro k0 u0
 obtain ⟨_,_,_,_,D,d,e,x0,x1,x2,x3,m,rfl,hm,hg,rfl,i0,i1,i2,i3,lx,hd⟩:=hx.up u0
 have hy':=hy.up u0
 obtain ⟨_,_,_,_,D',d',e',y0,y1,y2,y3,n,rfl,hn,hg',rfl,j0,j1,j2,j3,ly,hd'⟩:=hy'
 obtain ⟨bx0,Ax0,nx0,cx0,rfl,i0⟩:=i0.dest
 obtain ⟨by0,Ay0,ny0,cy0,rfl,j0⟩:=j0.dest
 obtain ⟨bx1,Ax1,nx1,cx1,rfl,i1⟩:=i1.dest
 obtain ⟨by1,Ay1,ny1,cy1,rfl,j1⟩:=j1.dest
 obtain ⟨bx2,Ax2,nx2,cx2,rfl,i2⟩:=i2.dest
 obtain ⟨by2,Ay2,ny2,cy2,rfl,j2⟩:=j2.dest
 obtain ⟨bx3,Ax3,nx3,cx3,rfl,i3⟩:=i3.dest
 obtain ⟨by3,Ay3,ny3,cy3,rfl,j3⟩:=j3.dest
 replace hy:=hy.up u0
 replace C0:=fun k' u=>C0 k' (u0.trans u)
 replace C:=fun k' ds q u=>C k' ds q (u0.trans u)
 refine SDiv_vc2 ?_
 refine SZero_s hy (by omega) ?_
 intro k1 u1 b hb
 refine ⟨b,rfl,fun hbt=>?_,fun hbf=>?_⟩
 ·intro k2 u2
  exact C0 k2 (u1.trans u2) (hb.1 hbt)
 have hyz : mkQ y0 y1 y2 y3 n ≠ Q4.zero:=fun h=>by rw [hb.2 h] at hbf; cases hbf
 clear hy C0 hb
 replace i0:=i0.up u1
 replace i1:=i1.up u1
 replace i2:=i2.up u1
 replace i3:=i3.up u1
 replace lx:=lx.up u1
 replace j0:=j0.up u1
 replace j1:=j1.up u1
 replace j2:=j2.up u1
 replace j3:=j3.up u1
 replace ly:=ly.up u1
 replace C:=fun k' ds q u=>C k' ds q (u1.trans u)
 refine iminus_s j2 (by omega) ?_
 intro k2 csm2 u2 m2
 obtain ⟨bm2,Am2,nm2,cm2,rfl,m2⟩:=m2.dest
 refine ⟨bm2,Am2,nm2,cm2,rfl,?_⟩
 replace i0:=i0.up u2
 replace i1:=i1.up u2
 replace i2:=i2.up u2
 replace i3:=i3.up u2
 replace lx:=lx.up u2
 replace j0:=j0.up u2
 replace j1:=j1.up u2
 replace j2:=j2.up u2
 replace j3:=j3.up u2
 replace ly:=ly.up u2
 replace C:=fun k' ds q u=>C k' ds q (u2.trans u)
 refine iminus_s j3 (by omega) ?_
 intro k3 csm3 u3 m3
 obtain ⟨bm3,Am3,nm3,cm3,rfl,m3⟩:=m3.dest
 refine ⟨bm3,Am3,nm3,cm3,rfl,?_⟩
 replace i0:=i0.up u3
 replace i1:=i1.up u3
 replace i2:=i2.up u3
 replace i3:=i3.up u3
 replace lx:=lx.up u3
 replace j0:=j0.up u3
 replace j1:=j1.up u3
 replace j2:=j2.up u3
 replace j3:=j3.up u3
 replace ly:=ly.up u3
 replace m2:=m2.up u3
 replace C:=fun k' ds q u=>C k' ds q (u3.trans u)
 refine product_q (K:=K) j0 j1 j2 j3 j0 j1 m2 m3 (by omega) ?_
 intro k4 bp0 Ap0 np0 cp0 bp1 Ap1 np1 cp1 bp2 Ap2 np2 cp2 bp3 Ap3 np3 cp3 p0 p1 p2 p3 u4 hp zp0 zp1 zp2 zp3
 refine ⟨bp0,Ap0,np0,cp0,bp1,Ap1,np1,cp1,bp2,Ap2,np2,cp2,bp3,Ap3,np3,cp3,rfl,?_⟩
 replace i0:=i0.up u4
 replace i1:=i1.up u4
 replace i2:=i2.up u4
 replace i3:=i3.up u4
 replace lx:=lx.up u4
 replace j0:=j0.up u4
 replace j1:=j1.up u4
 replace ly:=ly.up u4
 replace m2:=m2.up u4
 replace m3:=m3.up u4
 replace C:=fun k' ds q u=>C k' ds q (u4.trans u)
 refine iminus_s zp1 (by omega) ?_
 intro k5 cso1 u5 o1
 obtain ⟨bo1,Ao1,no1,co1,rfl,o1⟩:=o1.dest
 refine ⟨bo1,Ao1,no1,co1,rfl,?_⟩
 replace i0:=i0.up u5
 replace i1:=i1.up u5
 replace i2:=i2.up u5
 replace i3:=i3.up u5
 replace lx:=lx.up u5
 replace j0:=j0.up u5
 replace j1:=j1.up u5
 replace ly:=ly.up u5
 replace m2:=m2.up u5
 replace m3:=m3.up u5
 replace zp0:=zp0.up u5
 replace zp1:=zp1.up u5
 replace zp2:=zp2.up u5
 replace zp3:=zp3.up u5
 replace C:=fun k' ds q u=>C k' ds q (u5.trans u)
 refine product_q (K:=K) i0 i1 i2 i3 j0 j1 m2 m3 (by omega) ?_
 intro k6 bt0 At0 nt0 ct0 bt1 At1 nt1 ct1 bt2 At2 nt2 ct2 bt3 At3 nt3 ct3 t0 t1 t2 t3 u6 ht zt0 zt1 zt2 zt3
 refine ⟨bt0,At0,nt0,ct0,bt1,At1,nt1,ct1,bt2,At2,nt2,ct2,bt3,At3,nt3,ct3,rfl,?_⟩
 replace lx:=lx.up u6
 replace ly:=ly.up u6
 replace zp0:=zp0.up u6
 replace zp1:=zp1.up u6
 replace zp2:=zp2.up u6
 replace zp3:=zp3.up u6
 replace o1:=o1.up u6
 replace C:=fun k' ds q u=>C k' ds q (u6.trans u)
 refine product_q (K:=2*K+4) zt0 zt1 zt2 zt3 zp0 o1 IntV.nil IntV.nil (by omega) ?_
 intro k7 bs0 As0 ns0 cs0 bs1 As1 ns1 cs1 bs2 As2 ns2 cs2 bs3 As3 ns3 cs3 s0 s1 s2 s3 u7 hs zs0 zs1 zs2 zs3
 refine ⟨bs0,As0,ns0,cs0,bs1,As1,ns1,cs1,bs2,As2,ns2,cs2,bs3,As3,ns3,cs3,rfl,?_⟩
 replace lx:=lx.up u7
 replace ly:=ly.up u7
 replace zp0:=zp0.up u7
 replace zp1:=zp1.up u7
 replace zp2:=zp2.up u7
 replace zp3:=zp3.up u7
 replace o1:=o1.up u7
 replace C:=fun k' ds q u=>C k' ds q (u7.trans u)
 refine product_q (K:=2*K+4) zp0 zp1 zp2 zp3 zp0 o1 IntV.nil IntV.nil (by omega) ?_
 intro k8 bw0 Aw0 nw0 cw0 bw1 Aw1 nw1 cw1 bw2 Aw2 nw2 cw2 bw3 Aw3 nw3 cw3 w0 w1 w2 w3 u8 hw zw0 zw1 zw2 zw3
 refine ⟨bw0,Aw0,nw0,cw0,bw1,Aw1,nw1,cw1,bw2,Aw2,nw2,cw2,bw3,Aw3,nw3,cw3,rfl,?_⟩
 replace lx:=lx.up u8
 replace ly:=ly.up u8
 replace zs0:=zs0.up u8
 replace zs1:=zs1.up u8
 replace zs2:=zs2.up u8
 replace zs3:=zs3.up u8
 replace C:=fun k' ds q u=>C k' ds q (u8.trans u)
 obtain ⟨hw0,hneg,hpos⟩:=div_law hm hn hp ht hs hw hyz
 clear hp ht hs hw hyz zp0 zp1 zp2 zp3 zt0 zt1 zt2 zt3 m2 m3 o1 zw1 zw2 zw3 i0 i1 i2 i3 j0 j1 j2 j3
 obtain ⟨_,_,_,_,ecs,iw,lw⟩:=zw0
 injection ecs with ecs; injection ecs with e1 e2; injection e1 with e1; injection e2 with e2 _; injection e2 with e2 e3 e4; subst e1 e2 e3 e4
 have hnegw:=iw.neg
 have lw':=iw.lim
 refine under_s ly hn (L:=K) hd' hK1 (by omega) ?_
 intro k9 Aq0 nq0 cq0 u9 q0 hq0
 refine ⟨Aq0,nq0,cq0,rfl,?_⟩
 replace lx:=lx.up u9
 replace ly:=ly.up u9
 replace zs0:=zs0.up u9
 replace zs1:=zs1.up u9
 replace zs2:=zs2.up u9
 replace zs3:=zs3.up u9
 replace lw':=lw'.up u9
 replace C:=fun k' ds q u=>C k' ds q (u9.trans u)
 refine scaled_s zs0 q0 (K:=(2*(2*K+4)+4)) (L:=K) (by omega) hq0 (by omega) ?_
 intro k10 csf0 u10 f0
 obtain ⟨bf0,Af0,nf0,cf0,rfl,f0⟩:=f0.dest
 refine ⟨bf0,Af0,nf0,cf0,rfl,?_⟩
 replace lx:=lx.up u10
 replace ly:=ly.up u10
 replace zs1:=zs1.up u10
 replace zs2:=zs2.up u10
 replace zs3:=zs3.up u10
 replace lw':=lw'.up u10
 replace C:=fun k' ds q u=>C k' ds q (u10.trans u)
 refine ⟨fun hbb=>?_,fun hbb=>?_⟩
 ·refine iminus_s f0 (by omega) ?_
  intro k11 csg0 u11 g0
  obtain ⟨bg0,Ag0,ng0,cg0,rfl,g0⟩:=g0.dest
  refine ⟨bg0,Ag0,ng0,cg0,rfl,?_⟩
  replace lx:=lx.up u11
  replace ly:=ly.up u11
  replace zs1:=zs1.up u11
  replace zs2:=zs2.up u11
  replace zs3:=zs3.up u11
  replace lw':=lw'.up u11
  replace f0:=f0.up u11
  replace C:=fun k' ds q u=>C k' ds q (u11.trans u)
  refine under_s ly hn (L:=K) hd' hK1 (by omega) ?_
  intro k12 Aq1 nq1 cq1 u12 q1 hq1
  refine ⟨Aq1,nq1,cq1,rfl,?_⟩
  replace lx:=lx.up u12
  replace ly:=ly.up u12
  replace zs1:=zs1.up u12
  replace zs2:=zs2.up u12
  replace zs3:=zs3.up u12
  replace lw':=lw'.up u12
  replace f0:=f0.up u12
  replace g0:=g0.up u12
  replace C:=fun k' ds q u=>C k' ds q (u12.trans u)
  refine scaled_s zs1 q1 (K:=(2*(2*K+4)+4)) (L:=K) (by omega) hq1 (by omega) ?_
  intro k13 csf1 u13 f1
  obtain ⟨bf1,Af1,nf1,cf1,rfl,f1⟩:=f1.dest
  refine ⟨bf1,Af1,nf1,cf1,rfl,?_⟩
  replace lx:=lx.up u13
  replace ly:=ly.up u13
  replace zs1:=zs1.up u13
  replace zs2:=zs2.up u13
  replace zs3:=zs3.up u13
  replace lw':=lw'.up u13
  replace f0:=f0.up u13
  replace g0:=g0.up u13
  replace q1:=q1.up u13
  replace C:=fun k' ds q u=>C k' ds q (u13.trans u)
  refine iminus_s f1 (by omega) ?_
  intro k14 csg1 u14 g1
  obtain ⟨bg1,Ag1,ng1,cg1,rfl,g1⟩:=g1.dest
  refine ⟨bg1,Ag1,ng1,cg1,rfl,?_⟩
  replace lx:=lx.up u14
  replace ly:=ly.up u14
  replace zs1:=zs1.up u14
  replace zs2:=zs2.up u14
  replace zs3:=zs3.up u14
  replace lw':=lw'.up u14
  replace f0:=f0.up u14
  replace g0:=g0.up u14
  replace q1:=q1.up u14
  replace f1:=f1.up u14
  replace C:=fun k' ds q u=>C k' ds q (u14.trans u)
  refine under_s ly hn (L:=K) hd' hK1 (by omega) ?_
  intro k15 Aq2 nq2 cq2 u15 q2 hq2
  refine ⟨Aq2,nq2,cq2,rfl,?_⟩
  replace lx:=lx.up u15
  replace ly:=ly.up u15
  replace zs1:=zs1.up u15
  replace zs2:=zs2.up u15
  replace zs3:=zs3.up u15
  replace lw':=lw'.up u15
  replace f0:=f0.up u15
  replace g0:=g0.up u15
  replace q1:=q1.up u15
  replace f1:=f1.up u15
  replace g1:=g1.up u15
  replace C:=fun k' ds q u=>C k' ds q (u15.trans u)
  refine scaled_s zs2 q2 (K:=(2*(2*K+4)+4)) (L:=K) (by omega) hq2 (by omega) ?_
  intro k16 csf2 u16 f2
  obtain ⟨bf2,Af2,nf2,cf2,rfl,f2⟩:=f2.dest
  refine ⟨bf2,Af2,nf2,cf2,rfl,?_⟩
  replace lx:=lx.up u16
  replace ly:=ly.up u16
  replace zs1:=zs1.up u16
  replace zs2:=zs2.up u16
  replace zs3:=zs3.up u16
  replace lw':=lw'.up u16
  replace f0:=f0.up u16
  replace g0:=g0.up u16
  replace q1:=q1.up u16
  replace f1:=f1.up u16
  replace g1:=g1.up u16
  replace q2:=q2.up u16
  replace C:=fun k' ds q u=>C k' ds q (u16.trans u)
  refine iminus_s f2 (by omega) ?_
  intro k17 csg2 u17 g2
  obtain ⟨bg2,Ag2,ng2,cg2,rfl,g2⟩:=g2.dest
  refine ⟨bg2,Ag2,ng2,cg2,rfl,?_⟩
  replace lx:=lx.up u17
  replace ly:=ly.up u17
  replace zs1:=zs1.up u17
  replace zs2:=zs2.up u17
  replace zs3:=zs3.up u17
  replace lw':=lw'.up u17
  replace f0:=f0.up u17
  replace g0:=g0.up u17
  replace q1:=q1.up u17
  replace f1:=f1.up u17
  replace g1:=g1.up u17
  replace q2:=q2.up u17
  replace f2:=f2.up u17
  replace C:=fun k' ds q u=>C k' ds q (u17.trans u)
  refine under_s ly hn (L:=K) hd' hK1 (by omega) ?_
  intro k18 Aq3 nq3 cq3 u18 q3 hq3
  refine ⟨Aq3,nq3,cq3,rfl,?_⟩
  replace lx:=lx.up u18
  replace ly:=ly.up u18
  replace zs1:=zs1.up u18
  replace zs2:=zs2.up u18
  replace zs3:=zs3.up u18
  replace lw':=lw'.up u18
  replace f0:=f0.up u18
  replace g0:=g0.up u18
  replace q1:=q1.up u18
  replace f1:=f1.up u18
  replace g1:=g1.up u18
  replace q2:=q2.up u18
  replace f2:=f2.up u18
  replace g2:=g2.up u18
  replace C:=fun k' ds q u=>C k' ds q (u18.trans u)
  refine scaled_s zs3 q3 (K:=(2*(2*K+4)+4)) (L:=K) (by omega) hq3 (by omega) ?_
  intro k19 csf3 u19 f3
  obtain ⟨bf3,Af3,nf3,cf3,rfl,f3⟩:=f3.dest
  refine ⟨bf3,Af3,nf3,cf3,rfl,?_⟩
  replace lx:=lx.up u19
  replace ly:=ly.up u19
  replace zs1:=zs1.up u19
  replace zs2:=zs2.up u19
  replace zs3:=zs3.up u19
  replace lw':=lw'.up u19
  replace f0:=f0.up u19
  replace g0:=g0.up u19
  replace q1:=q1.up u19
  replace f1:=f1.up u19
  replace g1:=g1.up u19
  replace q2:=q2.up u19
  replace f2:=f2.up u19
  replace g2:=g2.up u19
  replace q3:=q3.up u19
  replace C:=fun k' ds q u=>C k' ds q (u19.trans u)
  refine iminus_s f3 (by omega) ?_
  intro k20 csg3 u20 g3
  obtain ⟨bg3,Ag3,ng3,cg3,rfl,g3⟩:=g3.dest
  refine ⟨bg3,Ag3,ng3,cg3,rfl,?_⟩
  replace lx:=lx.up u20
  replace ly:=ly.up u20
  replace zs1:=zs1.up u20
  replace zs2:=zs2.up u20
  replace zs3:=zs3.up u20
  replace lw':=lw'.up u20
  replace f0:=f0.up u20
  replace g0:=g0.up u20
  replace q1:=q1.up u20
  replace f1:=f1.up u20
  replace g1:=g1.up u20
  replace q2:=q2.up u20
  replace f2:=f2.up u20
  replace g2:=g2.up u20
  replace q3:=q3.up u20
  replace f3:=f3.up u20
  replace C:=fun k' ds q u=>C k' ds q (u20.trans u)
  refine under_s lx hm (L:=K) hd hK1 (by omega) ?_
  intro k21 Aqx nqx cqx u21 qx hqx
  refine ⟨Aqx,nqx,cqx,rfl,?_⟩
  replace lx:=lx.up u21
  replace ly:=ly.up u21
  replace zs1:=zs1.up u21
  replace zs2:=zs2.up u21
  replace zs3:=zs3.up u21
  replace lw':=lw'.up u21
  replace f0:=f0.up u21
  replace g0:=g0.up u21
  replace q1:=q1.up u21
  replace f1:=f1.up u21
  replace g1:=g1.up u21
  replace q2:=q2.up u21
  replace f2:=f2.up u21
  replace g2:=g2.up u21
  replace q3:=q3.up u21
  replace f3:=f3.up u21
  replace g3:=g3.up u21
  replace C:=fun k' ds q u=>C k' ds q (u21.trans u)
  refine times_s qx lw' (by omega) (by omega) ?_
  intro k22 Aqm nqm cqm u22 qm hqm
  refine ⟨Aqm,nqm,cqm,rfl,?_⟩
  replace lx:=lx.up u22
  replace ly:=ly.up u22
  replace zs1:=zs1.up u22
  replace zs2:=zs2.up u22
  replace zs3:=zs3.up u22
  replace lw':=lw'.up u22
  replace f0:=f0.up u22
  replace g0:=g0.up u22
  replace q1:=q1.up u22
  replace f1:=f1.up u22
  replace g1:=g1.up u22
  replace q2:=q2.up u22
  replace f2:=f2.up u22
  replace g2:=g2.up u22
  replace q3:=q3.up u22
  replace f3:=f3.up u22
  replace g3:=g3.up u22
  replace qx:=qx.up u22
  replace C:=fun k' ds q u=>C k' ds q (u22.trans u)
  refine surd_q (K:=((2*(2*K+4)+4)+K)) g0 g1 g2 g3 qm (Nat.mul_pos hm (Int.natAbs_pos.2 hw0)) (by omega) (by omega) ?_
  intro k23 ds u23 hs
  obtain ⟨rb0,rA0,rn0,rc0,rb1,rA1,rn1,rc1,rb2,rA2,rn2,rc2,rb3,rA3,rn3,rc3,rD,rd,re,rfl⟩:=hs.flat
  refine ⟨rb0,rA0,rn0,rc0,rb1,rA1,rn1,rc1,rb2,rA2,rn2,rc2,rb3,rA3,rn3,rc3,rD,rd,re,rfl,?_⟩
  intro k24 u24
  have hsign : True:=trivial
  exact C _ _ _ (u23.trans u24) (hs.up u24) (hneg (by simpa [hbb] using hnegw.symm))
 ·refine under_s ly hn (L:=K) hd' hK1 (by omega) ?_
  intro k11 Aq1 nq1 cq1 u11 q1 hq1
  refine ⟨Aq1,nq1,cq1,rfl,?_⟩
  replace lx:=lx.up u11
  replace ly:=ly.up u11
  replace zs1:=zs1.up u11
  replace zs2:=zs2.up u11
  replace zs3:=zs3.up u11
  replace lw':=lw'.up u11
  replace f0:=f0.up u11
  replace C:=fun k' ds q u=>C k' ds q (u11.trans u)
  refine scaled_s zs1 q1 (K:=(2*(2*K+4)+4)) (L:=K) (by omega) hq1 (by omega) ?_
  intro k12 csf1 u12 f1
  obtain ⟨bf1,Af1,nf1,cf1,rfl,f1⟩:=f1.dest
  refine ⟨bf1,Af1,nf1,cf1,rfl,?_⟩
  replace lx:=lx.up u12
  replace ly:=ly.up u12
  replace zs2:=zs2.up u12
  replace zs3:=zs3.up u12
  replace lw':=lw'.up u12
  replace f0:=f0.up u12
  replace C:=fun k' ds q u=>C k' ds q (u12.trans u)
  refine under_s ly hn (L:=K) hd' hK1 (by omega) ?_
  intro k13 Aq2 nq2 cq2 u13 q2 hq2
  refine ⟨Aq2,nq2,cq2,rfl,?_⟩
  replace lx:=lx.up u13
  replace ly:=ly.up u13
  replace zs2:=zs2.up u13
  replace zs3:=zs3.up u13
  replace lw':=lw'.up u13
  replace f0:=f0.up u13
  replace f1:=f1.up u13
  replace C:=fun k' ds q u=>C k' ds q (u13.trans u)
  refine scaled_s zs2 q2 (K:=(2*(2*K+4)+4)) (L:=K) (by omega) hq2 (by omega) ?_
  intro k14 csf2 u14 f2
  obtain ⟨bf2,Af2,nf2,cf2,rfl,f2⟩:=f2.dest
  refine ⟨bf2,Af2,nf2,cf2,rfl,?_⟩
  replace lx:=lx.up u14
  replace ly:=ly.up u14
  replace zs3:=zs3.up u14
  replace lw':=lw'.up u14
  replace f0:=f0.up u14
  replace f1:=f1.up u14
  replace C:=fun k' ds q u=>C k' ds q (u14.trans u)
  refine under_s ly hn (L:=K) hd' hK1 (by omega) ?_
  intro k15 Aq3 nq3 cq3 u15 q3 hq3
  refine ⟨Aq3,nq3,cq3,rfl,?_⟩
  replace lx:=lx.up u15
  replace zs3:=zs3.up u15
  replace lw':=lw'.up u15
  replace f0:=f0.up u15
  replace f1:=f1.up u15
  replace f2:=f2.up u15
  replace C:=fun k' ds q u=>C k' ds q (u15.trans u)
  refine scaled_s zs3 q3 (K:=(2*(2*K+4)+4)) (L:=K) (by omega) hq3 (by omega) ?_
  intro k16 csf3 u16 f3
  obtain ⟨bf3,Af3,nf3,cf3,rfl,f3⟩:=f3.dest
  refine ⟨bf3,Af3,nf3,cf3,rfl,?_⟩
  replace lx:=lx.up u16
  replace lw':=lw'.up u16
  replace f0:=f0.up u16
  replace f1:=f1.up u16
  replace f2:=f2.up u16
  replace C:=fun k' ds q u=>C k' ds q (u16.trans u)
  refine under_s lx hm (L:=K) hd hK1 (by omega) ?_
  intro k17 Aqx nqx cqx u17 qx hqx
  refine ⟨Aqx,nqx,cqx,rfl,?_⟩
  replace lw':=lw'.up u17
  replace f0:=f0.up u17
  replace f1:=f1.up u17
  replace f2:=f2.up u17
  replace f3:=f3.up u17
  replace C:=fun k' ds q u=>C k' ds q (u17.trans u)
  refine times_s qx lw' (by omega) (by omega) ?_
  intro k18 Aqm nqm cqm u18 qm hqm
  refine ⟨Aqm,nqm,cqm,rfl,?_⟩
  replace f0:=f0.up u18
  replace f1:=f1.up u18
  replace f2:=f2.up u18
  replace f3:=f3.up u18
  replace C:=fun k' ds q u=>C k' ds q (u18.trans u)
  refine surd_q (K:=((2*(2*K+4)+4)+K)) f0 f1 f2 f3 qm (Nat.mul_pos hm (Int.natAbs_pos.2 hw0)) (by omega) (by omega) ?_
  intro k19 ds u19 hs
  obtain ⟨rb0,rA0,rn0,rc0,rb1,rA1,rn1,rc1,rb2,rA2,rn2,rc2,rb3,rA3,rn3,rc3,rD,rd,re,rfl⟩:=hs.flat
  refine ⟨rb0,rA0,rn0,rc0,rb1,rA1,rn1,rc1,rb2,rA2,rn2,rc2,rb3,rA3,rn3,rc3,rD,rd,re,rfl,?_⟩
  intro k20 u20
  have hsign : True:=trivial
  exact C _ _ _ (u19.trans u20) (hs.up u20) (hpos (by simpa [hbb] using hnegw.symm))
end
end Go.Proofs.YtpjakokgmgggiaaGreat
