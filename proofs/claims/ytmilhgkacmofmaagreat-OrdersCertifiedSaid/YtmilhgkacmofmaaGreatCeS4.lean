/- Surds: signs. (Printed by gen/surd4.py.) -/
import Derived.Test.YtmilhgkacmofmaaGreatCeVS
import Derived.Test.YtmilhgkacmofmaaGreatCeS3
import Derived.Test.YtmilhgkacmofmaaGreatCeCone
namespace Go.Proofs.YtmilhgkacmofmaaGreat
open Go.RowKit Num Plain
open Sy (Up Sees CallsG Seg)
theorem sgInt (x : Int) : A.sg ((x : Int) : Rat) = x.sign:=by rw [sgRat,Rat.num_intCast]
theorem sign_cases (x : Int) : x.sign = 0∨x.sign = 1∨x.sign = -1:=by
 rcases Int.lt_trichotomy x 0 with h | h | h
 ·exact .inr (.inr (Int.sign_eq_neg_one_of_neg h))
 ·subst h; exact .inl rfl
 ·exact .inr (.inl (Int.sign_eq_one_of_pos h))
def Q4.toQ (v : Q4) : Q23:=e4 v.a v.b v.c v.d
theorem toQ_add (x y : Q4) : (x.add y).toQ = x.toQ+y.toQ:=rfl
theorem toQ_neg (x : Q4) : x.neg.toQ = -x.toQ:=rfl
theorem toQ_mul (x y : Q4) : (x.mul y).toQ = x.toQ*y.toQ:=(e4_mul _ _ _ _ _ _ _ _).symm
theorem toQ_zero : Q4.zero.toQ = 0:=rfl
theorem toQ_inj {x y : Q4} (h : x.toQ = y.toQ) : x = y:=by
 obtain ⟨h1,h2,h3,h4⟩:=e4_inj h
 exact Q4.ext' h1 h2 h3 h4
theorem sg_mkQ (x0 x1 x2 x3 : Int) {m : Nat} (hm : 0 < m) : C.sg (e4 x0 x1 x2 x3) = C.sg (mkQ x0 x1 x2 x3 m).toQ:=by
 have e : (mkQ x0 x1 x2 x3 m).toQ*e4 (m : Rat) 0 0 0 = e4 x0 x1 x2 x3:=by
  have h0:=natCast_ne hm
  have hd : ∀ x : Int,mkRat x m*(m : Rat) = x:=fun x=>by rw [Rat.mkRat_eq_div]; exact Rat.div_mul_cancel h0
  show e4 _ _ _ _*_ = _
  rw [e4_mul]
  unfold e4
  refine Q23.ext' (Q2.ext' ?_ ?_) (Q2.ext' ?_ ?_)
  ·show mkRat x0 m*m+2*(mkRat x1 m*0)+3*(mkRat x2 m*0)+6*(mkRat x3 m*0) = x0
   rw [hd]; grind
  ·show mkRat x0 m*0+mkRat x1 m*m+3*(mkRat x2 m*0+mkRat x3 m*0) = x1
   rw [hd]; grind
  ·show mkRat x0 m*0+mkRat x2 m*m+2*(mkRat x1 m*0+mkRat x3 m*0) = x2
   rw [hd]; grind
  ·show mkRat x0 m*0+mkRat x3 m*m+mkRat x1 m*0+mkRat x2 m*0 = x3
   rw [hd]; grind
 have hp : (0 : Rat) < (m : Rat):=by
  have : (0 : Rat)≤(m : Rat):=Rat.natCast_nonneg
  have:=natCast_ne hm
  grind
 have hsq : (0 : Rat) < (m : Rat)*(m : Rat):=Rat.mul_pos hp hp
 have p : C.pos (e4 (m : Rat) 0 0 0):=by
  have p2 : B.pos (⟨(m : Rat),0⟩ : Q2):=.inl ⟨by show (0 : Rat) < m*m - 2*(0*0); grind,hp⟩
  refine .inl ⟨?_,p2⟩
  have : C.NN (e4 (m : Rat) 0 0 0) = (⟨(m : Rat),0⟩ : Q2)*⟨(m : Rat),0⟩:=by
   show (⟨(m : Rat),0⟩ : Q2)*⟨(m : Rat),0⟩ - 3*((0 : Q2)*(0 : Q2)) = _
   (refine Q2.ext' ?_ ?_ <;> (simp only [Q2.mul_re,Q2.mul_im,Q2.sub_re,Q2.sub_im,Q2.zero_re,Q2.zero_im,Q2.three_re,Q2.three_im]; grind))
  rw [this]
  exact B.mul p2 p2
 rw [← e,C.sg_mul,C.sg_pos p]
 omega
section
variable {k : World} {R : World→Value→Prop} {K L : Nat} {cs cs' : Array Value} {v v' : Q4}
def Box1 (k : World) (p : Nat) (x : Int) (K : Nat) : Prop:=∃ c : Array Value,Sy.Blk k p 32 (c.toList ++ ([])).toArray∧IntV k c x K
theorem Box1.up {k k' : World} {p : Nat} {x : Int} (h : Box1 k p x K) (u : Up k k') : Box1 k' p x K:=by
 obtain ⟨c,hb,h⟩:=h
 exact ⟨c,Up.blk u hb,h.up u⟩
theorem sq2_s {p p' : Nat} {x y : Int} (hx : Box1 k p x K) (hy : Box1 k p' y K) (hK : K≤268435456) (C : ∀ k',Up k k'→R k' (.int .i64 (x*x+-(y*y*(2 : Nat))).sign)) :
 Cl k 105 #[.pointer (some ⟨p,0,none⟩),.pointer (some ⟨p',0,none⟩)] R:=by
 intro k0 u0
 replace hx:=hx.up u0
 replace hy:=hy.up u0
 replace C:=fun k'  u=>C k'  (u0.trans u)
 obtain ⟨c0,hb,i0⟩:=hx
 obtain ⟨d0,hb',j0⟩:=hy
 refine sq2_vc i0.seg j0.seg hb hb' ?_
 refine itimes_s i0 i0 (by omega) (by omega) ?_
 intro k1 cA u1 a
 refine ⟨cA,a.seg,rfl,?_⟩
 replace j0:=j0.up u1
 replace C:=fun k'  u=>C k'  (u1.trans u)
 refine itimes_s j0 j0 (by omega) (by omega) ?_
 intro k2 cB u2 b
 refine ⟨cB,b.seg,rfl,?_⟩
 replace a:=a.up u2
 replace C:=fun k'  u=>C k'  (u2.trans u)
 refine fold_s (m:=2) b (by omega) (by omega) ?_
 intro k3 cD u3 d
 refine ⟨cD,d.seg,rfl,?_⟩
 replace a:=a.up u3
 replace C:=fun k'  u=>C k'  (u3.trans u)
 refine iminus_s d (by omega) ?_
 intro k4 cE u4 e
 refine ⟨cE,e.seg,rfl,?_⟩
 replace a:=a.up u4
 replace C:=fun k'  u=>C k'  (u4.trans u)
 refine iplus_s a e (M:=K+K+1) (by omega) (by omega) (by omega) ?_
 intro k5 cF u5 f
 refine ⟨cF,f.seg,rfl,?_⟩
 replace C:=fun k'  u=>C k'  (u5.trans u)
 refine sign_s f (by omega) ?_
 intro k6  u6 
 refine ⟨_,rfl,?_⟩
 replace C:=fun k'  u=>C k'  (u6.trans u)
 intro k7 u7
 exact C _ u7
theorem weigh2_s {p p' : Nat} {x y s t : Int} (hx : Box1 k p x K) (hy : Box1 k p' y K) (hK : K≤268435456) (hs : s = 0∨s = 1∨s = -1) (C : ∀ k',Up k k'→R k' (.int .i64 (weighI s t (x*x+-(y*y*(2 : Nat))).sign))) :
 Cl k 60 #[.int .i64 s,.int .i64 t,.func (.func 105) #[] #[.pointer (some ⟨p,0,none⟩),.pointer (some ⟨p',0,none⟩)]] R:=by
 intro k0 u0
 refine weigh2_vc ⟨fun hb=>?_,fun hb=>⟨fun hc=>?_,fun hc=>⟨fun hd=>?_,fun hd=>?_⟩⟩⟩
 ·intro k1 u1
  have e : s = t:=by simpa using hb
  have:=C k1 (u0.trans u1)
  unfold weighI at this
  rwa [if_pos e] at this
 ·intro k1 u1
  have e : ¬ s = t:=by simpa using hb
  have e1 : t = 0:=by simpa using hc
  have:=C k1 (u0.trans u1)
  unfold weighI at this
  rwa [if_neg e,if_pos e1] at this
 ·intro k1 u1
  have e : ¬ s = t:=by simpa using hb
  have e1 : ¬ t = 0:=by simpa using hc
  have e2 : s = 0:=by simpa using hd
  have:=C k1 (u0.trans u1)
  unfold weighI at this
  rwa [if_neg e,if_neg e1,if_pos e2] at this
 ·have e : ¬ s = t:=by simpa using hb
  have e1 : ¬ t = 0:=by simpa using hc
  have e2 : ¬ s = 0:=by simpa using hd
  refine sq2_s (hx.up u0) (hy.up u0) hK ?_
  intro k1 u1
  refine ⟨_,rfl,?_⟩
  intro k2 u2
  have:=C k2 (u0.trans (u1.trans u2))
  unfold weighI at this
  rw [if_neg e,if_neg e1,if_neg e2] at this
  rw [wrap_tiny hs (sign_cases _)]
  exact this
theorem sign2_s {x y : Int} (i0 : IntV k cs x K) (j0 : IntV k cs' y K) (hK : K≤268435456) (C : ∀ k',Up k k'→R k' (.int .i64 (B.sg (⟨(x : Rat),(y : Rat)⟩ : Q2)))) :
 Cl k 61 #[.agg cs,.agg cs'] R:=by
 intro k0 u0
 replace i0:=i0.up u0
 replace j0:=j0.up u0
 replace C:=fun k'  u=>C k'  (u0.trans u)
 refine sign2_vc i0.seg j0.seg ?_
 intro p kA uA hA
 replace C:=fun k' u=>C k' (uA.trans u)
 have bx : Box1 kA p x K:=⟨cs,hA,i0.up uA⟩
 intro p' kB uB hB
 replace C:=fun k' u=>C k' (uB.trans u)
 replace uA:=uA.trans uB
 have bz : Box1 kB p' y K:=⟨cs',hB,j0.up uA⟩
 replace bx:=bx.up uB
 replace i0:=i0.up uA
 replace j0:=j0.up uA
 clear hA hB
 refine sign_s i0 (by omega) ?_
 intro k1  u1 
 refine ⟨_,rfl,?_⟩
 replace j0:=j0.up u1
 replace bx:=bx.up u1
 replace bz:=bz.up u1
 replace C:=fun k'  u=>C k'  (u1.trans u)
 refine sign_s j0 (by omega) ?_
 intro k2  u2 
 refine ⟨_,rfl,?_⟩
 replace bx:=bx.up u2
 replace bz:=bz.up u2
 replace C:=fun k'  u=>C k'  (u2.trans u)
 refine weigh2_s bx bz hK (sign_cases _) ?_
 intro k3  u3 
 refine ⟨_,rfl,?_⟩
 replace C:=fun k'  u=>C k'  (u3.trans u)
 intro k4 u4
 have e : weighI x.sign y.sign (x*x+-(y*y*(2 : Nat))).sign = B.sg (⟨(x : Rat),(y : Rat)⟩ : Q2):=by
  rw [← sg_q2,sgInt,sgInt]
  congr 1
  rw [← sgInt]
  congr 1
  rw [Rat.intCast_add,Rat.intCast_neg,Rat.intCast_mul,Rat.intCast_mul,Rat.intCast_mul]
  show (x : Rat)*x+-((y : Rat)*y*2) = x*x - 2*(y*y)
  grind
 rw [e]
 exact C _ u4
theorem sq4_s {pa pb pc pd : Nat} {a b c d : Int} (ha : Box1 k pa a K) (hb : Box1 k pb b K) (hc : Box1 k pc c K) (hd : Box1 k pd d K) (hK : K≤67108864) (C : ∀ k',Up k k'→R k' (.int .i64 (B.sg (⟨(((a*a+b*b*(2 : Nat)+-((c*c+d*d*(2 : Nat))*(3 : Nat))) : Int) : Rat),((((a*b+-(c*d*(3 : Nat)))*(2 : Nat)) : Int) : Rat)⟩ : Q2)))) :
 Cl k 62 #[.pointer (some ⟨pa,0,none⟩),.pointer (some ⟨pb,0,none⟩),.pointer (some ⟨pc,0,none⟩),.pointer (some ⟨pd,0,none⟩)] R:=by
 intro k0 u0
 replace ha:=ha.up u0
 replace hb:=hb.up u0
 replace hc:=hc.up u0
 replace hd:=hd.up u0
 replace C:=fun k'  u=>C k'  (u0.trans u)
 obtain ⟨ca,ba,ia⟩:=ha
 obtain ⟨cb,bb,ib⟩:=hb
 obtain ⟨cc,bc,ic⟩:=hc
 obtain ⟨cd,bd,id⟩:=hd
 refine sq4_vc ia.seg ib.seg ic.seg id.seg ba bb bc bd ?_
 refine itimes_s ia ia (by omega) (by omega) ?_
 intro k1 ea1 u1 a1
 refine ⟨ea1,a1.seg,rfl,?_⟩
 replace ia:=ia.up u1
 replace ib:=ib.up u1
 replace ic:=ic.up u1
 replace id:=id.up u1
 replace C:=fun k'  u=>C k'  (u1.trans u)
 refine itimes_s ib ib (by omega) (by omega) ?_
 intro k2 ea2 u2 a2
 refine ⟨ea2,a2.seg,rfl,?_⟩
 replace ia:=ia.up u2
 replace ib:=ib.up u2
 replace ic:=ic.up u2
 replace id:=id.up u2
 replace a1:=a1.up u2
 replace C:=fun k'  u=>C k'  (u2.trans u)
 refine fold_s (m:=2) a2 (by omega) (by omega) ?_
 intro k3 ea3 u3 a3
 refine ⟨ea3,a3.seg,rfl,?_⟩
 replace ia:=ia.up u3
 replace ib:=ib.up u3
 replace ic:=ic.up u3
 replace id:=id.up u3
 replace a1:=a1.up u3
 replace C:=fun k'  u=>C k'  (u3.trans u)
 refine iplus_s a1 a3 (M:=K+K+1) (by omega) (by omega) (by omega) ?_
 intro k4 ea4 u4 a4
 refine ⟨ea4,a4.seg,rfl,?_⟩
 replace ia:=ia.up u4
 replace ib:=ib.up u4
 replace ic:=ic.up u4
 replace id:=id.up u4
 replace C:=fun k'  u=>C k'  (u4.trans u)
 refine itimes_s ic ic (by omega) (by omega) ?_
 intro k5 ea5 u5 a5
 refine ⟨ea5,a5.seg,rfl,?_⟩
 replace ia:=ia.up u5
 replace ib:=ib.up u5
 replace ic:=ic.up u5
 replace id:=id.up u5
 replace a4:=a4.up u5
 replace C:=fun k'  u=>C k'  (u5.trans u)
 refine itimes_s id id (by omega) (by omega) ?_
 intro k6 ea6 u6 a6
 refine ⟨ea6,a6.seg,rfl,?_⟩
 replace ia:=ia.up u6
 replace ib:=ib.up u6
 replace ic:=ic.up u6
 replace id:=id.up u6
 replace a4:=a4.up u6
 replace a5:=a5.up u6
 replace C:=fun k'  u=>C k'  (u6.trans u)
 refine fold_s (m:=2) a6 (by omega) (by omega) ?_
 intro k7 ea7 u7 a7
 refine ⟨ea7,a7.seg,rfl,?_⟩
 replace ia:=ia.up u7
 replace ib:=ib.up u7
 replace ic:=ic.up u7
 replace id:=id.up u7
 replace a4:=a4.up u7
 replace a5:=a5.up u7
 replace C:=fun k'  u=>C k'  (u7.trans u)
 refine iplus_s a5 a7 (M:=K+K+1) (by omega) (by omega) (by omega) ?_
 intro k8 ea8 u8 a8
 refine ⟨ea8,a8.seg,rfl,?_⟩
 replace ia:=ia.up u8
 replace ib:=ib.up u8
 replace ic:=ic.up u8
 replace id:=id.up u8
 replace a4:=a4.up u8
 replace C:=fun k'  u=>C k'  (u8.trans u)
 refine fold_s (m:=3) a8 (by omega) (by omega) ?_
 intro k9 ea9 u9 a9
 refine ⟨ea9,a9.seg,rfl,?_⟩
 replace ia:=ia.up u9
 replace ib:=ib.up u9
 replace ic:=ic.up u9
 replace id:=id.up u9
 replace a4:=a4.up u9
 replace C:=fun k'  u=>C k'  (u9.trans u)
 refine iminus_s a9 (by omega) ?_
 intro k10 ea10 u10 a10
 refine ⟨ea10,a10.seg,rfl,?_⟩
 replace ia:=ia.up u10
 replace ib:=ib.up u10
 replace ic:=ic.up u10
 replace id:=id.up u10
 replace a4:=a4.up u10
 replace C:=fun k'  u=>C k'  (u10.trans u)
 refine iplus_s a4 a10 (M:=K+K+3) (by omega) (by omega) (by omega) ?_
 intro k11 ea11 u11 a11
 refine ⟨ea11,a11.seg,rfl,?_⟩
 replace ia:=ia.up u11
 replace ib:=ib.up u11
 replace ic:=ic.up u11
 replace id:=id.up u11
 replace C:=fun k'  u=>C k'  (u11.trans u)
 refine itimes_s ia ib (by omega) (by omega) ?_
 intro k12 ea12 u12 a12
 refine ⟨ea12,a12.seg,rfl,?_⟩
 replace ic:=ic.up u12
 replace id:=id.up u12
 replace a11:=a11.up u12
 replace C:=fun k'  u=>C k'  (u12.trans u)
 refine itimes_s ic id (by omega) (by omega) ?_
 intro k13 ea13 u13 a13
 refine ⟨ea13,a13.seg,rfl,?_⟩
 replace a11:=a11.up u13
 replace a12:=a12.up u13
 replace C:=fun k'  u=>C k'  (u13.trans u)
 refine fold_s (m:=3) a13 (by omega) (by omega) ?_
 intro k14 ea14 u14 a14
 refine ⟨ea14,a14.seg,rfl,?_⟩
 replace a11:=a11.up u14
 replace a12:=a12.up u14
 replace C:=fun k'  u=>C k'  (u14.trans u)
 refine iminus_s a14 (by omega) ?_
 intro k15 ea15 u15 a15
 refine ⟨ea15,a15.seg,rfl,?_⟩
 replace a11:=a11.up u15
 replace a12:=a12.up u15
 replace C:=fun k'  u=>C k'  (u15.trans u)
 refine iplus_s a12 a15 (M:=K+K+1) (by omega) (by omega) (by omega) ?_
 intro k16 ea16 u16 a16
 refine ⟨ea16,a16.seg,rfl,?_⟩
 replace a11:=a11.up u16
 replace C:=fun k'  u=>C k'  (u16.trans u)
 refine fold_s (m:=2) a16 (by omega) (by omega) ?_
 intro k17 ea17 u17 a17
 refine ⟨ea17,a17.seg,rfl,?_⟩
 replace a11:=a11.up u17
 replace C:=fun k'  u=>C k'  (u17.trans u)
 refine sign2_s (a11.mono (show _≤K+K+4 by omega)) (a17.mono (show _≤K+K+4 by omega)) (by omega) ?_
 intro k18  u18 
 refine ⟨_,rfl,?_⟩
 replace C:=fun k'  u=>C k'  (u18.trans u)
 intro k19 u19
 exact C _ u19
theorem weigh4_s {pa pb pc pd : Nat} {a b c d s t : Int} (ha : Box1 k pa a K) (hb' : Box1 k pb b K) (hc' : Box1 k pc c K) (hd' : Box1 k pd d K) (hK : K≤67108864) (hs : s = 0∨s = 1∨s = -1) (C : ∀ k',Up k k'→R k' (.int .i64 (weighI s t (B.sg (⟨(((a*a+b*b*(2 : Nat)+-((c*c+d*d*(2 : Nat))*(3 : Nat))) : Int) : Rat),((((a*b+-(c*d*(3 : Nat)))*(2 : Nat)) : Int) : Rat)⟩ : Q2))))) :
 Cl k 60 #[.int .i64 s,.int .i64 t,.func (.func 62) #[] #[.pointer (some ⟨pa,0,none⟩),.pointer (some ⟨pb,0,none⟩),.pointer (some ⟨pc,0,none⟩),.pointer (some ⟨pd,0,none⟩)]] R:=by
 intro k0 u0
 refine weigh4_vc ⟨fun hb=>?_,fun hb=>⟨fun hc=>?_,fun hc=>⟨fun hd=>?_,fun hd=>?_⟩⟩⟩
 ·intro k1 u1
  have e : s = t:=by simpa using hb
  have:=C k1 (u0.trans u1)
  unfold weighI at this
  rwa [if_pos e] at this
 ·intro k1 u1
  have e : ¬ s = t:=by simpa using hb
  have e1 : t = 0:=by simpa using hc
  have:=C k1 (u0.trans u1)
  unfold weighI at this
  rwa [if_neg e,if_pos e1] at this
 ·intro k1 u1
  have e : ¬ s = t:=by simpa using hb
  have e1 : ¬ t = 0:=by simpa using hc
  have e2 : s = 0:=by simpa using hd
  have:=C k1 (u0.trans u1)
  unfold weighI at this
  rwa [if_neg e,if_neg e1,if_pos e2] at this
 ·have e : ¬ s = t:=by simpa using hb
  have e1 : ¬ t = 0:=by simpa using hc
  have e2 : ¬ s = 0:=by simpa using hd
  refine sq4_s (ha.up u0) (hb'.up u0) (hc'.up u0) (hd'.up u0) hK ?_
  intro k1 u1
  refine ⟨_,rfl,?_⟩
  intro k2 u2
  have:=C k2 (u0.trans (u1.trans u2))
  unfold weighI at this
  rw [if_neg e,if_neg e1,if_neg e2] at this
  rw [wrap_tiny hs (B.sg_three _)]
  exact this
theorem sg_sign4 (a b c d : Int) : weighI (B.sg (⟨(a : Rat),(b : Rat)⟩ : Q2)) (B.sg (⟨(c : Rat),(d : Rat)⟩ : Q2)) (B.sg (⟨(((a*a+b*b*(2 : Nat)+-((c*c+d*d*(2 : Nat))*(3 : Nat))) : Int) : Rat),((((a*b+-(c*d*(3 : Nat)))*(2 : Nat)) : Int) : Rat)⟩ : Q2)) = C.sg (e4 a b c d):=by
 unfold e4
 rw [← sg_q23]
 congr 2
 refine Q2.ext' ?_ ?_
 ·simp only [Rat.intCast_add,Rat.intCast_neg,Rat.intCast_mul]
  show (a : Rat)*a+b*b*2+-((c*c+d*d*2)*3) = (a*a+2*(b*b)) - (3*(c*c+2*(d*d))+2*(0*(c*d+d*c)))
  grind
 ·simp only [Rat.intCast_add,Rat.intCast_neg,Rat.intCast_mul]
  show ((a : Rat)*b+-(c*d*3))*2 = (a*b+b*a) - (3*(c*d+d*c)+0*(c*c+2*(d*d)))
  grind
theorem SSign_s (hx : SurdV k cs v K) (hK : K≤67108864) (C : ∀ k',Up k k'→R k' (.int .i64 (C.sg v.toQ))) :
 Cl k 27 #[.agg cs] R:=by
 obtain ⟨c0,c1,c2,c3,D,d,e,x0,x1,x2,x3,m,rfl,hm,hg,rfl,i0,i1,i2,i3,lx,hd⟩:=hx
 intro k0 u0
 replace i0:=i0.up u0
 replace i1:=i1.up u0
 replace i2:=i2.up u0
 replace i3:=i3.up u0
 replace C:=fun k'  u=>C k'  (u0.trans u)
 refine SSign_vc i0.seg i1.seg i2.seg i3.seg ?_
 intro pA kA uA hA
 replace C:=fun k' u=>C k' (uA.trans u)
 replace i0:=i0.up uA
 replace i1:=i1.up uA
 replace i2:=i2.up uA
 replace i3:=i3.up uA
 have bA : Box1 kA pA x0 K:=⟨_,hA,i0⟩
 intro pB kB uB hB
 replace C:=fun k' u=>C k' (uB.trans u)
 replace i0:=i0.up uB
 replace i1:=i1.up uB
 replace i2:=i2.up uB
 replace i3:=i3.up uB
 replace bA:=bA.up uB
 have bB : Box1 kB pB x1 K:=⟨_,hB,i1⟩
 intro pD kD uD hD
 replace C:=fun k' u=>C k' (uD.trans u)
 replace i0:=i0.up uD
 replace i1:=i1.up uD
 replace i2:=i2.up uD
 replace i3:=i3.up uD
 replace bA:=bA.up uD
 replace bB:=bB.up uD
 have bD : Box1 kD pD x2 K:=⟨_,hD,i2⟩
 intro pE kE uE hE
 replace C:=fun k' u=>C k' (uE.trans u)
 replace i0:=i0.up uE
 replace i1:=i1.up uE
 replace i2:=i2.up uE
 replace i3:=i3.up uE
 replace bA:=bA.up uE
 replace bB:=bB.up uE
 replace bD:=bD.up uE
 have bE : Box1 kE pE x3 K:=⟨_,hE,i3⟩
 refine sign2_s i0 i1 (by omega) ?_
 intro k1  u1 
 refine ⟨_,rfl,?_⟩
 replace i2:=i2.up u1
 replace i3:=i3.up u1
 replace bA:=bA.up u1
 replace bB:=bB.up u1
 replace bD:=bD.up u1
 replace bE:=bE.up u1
 replace C:=fun k'  u=>C k'  (u1.trans u)
 refine sign2_s i2 i3 (by omega) ?_
 intro k2  u2 
 refine ⟨_,rfl,?_⟩
 replace bA:=bA.up u2
 replace bB:=bB.up u2
 replace bD:=bD.up u2
 replace bE:=bE.up u2
 replace C:=fun k'  u=>C k'  (u2.trans u)
 refine weigh4_s bA bB bD bE hK (B.sg_three _) ?_
 intro k3  u3 
 refine ⟨_,rfl,?_⟩
 replace C:=fun k'  u=>C k'  (u3.trans u)
 intro k4 u4
 rw [sg_sign4,sg_mkQ x0 x1 x2 x3 hm]
 exact C _ u4
theorem SCmp_s (hx : SurdV k cs v K) (hy : SurdV k cs' v' K) (hK1 : 1≤K) (hK : K≤33554431) (C : ∀ k',Up k k'→R k' (.int .i64 (C.sg (v.sub v').toQ))) :
 Cl k 28 #[.agg cs,.agg cs'] R:=by
 intro k0 u0
 replace hx:=hx.up u0
 replace hy:=hy.up u0
 replace C:=fun k'  u=>C k'  (u0.trans u)
 refine SCmp_vc hx.seg hy.seg ?_
 refine SSub_s hx hy hK1 (by omega) ?_
 intro k1 cA u1 a
 refine ⟨cA,a.seg,rfl,?_⟩
 replace C:=fun k'  u=>C k'  (u1.trans u)
 refine SSign_s a (by omega) ?_
 intro k2  u2 
 refine ⟨_,rfl,?_⟩
 replace C:=fun k'  u=>C k'  (u2.trans u)
 intro k3 u3
 exact C _ u3
end
end Go.Proofs.YtmilhgkacmofmaaGreat
