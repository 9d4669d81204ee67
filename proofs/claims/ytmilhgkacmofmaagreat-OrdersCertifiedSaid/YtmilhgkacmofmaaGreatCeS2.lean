/- Surds: sums, products, parts. (Printed by gen/surd2.py.) -/
import Derived.Test.YtmilhgkacmofmaaGreatCeVS
import Derived.Test.YtmilhgkacmofmaaGreatCeS1
namespace Go.Proofs.YtmilhgkacmofmaaGreat
open Go.RowKit Num
open Sy (Up Sees CallsG Seg)
def Q4.add (x y : Q4) : Q4:=⟨x.a+y.a,x.b+y.b,x.c+y.c,x.d+y.d⟩
def Q4.neg (x : Q4) : Q4:=⟨-x.a,-x.b,-x.c,-x.d⟩
def Q4.mul (x y : Q4) : Q4:=⟨x.a*y.a+2*(x.b*y.b)+3*(x.c*y.c)+6*(x.d*y.d),x.a*y.b+x.b*y.a+3*(x.c*y.d+x.d*y.c),x.a*y.c+x.c*y.a+2*(x.b*y.d+x.d*y.b),x.a*y.d+x.d*y.a+x.b*y.c+x.c*y.b⟩
def Q4.sub (x y : Q4) : Q4:=x.add y.neg
def Q4.zero : Q4:=⟨0,0,0,0⟩
def Q4.real (x : Rat) : Q4:=⟨x,0,0,0⟩
theorem mkRat_eq (x : Int) {m : Nat} (_h : 0 < m) : mkRat x m = (x : Rat) / (m : Rat):=by
 rw [Rat.mkRat_eq_div]
theorem natCast_ne {m : Nat} (h : 0 < m) : (m : Rat) ≠ 0:=by
 intro e
 have : ((m : Nat) : Rat) = ((0 : Nat) : Rat):=by rw [e]; rfl
 have:=Rat.natCast_inj.1 this
 omega
theorem mkRat_add' (x y : Int) {m n : Nat} (hm : 0 < m) (hn : 0 < n) : mkRat (x*n+y*m) (m*n) = mkRat x m+mkRat y n:=by
 rw [Rat.mkRat_add_mkRat _ _ (by omega) (by omega)]
theorem mkRat_neg' (x : Int) (m : Nat) : mkRat (-x) m = - mkRat x m:=by rw [Rat.neg_mkRat]
theorem mkRat_mul' (x y : Int) (m n : Nat) : mkRat (x*y) (m*n) = mkRat x m*mkRat y n:=by rw [Rat.mkRat_mul_mkRat]
theorem mkRat_sum (x y : Int) {m : Nat} (hm : 0 < m) : mkRat (x+y) m = mkRat x m+mkRat y m:=by
 rw [mkRat_eq _ hm,mkRat_eq _ hm,mkRat_eq _ hm,Rat.intCast_add,Rat.div_def,Rat.div_def,Rat.div_def,Rat.add_mul]
theorem mkRat_scale (x : Int) (c : Nat) {m : Nat} (hm : 0 < m) : mkRat (x*c) m = (c : Rat)*mkRat x m:=by
 rw [mkRat_eq _ hm,mkRat_eq _ hm,Rat.intCast_mul,Rat.div_def,Rat.div_def,← Rat.mul_assoc,Rat.mul_comm (c : Rat)]
 rfl
section
variable {k : World} {R : World→Value→Prop} {K : Nat} {cs cs' : Array Value} {v v' : Q4}
theorem SurdV.cells {k : World} {cs : Array Value} {v : Q4} {K : Nat} (h : SurdV k cs v K) : ∃ (c0 c1 c2 c3 : Array Value) (D : Option Addr) (d e : Nat),cs = mk9 c0 c1 c2 c3 (.slice D d e)∧Seg 2 c0∧Seg 2 c1∧Seg 2 c2∧Seg 2 c3:=by
 obtain ⟨c0,c1,c2,c3,D,d,e,y0,y1,y2,y3,m,h1,h2,h3,h4,i0,i1,i2,i3,l,hd⟩:=h
 exact ⟨c0,c1,c2,c3,D,d,e,h1,i0.seg,i1.seg,i2.seg,i3.seg⟩
theorem SAdd_s (hx : SurdV k cs v K) (hy : SurdV k cs' v' K) (hK1 : 1≤K) (hK : K≤268435456) (C : ∀ k' ds,Up k k'→SurdV k' ds (v.add v') (2*K+1)→R k' (.agg ds)) :
 Cl k 87 #[.agg cs,.agg cs'] R:=by
 obtain ⟨c0,c1,c2,c3,D,d,e,x0,x1,x2,x3,m,rfl,hm,hg,rfl,i0,i1,i2,i3,lx,hd⟩:=hx
 obtain ⟨c0',c1',c2',c3',D',d',e',y0,y1,y2,y3,n,rfl,hn,hg',rfl,j0,j1,j2,j3,ly,hd'⟩:=hy
 intro k0 u0
 replace i0:=i0.up u0
 replace i1:=i1.up u0
 replace i2:=i2.up u0
 replace i3:=i3.up u0
 replace lx:=lx.up u0
 replace j0:=j0.up u0
 replace j1:=j1.up u0
 replace j2:=j2.up u0
 replace j3:=j3.up u0
 replace ly:=ly.up u0
 replace C:=fun k' ds u=>C k' ds (u0.trans u)
 refine SAdd_vc i0.seg i1.seg i2.seg i3.seg j0.seg j1.seg j2.seg j3.seg ?_
 refine under_s lx hm (L:=K) hd hK1 (by omega) ?_
 intro k1 D1 d1 e1 u1 lx' hd1
 refine ⟨D1,d1,e1,rfl,?_⟩
 replace i0:=i0.up u1
 replace i1:=i1.up u1
 replace i2:=i2.up u1
 replace i3:=i3.up u1
 replace j0:=j0.up u1
 replace j1:=j1.up u1
 replace j2:=j2.up u1
 replace j3:=j3.up u1
 replace ly:=ly.up u1
 replace C:=fun k' ds u=>C k' ds (u1.trans u)
 refine under_s ly hn (L:=K) hd' hK1 (by omega) ?_
 intro k2 D2 d2 e2 u2 ly' hd2
 refine ⟨D2,d2,e2,rfl,?_⟩
 replace i0:=i0.up u2
 replace i1:=i1.up u2
 replace i2:=i2.up u2
 replace i3:=i3.up u2
 replace j0:=j0.up u2
 replace j1:=j1.up u2
 replace j2:=j2.up u2
 replace j3:=j3.up u2
 replace lx':=lx'.up u2
 replace C:=fun k' ds u=>C k' ds (u2.trans u)
 refine scaled_s i0 ly' (by omega) hd2 (by omega) ?_
 intro k3 cA0 u3 a0
 refine ⟨cA0,a0.seg,rfl,?_⟩
 replace i1:=i1.up u3
 replace i2:=i2.up u3
 replace i3:=i3.up u3
 replace j0:=j0.up u3
 replace j1:=j1.up u3
 replace j2:=j2.up u3
 replace j3:=j3.up u3
 replace lx':=lx'.up u3
 replace ly':=ly'.up u3
 replace C:=fun k' ds u=>C k' ds (u3.trans u)
 refine scaled_s j0 lx' (by omega) hd1 (by omega) ?_
 intro k4 cB0 u4 b0
 refine ⟨cB0,b0.seg,rfl,?_⟩
 replace i1:=i1.up u4
 replace i2:=i2.up u4
 replace i3:=i3.up u4
 replace j1:=j1.up u4
 replace j2:=j2.up u4
 replace j3:=j3.up u4
 replace lx':=lx'.up u4
 replace ly':=ly'.up u4
 replace a0:=a0.up u4
 replace C:=fun k' ds u=>C k' ds (u4.trans u)
 refine iplus_s a0 b0 (M:=2*K) (by omega) (by omega) (by omega) ?_
 intro k5 cC0 u5 z0
 refine ⟨cC0,z0.seg,rfl,?_⟩
 replace i1:=i1.up u5
 replace i2:=i2.up u5
 replace i3:=i3.up u5
 replace j1:=j1.up u5
 replace j2:=j2.up u5
 replace j3:=j3.up u5
 replace lx':=lx'.up u5
 replace ly':=ly'.up u5
 replace C:=fun k' ds u=>C k' ds (u5.trans u)
 refine scaled_s i1 ly' (by omega) hd2 (by omega) ?_
 intro k6 cA1 u6 a1
 refine ⟨cA1,a1.seg,rfl,?_⟩
 replace i2:=i2.up u6
 replace i3:=i3.up u6
 replace j1:=j1.up u6
 replace j2:=j2.up u6
 replace j3:=j3.up u6
 replace lx':=lx'.up u6
 replace ly':=ly'.up u6
 replace z0:=z0.up u6
 replace C:=fun k' ds u=>C k' ds (u6.trans u)
 refine scaled_s j1 lx' (by omega) hd1 (by omega) ?_
 intro k7 cB1 u7 b1
 refine ⟨cB1,b1.seg,rfl,?_⟩
 replace i2:=i2.up u7
 replace i3:=i3.up u7
 replace j2:=j2.up u7
 replace j3:=j3.up u7
 replace lx':=lx'.up u7
 replace ly':=ly'.up u7
 replace z0:=z0.up u7
 replace a1:=a1.up u7
 replace C:=fun k' ds u=>C k' ds (u7.trans u)
 refine iplus_s a1 b1 (M:=2*K) (by omega) (by omega) (by omega) ?_
 intro k8 cC1 u8 z1
 refine ⟨cC1,z1.seg,rfl,?_⟩
 replace i2:=i2.up u8
 replace i3:=i3.up u8
 replace j2:=j2.up u8
 replace j3:=j3.up u8
 replace lx':=lx'.up u8
 replace ly':=ly'.up u8
 replace z0:=z0.up u8
 replace C:=fun k' ds u=>C k' ds (u8.trans u)
 refine scaled_s i2 ly' (by omega) hd2 (by omega) ?_
 intro k9 cA2 u9 a2
 refine ⟨cA2,a2.seg,rfl,?_⟩
 replace i3:=i3.up u9
 replace j2:=j2.up u9
 replace j3:=j3.up u9
 replace lx':=lx'.up u9
 replace ly':=ly'.up u9
 replace z0:=z0.up u9
 replace z1:=z1.up u9
 replace C:=fun k' ds u=>C k' ds (u9.trans u)
 refine scaled_s j2 lx' (by omega) hd1 (by omega) ?_
 intro k10 cB2 u10 b2
 refine ⟨cB2,b2.seg,rfl,?_⟩
 replace i3:=i3.up u10
 replace j3:=j3.up u10
 replace lx':=lx'.up u10
 replace ly':=ly'.up u10
 replace z0:=z0.up u10
 replace z1:=z1.up u10
 replace a2:=a2.up u10
 replace C:=fun k' ds u=>C k' ds (u10.trans u)
 refine iplus_s a2 b2 (M:=2*K) (by omega) (by omega) (by omega) ?_
 intro k11 cC2 u11 z2
 refine ⟨cC2,z2.seg,rfl,?_⟩
 replace i3:=i3.up u11
 replace j3:=j3.up u11
 replace lx':=lx'.up u11
 replace ly':=ly'.up u11
 replace z0:=z0.up u11
 replace z1:=z1.up u11
 replace C:=fun k' ds u=>C k' ds (u11.trans u)
 refine scaled_s i3 ly' (by omega) hd2 (by omega) ?_
 intro k12 cA3 u12 a3
 refine ⟨cA3,a3.seg,rfl,?_⟩
 replace j3:=j3.up u12
 replace lx':=lx'.up u12
 replace ly':=ly'.up u12
 replace z0:=z0.up u12
 replace z1:=z1.up u12
 replace z2:=z2.up u12
 replace C:=fun k' ds u=>C k' ds (u12.trans u)
 refine scaled_s j3 lx' (by omega) hd1 (by omega) ?_
 intro k13 cB3 u13 b3
 refine ⟨cB3,b3.seg,rfl,?_⟩
 replace lx':=lx'.up u13
 replace ly':=ly'.up u13
 replace z0:=z0.up u13
 replace z1:=z1.up u13
 replace z2:=z2.up u13
 replace a3:=a3.up u13
 replace C:=fun k' ds u=>C k' ds (u13.trans u)
 refine iplus_s a3 b3 (M:=2*K) (by omega) (by omega) (by omega) ?_
 intro k14 cC3 u14 z3
 refine ⟨cC3,z3.seg,rfl,?_⟩
 replace lx':=lx'.up u14
 replace ly':=ly'.up u14
 replace z0:=z0.up u14
 replace z1:=z1.up u14
 replace z2:=z2.up u14
 replace C:=fun k' ds u=>C k' ds (u14.trans u)
 refine times_s lx' ly' (by omega) (by omega) ?_
 intro k15 D3 d3 e3 u15 lm hd3
 refine ⟨D3,d3,e3,rfl,?_⟩
 replace z0:=z0.up u15
 replace z1:=z1.up u15
 replace z2:=z2.up u15
 replace z3:=z3.up u15
 replace C:=fun k' ds u=>C k' ds (u15.trans u)
 refine surd_s z0 z1 z2 z3 lm (Nat.mul_pos hm hn) (by omega) (by omega) ?_
 intro k17 ds u17 hs
 obtain ⟨c0,c1,c2,c3,D,d,e,hcs,h9⟩:=hs.cells
 refine ⟨c0,h9.1,c1,h9.2.1,c2,h9.2.2.1,c3,h9.2.2.2,D,d,e,by rw [hcs]; rfl,?_⟩
 intro k18 u18
 have hv : mkQ (x0*n+y0*m) (x1*n+y1*m) (x2*n+y2*m) (x3*n+y3*m) (m*n) = (mkQ x0 x1 x2 x3 m).add (mkQ y0 y1 y2 y3 n):=by
  unfold mkQ Q4.add
  simp only [mkRat_add' _ _ hm hn]
 have:=C k18 ds (u17.trans u18) (by rw [← hv]; exact hs.up u18)
 rw [hcs] at this
 exact this
theorem SNeg_s (hx : SurdV k cs v K) (hK : K≤268435456) (C : ∀ k' ds,Up k k'→SurdV k' ds v.neg K→R k' (.agg ds)) :
 Cl k 109 #[.agg cs] R:=by
 obtain ⟨c0,c1,c2,c3,D,d,e,x0,x1,x2,x3,m,rfl,hm,hg,rfl,i0,i1,i2,i3,lx,hd⟩:=hx
 intro k0 u0
 replace i0:=i0.up u0
 replace i1:=i1.up u0
 replace i2:=i2.up u0
 replace i3:=i3.up u0
 replace lx:=lx.up u0
 replace C:=fun k' ds u=>C k' ds (u0.trans u)
 refine SNeg_vc i0.seg i1.seg i2.seg i3.seg ?_
 refine iminus_s i0 (by omega) ?_
 intro k1 cA0 u1 a0
 refine ⟨cA0,a0.seg,rfl,?_⟩
 replace i1:=i1.up u1
 replace i2:=i2.up u1
 replace i3:=i3.up u1
 replace lx:=lx.up u1
 replace C:=fun k' ds u=>C k' ds (u1.trans u)
 refine iminus_s i1 (by omega) ?_
 intro k2 cA1 u2 a1
 refine ⟨cA1,a1.seg,rfl,?_⟩
 replace i2:=i2.up u2
 replace i3:=i3.up u2
 replace lx:=lx.up u2
 replace a0:=a0.up u2
 replace C:=fun k' ds u=>C k' ds (u2.trans u)
 refine iminus_s i2 (by omega) ?_
 intro k3 cA2 u3 a2
 refine ⟨cA2,a2.seg,rfl,?_⟩
 replace i3:=i3.up u3
 replace lx:=lx.up u3
 replace a0:=a0.up u3
 replace a1:=a1.up u3
 replace C:=fun k' ds u=>C k' ds (u3.trans u)
 refine iminus_s i3 (by omega) ?_
 intro k4 cA3 u4 a3
 refine ⟨cA3,a3.seg,rfl,?_⟩
 replace lx:=lx.up u4
 replace a0:=a0.up u4
 replace a1:=a1.up u4
 replace a2:=a2.up u4
 replace C:=fun k' ds u=>C k' ds (u4.trans u)
 intro k5 u5
 replace lx:=lx.up u5
 replace a0:=a0.up u5
 replace a1:=a1.up u5
 replace a2:=a2.up u5
 replace a3:=a3.up u5
 refine C _ _ u5 ⟨cA0,cA1,cA2,cA3,D,d,e,-x0,-x1,-x2,-x3,m,rfl,hm,by simp only [Int.natAbs_neg]; exact hg,?_,a0,a1,a2,a3,lx,hd⟩
 unfold mkQ Q4.neg
 simp only [mkRat_neg']
theorem SSub_s (hx : SurdV k cs v K) (hy : SurdV k cs' v' K) (hK1 : 1≤K) (hK : K≤268435456) (C : ∀ k' ds,Up k k'→SurdV k' ds (v.sub v') (2*K+1)→R k' (.agg ds)) :
 Cl k 67 #[.agg cs,.agg cs'] R:=by
 intro k0 u0
 replace hx:=hx.up u0
 replace hy:=hy.up u0
 replace C:=fun k' ds u=>C k' ds (u0.trans u)
 refine SSub_vc hx.seg hy.seg ?_
 refine SNeg_s hy (by omega) ?_
 intro k1 cA u1 a
 refine ⟨cA,a.seg,rfl,?_⟩
 replace hx:=hx.up u1
 replace C:=fun k' ds u=>C k' ds (u1.trans u)
 refine SAdd_s hx a hK1 (by omega) ?_
 intro k2 cB u2 b
 refine ⟨cB,b.seg,rfl,?_⟩
 replace C:=fun k' ds u=>C k' ds (u2.trans u)
 intro k3 u3
 replace b:=b.up u3
 exact C _ _ u3 b
theorem mkRat_zero_iff {x : Int} {m : Nat} (h : 0 < m) : mkRat x m = 0↔x = 0:=by
 rw [Rat.mkRat_eq_zero (by omega)]
theorem wrap_small {x : Int} (h0 : 0≤x) (h1 : x < 9223372036854775808) : IntKind.wrap .i64 x = x:=by rw [IntKind.wrap_i64]; omega
theorem SZero_s (hx : SurdV k cs v K) (hK : K≤268435456) (C : ∀ k',Up k k'→∀ b,(b = true↔v = Q4.zero)→R k' (.bool b)) :
 Cl k 32 #[.agg cs] R:=by
 intro k0 u0
 obtain ⟨c0,c1,c2,c3,D,d,e,x0,x1,x2,x3,m,rfl,hm,hg,rfl,⟨b0,A0,n0,e0,rfl,i0,l0⟩,⟨b1,A1,n1,e1,rfl,i1,l1⟩,⟨b2,A2,n2,e2,rfl,i2,l2⟩,⟨b3,A3,n3,e3,rfl,i3,l3⟩,lx,hd⟩:=hx
 have hcs : mk9 #[.bool b0,.slice A0 n0 e0] #[.bool b1,.slice A1 n1 e1] #[.bool b2,.slice A2 n2 e2] #[.bool b3,.slice A3 n3 e3] (.slice D d e) = #[.bool b0,.slice A0 n0 e0,.bool b1,.slice A1 n1 e1,.bool b2,.slice A2 n2 e2,.bool b3,.slice A3 n3 e3,.slice D d e]:=rfl
 rw [hcs]
 refine SZero_vc ⟨rfl,rfl,rfl,rfl,?_⟩
 intro k1 u1
 refine C _ (u0.trans u1) _ ?_
 have q0:=i0.lim.zero_iff
 have q1:=i1.lim.zero_iff
 have q2:=i2.lim.zero_iff
 have q3:=i3.lim.zero_iff
 have e : IntKind.wrap .i64 (IntKind.wrap .i64 (IntKind.wrap .i64 ((n0 : Nat)+(n1 : Nat))+(n2 : Nat))+(n3 : Nat)) = ((n0+n1+n2+n3 : Nat) : Int):=by
  rw [wrap_small (x:=(n0 : Nat)+(n1 : Nat)) (by omega) (by omega),wrap_small (x:=(n0 : Nat)+(n1 : Nat)+(n2 : Nat)) (by omega) (by omega),wrap_small (x:=(n0 : Nat)+(n1 : Nat)+(n2 : Nat)+(n3 : Nat)) (by omega) (by omega)]
  omega
 clear C hcs
 rw [e,beq_iff_eq]
 unfold mkQ Q4.zero
 rw [Q4.mk.injEq,mkRat_zero_iff hm,mkRat_zero_iff hm,mkRat_zero_iff hm,mkRat_zero_iff hm]
 omega
theorem SSame_s (hx : SurdV k cs v K) (hy : SurdV k cs' v' K) (hK1 : 1≤K) (hK : K≤134217727) (C : ∀ k',Up k k'→∀ b,(b = true↔v.sub v' = Q4.zero)→R k' (.bool b)) :
 Cl k 33 #[.agg cs,.agg cs'] R:=by
 intro k0 u0
 replace hx:=hx.up u0
 replace hy:=hy.up u0
 replace C:=fun k'  u=>C k'  (u0.trans u)
 refine SSame_vc hx.seg hy.seg ?_
 refine SSub_s hx hy hK1 (by omega) ?_
 intro k1 cA u1 a
 refine ⟨cA,a.seg,rfl,?_⟩
 replace C:=fun k'  u=>C k'  (u1.trans u)
 refine SZero_s a (by omega) ?_
 intro k2  u2 b hb
 refine ⟨b,rfl,?_⟩
 replace C:=fun k'  u=>C k'  (u2.trans u)
 intro k3 u3
 exact C _ u3 _ hb
end
end Go.Proofs.YtmilhgkacmofmaaGreat
