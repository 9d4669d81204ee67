/- Surds: the predicate; lowest terms. -/
import Derived.Test.YtmilhgkacmofmaaGreatCeVS
import Derived.Test.YtmilhgkacmofmaaGreatCeG
import Derived.Test.YtmilhgkacmofmaaGreatCeVS
namespace Go.Proofs.YtmilhgkacmofmaaGreat
open Go.RowKit Num
open Sy (Up Sees CallsG Seg)
structure Q4 where
 (a b c d : Rat)
theorem Q4.ext' {x y : Q4} (h1 : x.a = y.a) (h2 : x.b = y.b) (h3 : x.c = y.c) (h4 : x.d = y.d) : x = y:=by cases x; cases y; simp_all
def mkQ (x0 x1 x2 x3 : Int) (m : Nat) : Q4:=⟨mkRat x0 m,mkRat x1 m,mkRat x2 m,mkRat x3 m⟩
def gcd5 (m a b c d : Nat) : Nat:=Nat.gcd (Nat.gcd (Nat.gcd (Nat.gcd m a) b) c) d
def mk9 (c0 c1 c2 c3 : Array Value) (s : Value) : Array Value:=(c0.toList ++ (c1.toList ++ (c2.toList ++ (c3.toList ++ (s :: []))))).toArray
def SurdV (k : World) (cs : Array Value) (v : Q4) (K : Nat) : Prop :=
 ∃ (c0 c1 c2 c3 : Array Value) (D : Option Addr) (d e : Nat) (y0 y1 y2 y3 : Int) (m : Nat),cs = mk9 c0 c1 c2 c3 (.slice D d e)∧0 < m∧gcd5 m y0.natAbs y1.natAbs y2.natAbs y3.natAbs = 1∧v = mkQ y0 y1 y2 y3 m ∧
  IntV k c0 y0 K∧IntV k c1 y1 K∧IntV k c2 y2 K∧IntV k c3 y3 K∧LimR k D d e (if m = 1 then 0 else m)∧d≤K
theorem SurdV.up {k k' : World} {cs : Array Value} {v : Q4} {K : Nat} (h : SurdV k cs v K) (u : Up k k') : SurdV k' cs v K:=by
 obtain ⟨c0,c1,c2,c3,D,d,e,y0,y1,y2,y3,m,h1,h2,h3,h4,i0,i1,i2,i3,l,hd⟩:=h
 exact ⟨c0,c1,c2,c3,D,d,e,y0,y1,y2,y3,m,h1,h2,h3,h4,i0.up u,i1.up u,i2.up u,i3.up u,l.up u,hd⟩
theorem SurdV.mono {k : World} {cs : Array Value} {v : Q4} {K L : Nat} (h : SurdV k cs v K) (u : K≤L) : SurdV k cs v L:=by
 obtain ⟨c0,c1,c2,c3,D,d,e,y0,y1,y2,y3,m,h1,h2,h3,h4,i0,i1,i2,i3,l,hd⟩:=h
 exact ⟨c0,c1,c2,c3,D,d,e,y0,y1,y2,y3,m,h1,h2,h3,h4,i0.mono u,i1.mono u,i2.mono u,i3.mono u,l,by omega⟩
theorem SurdV.seg {k : World} {cs : Array Value} {v : Q4} {K : Nat} (h : SurdV k cs v K) : Seg 9 cs:=by
 obtain ⟨c0,c1,c2,c3,D,d,e,y0,y1,y2,y3,m,rfl,h2,h3,h4,⟨_,_,_,_,rfl,_⟩,⟨_,_,_,_,rfl,_⟩,⟨_,_,_,_,rfl,_⟩,⟨_,_,_,_,rfl,_⟩,l,hd⟩:=h
 exact ⟨rfl,by simp [mk9,Value.scalar,Value.noWord]⟩
theorem LimR.len_le {k k' : World} {A A' : Option Addr} {n n' c c' a b : Nat} (h : LimR k A n c a) (h' : LimR k' A' n' c' b) (hab : a≤b) : n≤n':=by
 rw [h.len,h'.len]; exact nw_mono hab
theorem IntR.div {k : World} {b : Bool} {A B : Option Addr} {n c j d : Nat} {x : Int} {g : Nat} (h : IntR k b A n c x) (hl : LimR k B j d (x.natAbs / g)) (hg : (g : Int) ∣ x) (h0 : 0 < g) : IntR k b B j d (x / g):=by
 obtain ⟨q,rfl⟩:=hg
 have hg0 : (g : Int) ≠ 0:=by omega
 have e : ((g : Int)*q) / g = q:=Int.mul_ediv_cancel_left q hg0
 have e2 : ((g : Int)*q).natAbs / g = q.natAbs:=by rw [Int.natAbs_mul,Int.natAbs_natCast,Nat.mul_div_cancel_left _ h0]
 rw [e]
 rw [e2] at hl
 refine ⟨?_,hl⟩
 rw [h.neg]
 rw [decide_eq_decide]
 constructor
 ·intro hh
  rcases Int.lt_or_le q 0 with h1 | h1
  ·exact h1
  ·have:=Int.mul_nonneg (show (0 : Int)≤g by omega) h1; omega
 ·intro hh
  exact Int.mul_neg_of_pos_of_neg (by omega) hh
theorem mkRat_div {x : Int} {m g : Nat} (hx : (g : Int) ∣ x) (hm : g ∣ m) (h0 : 0 < g) (hm0 : 0 < m) : mkRat (x / g) (m / g) = mkRat x m:=by
 obtain ⟨q,rfl⟩:=hx
 obtain ⟨p,rfl⟩:=hm
 have hg0 : (g : Int) ≠ 0:=by omega
 rw [Int.mul_ediv_cancel_left q hg0,Nat.mul_div_cancel_left _ h0]
 exact (Rat.mkRat_mul_left (by omega)).symm
theorem gcd5_dvd (m a b c d : Nat) : gcd5 m a b c d ∣ m∧gcd5 m a b c d ∣ a∧gcd5 m a b c d ∣ b∧gcd5 m a b c d ∣ c∧gcd5 m a b c d ∣ d:=by
 unfold gcd5
 have h1:=Nat.gcd_dvd_left (Nat.gcd (Nat.gcd (Nat.gcd m a) b) c) d
 have h2:=Nat.gcd_dvd_left (Nat.gcd (Nat.gcd m a) b) c
 have h3:=Nat.gcd_dvd_left (Nat.gcd m a) b
 have t12:=Nat.dvd_trans h1 h2
 have t13:=Nat.dvd_trans t12 h3
 exact ⟨Nat.dvd_trans t13 (Nat.gcd_dvd_left _ _),Nat.dvd_trans t13 (Nat.gcd_dvd_right _ _),Nat.dvd_trans t12 (Nat.gcd_dvd_right _ _),Nat.dvd_trans h1 (Nat.gcd_dvd_right _ _),Nat.gcd_dvd_right _ _⟩
theorem gcd5_div {m a b c d g : Nat} (hg : g = gcd5 m a b c d) (h0 : 0 < g) : gcd5 (m / g) (a / g) (b / g) (c / g) (d / g) = 1:=by
 obtain ⟨d1,d2,d3,d4,d5⟩:=gcd5_dvd m a b c d
 rw [← hg] at d1 d2 d3 d4 d5
 unfold gcd5 at hg ⊢
 have e1 : Nat.gcd (m / g) (a / g) = Nat.gcd m a / g:=Nat.gcd_div d1 d2
 have k1 : g ∣ Nat.gcd m a:=Nat.dvd_gcd d1 d2
 have e2 : Nat.gcd (Nat.gcd m a / g) (b / g) = Nat.gcd (Nat.gcd m a) b / g:=Nat.gcd_div k1 d3
 have k2 : g ∣ Nat.gcd (Nat.gcd m a) b:=Nat.dvd_gcd k1 d3
 have e3 : Nat.gcd (Nat.gcd (Nat.gcd m a) b / g) (c / g) = Nat.gcd (Nat.gcd (Nat.gcd m a) b) c / g:=Nat.gcd_div k2 d4
 have k3 : g ∣ Nat.gcd (Nat.gcd (Nat.gcd m a) b) c:=Nat.dvd_gcd k2 d4
 rw [e1,e2,e3,Nat.gcd_div k3 d5,← hg,Nat.div_self h0]
theorem natAbs_ediv {x : Int} {g : Nat} (h : g ∣ x.natAbs) (_h0 : 0 < g) : (x / g).natAbs = x.natAbs / g:=by
 rw [Int.natAbs_ediv_of_dvd (by rw [Int.ofNat_dvd_left]; exact h),Int.natAbs_natCast]
theorem mkQ_div {x0 x1 x2 x3 : Int} {m g : Nat} (h0 : 0 < g) (hm0 : 0 < m) (dm : g ∣ m) (d0 : g ∣ x0.natAbs) (d1 : g ∣ x1.natAbs) (d2 : g ∣ x2.natAbs) (d3 : g ∣ x3.natAbs) : mkQ (x0 / g) (x1 / g) (x2 / g) (x3 / g) (m / g) = mkQ x0 x1 x2 x3 m:=by
 unfold mkQ
 rw [mkRat_div (Int.ofNat_dvd_left.2 d0) dm h0 hm0,mkRat_div (Int.ofNat_dvd_left.2 d1) dm h0 hm0,mkRat_div (Int.ofNat_dvd_left.2 d2) dm h0 hm0,mkRat_div (Int.ofNat_dvd_left.2 d3) dm h0 hm0]
section
variable {k : World} {R : World→Value→Prop} {K : Nat}
theorem surd_s {c0 c1 c2 c3 : Array Value} {x0 x1 x2 x3 : Int} {A : Option Addr} {n c m : Nat} (h0 : IntV k c0 x0 K) (h1 : IntV k c1 x1 K) (h2 : IntV k c2 x2 K) (h3 : IntV k c3 x3 K) (hm : LimR k A n c m) (hm0 : 0 < m) (hn : n≤K) (hK : K≤1073741824)
 (C : ∀ k' ds,Up k k'→SurdV k' ds (mkQ x0 x1 x2 x3 m) K→R k' (.agg ds)) :
 Cl k 99 #[.agg (c0.toList ++ (c1.toList ++ (c2.toList ++ (c3.toList ++ ([]))))).toArray,.slice A n c] R:=by
 intro k0 u0
 replace C:=fun k' ds (u : Up k0 k')=>C k' ds (u0.trans u)
 replace hm:=hm.up u0
 obtain ⟨b0,A0,n0,e0,rfl,i0,l0⟩:=h0.up u0
 obtain ⟨b1,A1,n1,e1,rfl,i1,l1⟩:=h1.up u0
 obtain ⟨b2,A2,n2,e2,rfl,i2,l2⟩:=h2.up u0
 obtain ⟨b3,A3,n3,e3,rfl,i3,l3⟩:=h3.up u0
 clear h0 h1 h2 h3 u0
 obtain ⟨d0,d1,d2,d3,d4⟩:=gcd5_dvd m x0.natAbs x1.natAbs x2.natAbs x3.natAbs
 have hg0 : 0 < gcd5 m x0.natAbs x1.natAbs x2.natAbs x3.natAbs:=Nat.pos_of_dvd_of_pos d0 hm0
 refine surd_vc ?_
 refine gcd_s hm i0.lim (by omega) (by omega) ?_
 intro k1 B1 j1 f1 u1 g1 _
 refine ⟨B1,j1,f1,rfl,?_⟩
 have q1 : j1≤n:=g1.len_le hm (Nat.gcd_le_left _ hm0)
 have p1 : 0 < Nat.gcd m x0.natAbs:=Nat.gcd_pos_of_pos_left _ hm0
 refine gcd_s g1 (i1.up u1).lim (by omega) (by omega) ?_
 intro k2 B2 j2 f2 u2 g2 _
 refine ⟨B2,j2,f2,rfl,?_⟩
 have q2 : j2≤j1:=g2.len_le g1 (Nat.gcd_le_left _ p1)
 have p2 : 0 < Nat.gcd (Nat.gcd m x0.natAbs) x1.natAbs:=Nat.gcd_pos_of_pos_left _ p1
 have u2:=u1.trans u2
 refine gcd_s g2 (i2.up u2).lim (by omega) (by omega) ?_
 intro k3 B3 j3 f3 u3 g3 _
 refine ⟨B3,j3,f3,rfl,?_⟩
 have q3 : j3≤j2:=g3.len_le g2 (Nat.gcd_le_left _ p2)
 have p3 : 0 < Nat.gcd (Nat.gcd (Nat.gcd m x0.natAbs) x1.natAbs) x2.natAbs:=Nat.gcd_pos_of_pos_left _ p2
 have u3:=u2.trans u3
 refine gcd_s g3 (i3.up u3).lim (by omega) (by omega) ?_
 intro k4 B4 j4 f4 u4 g4 _
 refine ⟨B4,j4,f4,rfl,?_⟩
 have q4 : j4≤j3:=g4.len_le g3 (Nat.gcd_le_left _ p3)
 have u4:=u3.trans u4
 have hgdef : gcd5 m x0.natAbs x1.natAbs x2.natAbs x3.natAbs = Nat.gcd (Nat.gcd (Nat.gcd (Nat.gcd m x0.natAbs) x1.natAbs) x2.natAbs) x3.natAbs:=rfl
 rw [← hgdef] at g4
 have hdiv:=gcd5_div (m:=m) (a:=x0.natAbs) (b:=x1.natAbs) (c:=x2.natAbs) (d:=x3.natAbs) rfl hg0
 have hmq:=mkQ_div hg0 hm0 d0 d1 d2 d3 d4
 have n0':=natAbs_ediv d1 hg0
 have n1':=natAbs_ediv d2 hg0
 have n2':=natAbs_ediv d3 hg0
 have n3':=natAbs_ediv d4 hg0
 obtain ⟨G,hG⟩ : ∃ G,gcd5 m x0.natAbs x1.natAbs x2.natAbs x3.natAbs = G:=⟨_,rfl⟩
 have hone:=hgdef
 rw [hG] at g4 hdiv hmq d0 d1 d2 d3 d4 hg0 n0' n1' n2' n3'
 clear g1 g2 g3 hone hgdef
 refine isOne_s g4 (by omega) ?_
 intro k5 u5
 refine ⟨_,rfl,?_⟩
 have u5':=u4.trans u5
 refine ⟨fun hb=>?_,fun hb=>?_⟩
 ·have hG1 : G ≠ 1:=by simpa using hb
  clear hb
  refine divide_s (i0.up u5').lim (g4.up u5) hg0 (by omega) (by omega) ?_
  intro k6 D0 m0 o0 E0 s0 t0 u6 w0 _ y0 _
  refine ⟨D0,m0,o0,E0,s0,t0,rfl,?_⟩
  have v6:=u5'.trans u6
  refine divide_s (i1.up v6).lim ((g4.up u5).up u6) hg0 (by omega) (by omega) ?_
  intro k7 D1 m1 o1 E1 s1 t1 u7 w1 _ y1 _
  refine ⟨D1,m1,o1,E1,s1,t1,rfl,?_⟩
  have v7:=v6.trans u7
  refine divide_s (i2.up v7).lim (((g4.up u5).up u6).up u7) hg0 (by omega) (by omega) ?_
  intro k8 D2 m2 o2 E2 s2 t2 u8 w2 _ y2 _
  refine ⟨D2,m2,o2,E2,s2,t2,rfl,?_⟩
  have v8:=v7.trans u8
  refine divide_s (i3.up v8).lim ((((g4.up u5).up u6).up u7).up u8) hg0 (by omega) (by omega) ?_
  intro k9 D3 m3 o3 E3 s3 t3 u9 w3 _ y3 _
  refine ⟨D3,m3,o3,E3,s3,t3,rfl,?_⟩
  have v9:=v8.trans u9
  refine divide_s (hm.up v9) (((((g4.up u5).up u6).up u7).up u8).up u9) hg0 (by omega) (by omega) ?_
  intro k10 D4 m4 o4 E4 s4 t4 u10 w4 _ y4 _
  refine ⟨D4,m4,o4,E4,s4,t4,rfl,?_⟩
  have v10:=v9.trans u10
  replace w0:=(((w0.up u7).up u8).up u9).up u10
  replace w1:=((w1.up u8).up u9).up u10
  replace w2:=(w2.up u9).up u10
  replace w3:=w3.up u10
  refine isOne_s w4 (by omega) ?_
  intro k11 u11
  refine ⟨_,rfl,?_⟩
  have v11:=v10.trans u11
  have z0:=(i0.up v11).div (w0.up u11) (Int.ofNat_dvd_left.2 d1) hg0
  have z1:=(i1.up v11).div (w1.up u11) (Int.ofNat_dvd_left.2 d2) hg0
  have z2:=(i2.up v11).div (w2.up u11) (Int.ofNat_dvd_left.2 d3) hg0
  have z3:=(i3.up v11).div (w3.up u11) (Int.ofNat_dvd_left.2 d4) hg0
  have hpos : 0 < m / G:=Nat.div_pos (Nat.le_of_dvd hm0 d0) hg0
  refine ⟨fun hb=>?_,fun hb=>?_⟩
  ·intro k12 u12
   have hm1 : m / G = 1:=by simpa using hb
   exact C k12 _ (v11.trans u12) ⟨_,_,_,_,none,0,0,x0 / G,x1 / G,x2 / G,x3 / G,m / G,rfl,hpos,by rw [n0',n1',n2',n3']; exact hdiv,hmq.symm,
    ⟨_,_,_,_,rfl,z0.up u12,by omega⟩,⟨_,_,_,_,rfl,z1.up u12,by omega⟩,⟨_,_,_,_,rfl,z2.up u12,by omega⟩,⟨_,_,_,_,rfl,z3.up u12,by omega⟩,by rw [if_pos hm1]; exact LimR.nil,by omega⟩
  ·intro k12 u12
   have hm1 : m / G ≠ 1:=by simpa using hb
   exact C k12 _ (v11.trans u12) ⟨_,_,_,_,D4,m4,o4,x0 / G,x1 / G,x2 / G,x3 / G,m / G,rfl,hpos,by rw [n0',n1',n2',n3']; exact hdiv,hmq.symm,
    ⟨_,_,_,_,rfl,z0.up u12,by omega⟩,⟨_,_,_,_,rfl,z1.up u12,by omega⟩,⟨_,_,_,_,rfl,z2.up u12,by omega⟩,⟨_,_,_,_,rfl,z3.up u12,by omega⟩,by rw [if_neg hm1]; exact (w4.up u11).up u12,by omega⟩
 ·have hG1 : G = 1:=by simpa using hb
  clear hb
  refine isOne_s (hm.up u5') (by omega) ?_
  intro k6 u6
  refine ⟨_,rfl,?_⟩
  have v6:=u5'.trans u6
  refine ⟨fun hb=>?_,fun hb=>?_⟩
  ·intro k7 u7
   have v7:=v6.trans u7
   have hm1 : m = 1:=by simpa using hb
   exact C k7 _ v7 ⟨_,_,_,_,none,0,0,x0,x1,x2,x3,m,rfl,hm0,by rw [hG,hG1],rfl,
    ⟨_,_,_,_,rfl,i0.up v7,by omega⟩,⟨_,_,_,_,rfl,i1.up v7,by omega⟩,⟨_,_,_,_,rfl,i2.up v7,by omega⟩,⟨_,_,_,_,rfl,i3.up v7,by omega⟩,by rw [if_pos hm1]; exact LimR.nil,by omega⟩
  ·intro k7 u7
   have v7:=v6.trans u7
   have hm1 : m ≠ 1:=by simpa using hb
   exact C k7 _ v7 ⟨_,_,_,_,A,n,c,x0,x1,x2,x3,m,rfl,hm0,by rw [hG,hG1],rfl,
    ⟨_,_,_,_,rfl,i0.up v7,by omega⟩,⟨_,_,_,_,rfl,i1.up v7,by omega⟩,⟨_,_,_,_,rfl,i2.up v7,by omega⟩,⟨_,_,_,_,rfl,i3.up v7,by omega⟩,by rw [if_neg hm1]; exact hm.up v7,by omega⟩
end
end Go.Proofs.YtmilhgkacmofmaaGreat
