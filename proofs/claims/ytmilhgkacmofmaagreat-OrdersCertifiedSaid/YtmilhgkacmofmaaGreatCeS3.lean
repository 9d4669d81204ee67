/- Surds: products, parts. (Printed by gen/surd3.py.) -/
import Derived.Test.YtmilhgkacmofmaaGreatCeVS
import Derived.Test.YtmilhgkacmofmaaGreatCeS2
import Derived.Test.YtmilhgkacmofmaaGreatCeVT
namespace Go.Proofs.YtmilhgkacmofmaaGreat
open Go.RowKit Num
open Sy (Up Sees CallsG Seg)
section
variable {k : World} {R : World→Value→Prop} {K L : Nat} {cs cs' : Array Value} {v v' : Q4}
theorem Up.blk {k k' : World} (u : Up k k') {p t : Nat} {cs : Array Value} (h : Sy.Blk k p t cs) : Sy.Blk k' p t cs:=u.live p _ h (by intro e; unfold Sy.dead at e; injection e with e1 e2 e3; cases e3)
def Box4 (k : World) (p : Nat) (x0 x1 x2 x3 : Int) (K : Nat) : Prop :=
 ∃ c0 c1 c2 c3 : Array Value,Sy.Blk k p 33 (c0.toList ++ (c1.toList ++ (c2.toList ++ (c3.toList ++ ([]))))).toArray∧IntV k c0 x0 K∧IntV k c1 x1 K∧IntV k c2 x2 K∧IntV k c3 x3 K
theorem Box4.up {k k' : World} {p : Nat} {x0 x1 x2 x3 : Int} (h : Box4 k p x0 x1 x2 x3 K) (u : Up k k') : Box4 k' p x0 x1 x2 x3 K:=by
 obtain ⟨c0,c1,c2,c3,hb,h0,h1,h2,h3⟩:=h
 exact ⟨c0,c1,c2,c3,Up.blk u hb,h0.up u,h1.up u,h2.up u,h3.up u⟩
theorem at00_s {p p' : Nat} {x0 x1 x2 x3 y0 y1 y2 y3 : Int} (hx : Box4 k p x0 x1 x2 x3 K) (hy : Box4 k p' y0 y1 y2 y3 K) (hK : K≤268435456) (C : ∀ k' ds,Up k k'→IntV k' ds (x0*y0) (2*K)→R k' (.agg ds)) :
 Cl k 141 #[.int .i64 0,.int .i64 0,.pointer (some ⟨p,0,none⟩),.pointer (some ⟨p',0,none⟩)] R:=by
 have e2 : 2*K = K+K:=by omega
 rw [e2] at C
 intro k0 u0
 replace hx:=hx.up u0
 replace hy:=hy.up u0
 replace C:=fun k' ds u=>C k' ds (u0.trans u)
 obtain ⟨c0,c1,c2,c3,hb,h0,h1,h2,h3⟩:=hx
 obtain ⟨d0,d1,d2,d3,hb',g0,g1,g2,g3⟩:=hy
 refine at_vc00 h0.seg h1.seg h2.seg h3.seg g0.seg g1.seg g2.seg g3.seg hb hb' ?_
 refine itimes_s h0 g0 (by omega) (by omega) ?_
 intro k1 cA u1 a
 refine ⟨cA,a.seg,rfl,?_⟩
 replace C:=fun k' ds u=>C k' ds (u1.trans u)
 intro k2 u2
 replace a:=a.up u2
 exact C _ _ u2 a
theorem at01_s {p p' : Nat} {x0 x1 x2 x3 y0 y1 y2 y3 : Int} (hx : Box4 k p x0 x1 x2 x3 K) (hy : Box4 k p' y0 y1 y2 y3 K) (hK : K≤268435456) (C : ∀ k' ds,Up k k'→IntV k' ds (x0*y1) (2*K)→R k' (.agg ds)) :
 Cl k 141 #[.int .i64 0,.int .i64 1,.pointer (some ⟨p,0,none⟩),.pointer (some ⟨p',0,none⟩)] R:=by
 have e2 : 2*K = K+K:=by omega
 rw [e2] at C
 intro k0 u0
 replace hx:=hx.up u0
 replace hy:=hy.up u0
 replace C:=fun k' ds u=>C k' ds (u0.trans u)
 obtain ⟨c0,c1,c2,c3,hb,h0,h1,h2,h3⟩:=hx
 obtain ⟨d0,d1,d2,d3,hb',g0,g1,g2,g3⟩:=hy
 refine at_vc01 h0.seg h1.seg h2.seg h3.seg g0.seg g1.seg g2.seg g3.seg hb hb' ?_
 refine itimes_s h0 g1 (by omega) (by omega) ?_
 intro k1 cA u1 a
 refine ⟨cA,a.seg,rfl,?_⟩
 replace C:=fun k' ds u=>C k' ds (u1.trans u)
 intro k2 u2
 replace a:=a.up u2
 exact C _ _ u2 a
theorem at02_s {p p' : Nat} {x0 x1 x2 x3 y0 y1 y2 y3 : Int} (hx : Box4 k p x0 x1 x2 x3 K) (hy : Box4 k p' y0 y1 y2 y3 K) (hK : K≤268435456) (C : ∀ k' ds,Up k k'→IntV k' ds (x0*y2) (2*K)→R k' (.agg ds)) :
 Cl k 141 #[.int .i64 0,.int .i64 2,.pointer (some ⟨p,0,none⟩),.pointer (some ⟨p',0,none⟩)] R:=by
 have e2 : 2*K = K+K:=by omega
 rw [e2] at C
 intro k0 u0
 replace hx:=hx.up u0
 replace hy:=hy.up u0
 replace C:=fun k' ds u=>C k' ds (u0.trans u)
 obtain ⟨c0,c1,c2,c3,hb,h0,h1,h2,h3⟩:=hx
 obtain ⟨d0,d1,d2,d3,hb',g0,g1,g2,g3⟩:=hy
 refine at_vc02 h0.seg h1.seg h2.seg h3.seg g0.seg g1.seg g2.seg g3.seg hb hb' ?_
 refine itimes_s h0 g2 (by omega) (by omega) ?_
 intro k1 cA u1 a
 refine ⟨cA,a.seg,rfl,?_⟩
 replace C:=fun k' ds u=>C k' ds (u1.trans u)
 intro k2 u2
 replace a:=a.up u2
 exact C _ _ u2 a
theorem at03_s {p p' : Nat} {x0 x1 x2 x3 y0 y1 y2 y3 : Int} (hx : Box4 k p x0 x1 x2 x3 K) (hy : Box4 k p' y0 y1 y2 y3 K) (hK : K≤268435456) (C : ∀ k' ds,Up k k'→IntV k' ds (x0*y3) (2*K)→R k' (.agg ds)) :
 Cl k 141 #[.int .i64 0,.int .i64 3,.pointer (some ⟨p,0,none⟩),.pointer (some ⟨p',0,none⟩)] R:=by
 have e2 : 2*K = K+K:=by omega
 rw [e2] at C
 intro k0 u0
 replace hx:=hx.up u0
 replace hy:=hy.up u0
 replace C:=fun k' ds u=>C k' ds (u0.trans u)
 obtain ⟨c0,c1,c2,c3,hb,h0,h1,h2,h3⟩:=hx
 obtain ⟨d0,d1,d2,d3,hb',g0,g1,g2,g3⟩:=hy
 refine at_vc03 h0.seg h1.seg h2.seg h3.seg g0.seg g1.seg g2.seg g3.seg hb hb' ?_
 refine itimes_s h0 g3 (by omega) (by omega) ?_
 intro k1 cA u1 a
 refine ⟨cA,a.seg,rfl,?_⟩
 replace C:=fun k' ds u=>C k' ds (u1.trans u)
 intro k2 u2
 replace a:=a.up u2
 exact C _ _ u2 a
theorem at10_s {p p' : Nat} {x0 x1 x2 x3 y0 y1 y2 y3 : Int} (hx : Box4 k p x0 x1 x2 x3 K) (hy : Box4 k p' y0 y1 y2 y3 K) (hK : K≤268435456) (C : ∀ k' ds,Up k k'→IntV k' ds (x1*y0) (2*K)→R k' (.agg ds)) :
 Cl k 141 #[.int .i64 1,.int .i64 0,.pointer (some ⟨p,0,none⟩),.pointer (some ⟨p',0,none⟩)] R:=by
 have e2 : 2*K = K+K:=by omega
 rw [e2] at C
 intro k0 u0
 replace hx:=hx.up u0
 replace hy:=hy.up u0
 replace C:=fun k' ds u=>C k' ds (u0.trans u)
 obtain ⟨c0,c1,c2,c3,hb,h0,h1,h2,h3⟩:=hx
 obtain ⟨d0,d1,d2,d3,hb',g0,g1,g2,g3⟩:=hy
 refine at_vc10 h0.seg h1.seg h2.seg h3.seg g0.seg g1.seg g2.seg g3.seg hb hb' ?_
 refine itimes_s h1 g0 (by omega) (by omega) ?_
 intro k1 cA u1 a
 refine ⟨cA,a.seg,rfl,?_⟩
 replace C:=fun k' ds u=>C k' ds (u1.trans u)
 intro k2 u2
 replace a:=a.up u2
 exact C _ _ u2 a
theorem at11_s {p p' : Nat} {x0 x1 x2 x3 y0 y1 y2 y3 : Int} (hx : Box4 k p x0 x1 x2 x3 K) (hy : Box4 k p' y0 y1 y2 y3 K) (hK : K≤268435456) (C : ∀ k' ds,Up k k'→IntV k' ds (x1*y1) (2*K)→R k' (.agg ds)) :
 Cl k 141 #[.int .i64 1,.int .i64 1,.pointer (some ⟨p,0,none⟩),.pointer (some ⟨p',0,none⟩)] R:=by
 have e2 : 2*K = K+K:=by omega
 rw [e2] at C
 intro k0 u0
 replace hx:=hx.up u0
 replace hy:=hy.up u0
 replace C:=fun k' ds u=>C k' ds (u0.trans u)
 obtain ⟨c0,c1,c2,c3,hb,h0,h1,h2,h3⟩:=hx
 obtain ⟨d0,d1,d2,d3,hb',g0,g1,g2,g3⟩:=hy
 refine at_vc11 h0.seg h1.seg h2.seg h3.seg g0.seg g1.seg g2.seg g3.seg hb hb' ?_
 refine itimes_s h1 g1 (by omega) (by omega) ?_
 intro k1 cA u1 a
 refine ⟨cA,a.seg,rfl,?_⟩
 replace C:=fun k' ds u=>C k' ds (u1.trans u)
 intro k2 u2
 replace a:=a.up u2
 exact C _ _ u2 a
theorem at12_s {p p' : Nat} {x0 x1 x2 x3 y0 y1 y2 y3 : Int} (hx : Box4 k p x0 x1 x2 x3 K) (hy : Box4 k p' y0 y1 y2 y3 K) (hK : K≤268435456) (C : ∀ k' ds,Up k k'→IntV k' ds (x1*y2) (2*K)→R k' (.agg ds)) :
 Cl k 141 #[.int .i64 1,.int .i64 2,.pointer (some ⟨p,0,none⟩),.pointer (some ⟨p',0,none⟩)] R:=by
 have e2 : 2*K = K+K:=by omega
 rw [e2] at C
 intro k0 u0
 replace hx:=hx.up u0
 replace hy:=hy.up u0
 replace C:=fun k' ds u=>C k' ds (u0.trans u)
 obtain ⟨c0,c1,c2,c3,hb,h0,h1,h2,h3⟩:=hx
 obtain ⟨d0,d1,d2,d3,hb',g0,g1,g2,g3⟩:=hy
 refine at_vc12 h0.seg h1.seg h2.seg h3.seg g0.seg g1.seg g2.seg g3.seg hb hb' ?_
 refine itimes_s h1 g2 (by omega) (by omega) ?_
 intro k1 cA u1 a
 refine ⟨cA,a.seg,rfl,?_⟩
 replace C:=fun k' ds u=>C k' ds (u1.trans u)
 intro k2 u2
 replace a:=a.up u2
 exact C _ _ u2 a
theorem at13_s {p p' : Nat} {x0 x1 x2 x3 y0 y1 y2 y3 : Int} (hx : Box4 k p x0 x1 x2 x3 K) (hy : Box4 k p' y0 y1 y2 y3 K) (hK : K≤268435456) (C : ∀ k' ds,Up k k'→IntV k' ds (x1*y3) (2*K)→R k' (.agg ds)) :
 Cl k 141 #[.int .i64 1,.int .i64 3,.pointer (some ⟨p,0,none⟩),.pointer (some ⟨p',0,none⟩)] R:=by
 have e2 : 2*K = K+K:=by omega
 rw [e2] at C
 intro k0 u0
 replace hx:=hx.up u0
 replace hy:=hy.up u0
 replace C:=fun k' ds u=>C k' ds (u0.trans u)
 obtain ⟨c0,c1,c2,c3,hb,h0,h1,h2,h3⟩:=hx
 obtain ⟨d0,d1,d2,d3,hb',g0,g1,g2,g3⟩:=hy
 refine at_vc13 h0.seg h1.seg h2.seg h3.seg g0.seg g1.seg g2.seg g3.seg hb hb' ?_
 refine itimes_s h1 g3 (by omega) (by omega) ?_
 intro k1 cA u1 a
 refine ⟨cA,a.seg,rfl,?_⟩
 replace C:=fun k' ds u=>C k' ds (u1.trans u)
 intro k2 u2
 replace a:=a.up u2
 exact C _ _ u2 a
theorem at20_s {p p' : Nat} {x0 x1 x2 x3 y0 y1 y2 y3 : Int} (hx : Box4 k p x0 x1 x2 x3 K) (hy : Box4 k p' y0 y1 y2 y3 K) (hK : K≤268435456) (C : ∀ k' ds,Up k k'→IntV k' ds (x2*y0) (2*K)→R k' (.agg ds)) :
 Cl k 141 #[.int .i64 2,.int .i64 0,.pointer (some ⟨p,0,none⟩),.pointer (some ⟨p',0,none⟩)] R:=by
 have e2 : 2*K = K+K:=by omega
 rw [e2] at C
 intro k0 u0
 replace hx:=hx.up u0
 replace hy:=hy.up u0
 replace C:=fun k' ds u=>C k' ds (u0.trans u)
 obtain ⟨c0,c1,c2,c3,hb,h0,h1,h2,h3⟩:=hx
 obtain ⟨d0,d1,d2,d3,hb',g0,g1,g2,g3⟩:=hy
 refine at_vc20 h0.seg h1.seg h2.seg h3.seg g0.seg g1.seg g2.seg g3.seg hb hb' ?_
 refine itimes_s h2 g0 (by omega) (by omega) ?_
 intro k1 cA u1 a
 refine ⟨cA,a.seg,rfl,?_⟩
 replace C:=fun k' ds u=>C k' ds (u1.trans u)
 intro k2 u2
 replace a:=a.up u2
 exact C _ _ u2 a
theorem at21_s {p p' : Nat} {x0 x1 x2 x3 y0 y1 y2 y3 : Int} (hx : Box4 k p x0 x1 x2 x3 K) (hy : Box4 k p' y0 y1 y2 y3 K) (hK : K≤268435456) (C : ∀ k' ds,Up k k'→IntV k' ds (x2*y1) (2*K)→R k' (.agg ds)) :
 Cl k 141 #[.int .i64 2,.int .i64 1,.pointer (some ⟨p,0,none⟩),.pointer (some ⟨p',0,none⟩)] R:=by
 have e2 : 2*K = K+K:=by omega
 rw [e2] at C
 intro k0 u0
 replace hx:=hx.up u0
 replace hy:=hy.up u0
 replace C:=fun k' ds u=>C k' ds (u0.trans u)
 obtain ⟨c0,c1,c2,c3,hb,h0,h1,h2,h3⟩:=hx
 obtain ⟨d0,d1,d2,d3,hb',g0,g1,g2,g3⟩:=hy
 refine at_vc21 h0.seg h1.seg h2.seg h3.seg g0.seg g1.seg g2.seg g3.seg hb hb' ?_
 refine itimes_s h2 g1 (by omega) (by omega) ?_
 intro k1 cA u1 a
 refine ⟨cA,a.seg,rfl,?_⟩
 replace C:=fun k' ds u=>C k' ds (u1.trans u)
 intro k2 u2
 replace a:=a.up u2
 exact C _ _ u2 a
theorem at22_s {p p' : Nat} {x0 x1 x2 x3 y0 y1 y2 y3 : Int} (hx : Box4 k p x0 x1 x2 x3 K) (hy : Box4 k p' y0 y1 y2 y3 K) (hK : K≤268435456) (C : ∀ k' ds,Up k k'→IntV k' ds (x2*y2) (2*K)→R k' (.agg ds)) :
 Cl k 141 #[.int .i64 2,.int .i64 2,.pointer (some ⟨p,0,none⟩),.pointer (some ⟨p',0,none⟩)] R:=by
 have e2 : 2*K = K+K:=by omega
 rw [e2] at C
 intro k0 u0
 replace hx:=hx.up u0
 replace hy:=hy.up u0
 replace C:=fun k' ds u=>C k' ds (u0.trans u)
 obtain ⟨c0,c1,c2,c3,hb,h0,h1,h2,h3⟩:=hx
 obtain ⟨d0,d1,d2,d3,hb',g0,g1,g2,g3⟩:=hy
 refine at_vc22 h0.seg h1.seg h2.seg h3.seg g0.seg g1.seg g2.seg g3.seg hb hb' ?_
 refine itimes_s h2 g2 (by omega) (by omega) ?_
 intro k1 cA u1 a
 refine ⟨cA,a.seg,rfl,?_⟩
 replace C:=fun k' ds u=>C k' ds (u1.trans u)
 intro k2 u2
 replace a:=a.up u2
 exact C _ _ u2 a
theorem at23_s {p p' : Nat} {x0 x1 x2 x3 y0 y1 y2 y3 : Int} (hx : Box4 k p x0 x1 x2 x3 K) (hy : Box4 k p' y0 y1 y2 y3 K) (hK : K≤268435456) (C : ∀ k' ds,Up k k'→IntV k' ds (x2*y3) (2*K)→R k' (.agg ds)) :
 Cl k 141 #[.int .i64 2,.int .i64 3,.pointer (some ⟨p,0,none⟩),.pointer (some ⟨p',0,none⟩)] R:=by
 have e2 : 2*K = K+K:=by omega
 rw [e2] at C
 intro k0 u0
 replace hx:=hx.up u0
 replace hy:=hy.up u0
 replace C:=fun k' ds u=>C k' ds (u0.trans u)
 obtain ⟨c0,c1,c2,c3,hb,h0,h1,h2,h3⟩:=hx
 obtain ⟨d0,d1,d2,d3,hb',g0,g1,g2,g3⟩:=hy
 refine at_vc23 h0.seg h1.seg h2.seg h3.seg g0.seg g1.seg g2.seg g3.seg hb hb' ?_
 refine itimes_s h2 g3 (by omega) (by omega) ?_
 intro k1 cA u1 a
 refine ⟨cA,a.seg,rfl,?_⟩
 replace C:=fun k' ds u=>C k' ds (u1.trans u)
 intro k2 u2
 replace a:=a.up u2
 exact C _ _ u2 a
theorem at30_s {p p' : Nat} {x0 x1 x2 x3 y0 y1 y2 y3 : Int} (hx : Box4 k p x0 x1 x2 x3 K) (hy : Box4 k p' y0 y1 y2 y3 K) (hK : K≤268435456) (C : ∀ k' ds,Up k k'→IntV k' ds (x3*y0) (2*K)→R k' (.agg ds)) :
 Cl k 141 #[.int .i64 3,.int .i64 0,.pointer (some ⟨p,0,none⟩),.pointer (some ⟨p',0,none⟩)] R:=by
 have e2 : 2*K = K+K:=by omega
 rw [e2] at C
 intro k0 u0
 replace hx:=hx.up u0
 replace hy:=hy.up u0
 replace C:=fun k' ds u=>C k' ds (u0.trans u)
 obtain ⟨c0,c1,c2,c3,hb,h0,h1,h2,h3⟩:=hx
 obtain ⟨d0,d1,d2,d3,hb',g0,g1,g2,g3⟩:=hy
 refine at_vc30 h0.seg h1.seg h2.seg h3.seg g0.seg g1.seg g2.seg g3.seg hb hb' ?_
 refine itimes_s h3 g0 (by omega) (by omega) ?_
 intro k1 cA u1 a
 refine ⟨cA,a.seg,rfl,?_⟩
 replace C:=fun k' ds u=>C k' ds (u1.trans u)
 intro k2 u2
 replace a:=a.up u2
 exact C _ _ u2 a
theorem at31_s {p p' : Nat} {x0 x1 x2 x3 y0 y1 y2 y3 : Int} (hx : Box4 k p x0 x1 x2 x3 K) (hy : Box4 k p' y0 y1 y2 y3 K) (hK : K≤268435456) (C : ∀ k' ds,Up k k'→IntV k' ds (x3*y1) (2*K)→R k' (.agg ds)) :
 Cl k 141 #[.int .i64 3,.int .i64 1,.pointer (some ⟨p,0,none⟩),.pointer (some ⟨p',0,none⟩)] R:=by
 have e2 : 2*K = K+K:=by omega
 rw [e2] at C
 intro k0 u0
 replace hx:=hx.up u0
 replace hy:=hy.up u0
 replace C:=fun k' ds u=>C k' ds (u0.trans u)
 obtain ⟨c0,c1,c2,c3,hb,h0,h1,h2,h3⟩:=hx
 obtain ⟨d0,d1,d2,d3,hb',g0,g1,g2,g3⟩:=hy
 refine at_vc31 h0.seg h1.seg h2.seg h3.seg g0.seg g1.seg g2.seg g3.seg hb hb' ?_
 refine itimes_s h3 g1 (by omega) (by omega) ?_
 intro k1 cA u1 a
 refine ⟨cA,a.seg,rfl,?_⟩
 replace C:=fun k' ds u=>C k' ds (u1.trans u)
 intro k2 u2
 replace a:=a.up u2
 exact C _ _ u2 a
theorem at32_s {p p' : Nat} {x0 x1 x2 x3 y0 y1 y2 y3 : Int} (hx : Box4 k p x0 x1 x2 x3 K) (hy : Box4 k p' y0 y1 y2 y3 K) (hK : K≤268435456) (C : ∀ k' ds,Up k k'→IntV k' ds (x3*y2) (2*K)→R k' (.agg ds)) :
 Cl k 141 #[.int .i64 3,.int .i64 2,.pointer (some ⟨p,0,none⟩),.pointer (some ⟨p',0,none⟩)] R:=by
 have e2 : 2*K = K+K:=by omega
 rw [e2] at C
 intro k0 u0
 replace hx:=hx.up u0
 replace hy:=hy.up u0
 replace C:=fun k' ds u=>C k' ds (u0.trans u)
 obtain ⟨c0,c1,c2,c3,hb,h0,h1,h2,h3⟩:=hx
 obtain ⟨d0,d1,d2,d3,hb',g0,g1,g2,g3⟩:=hy
 refine at_vc32 h0.seg h1.seg h2.seg h3.seg g0.seg g1.seg g2.seg g3.seg hb hb' ?_
 refine itimes_s h3 g2 (by omega) (by omega) ?_
 intro k1 cA u1 a
 refine ⟨cA,a.seg,rfl,?_⟩
 replace C:=fun k' ds u=>C k' ds (u1.trans u)
 intro k2 u2
 replace a:=a.up u2
 exact C _ _ u2 a
theorem at33_s {p p' : Nat} {x0 x1 x2 x3 y0 y1 y2 y3 : Int} (hx : Box4 k p x0 x1 x2 x3 K) (hy : Box4 k p' y0 y1 y2 y3 K) (hK : K≤268435456) (C : ∀ k' ds,Up k k'→IntV k' ds (x3*y3) (2*K)→R k' (.agg ds)) :
 Cl k 141 #[.int .i64 3,.int .i64 3,.pointer (some ⟨p,0,none⟩),.pointer (some ⟨p',0,none⟩)] R:=by
 have e2 : 2*K = K+K:=by omega
 rw [e2] at C
 intro k0 u0
 replace hx:=hx.up u0
 replace hy:=hy.up u0
 replace C:=fun k' ds u=>C k' ds (u0.trans u)
 obtain ⟨c0,c1,c2,c3,hb,h0,h1,h2,h3⟩:=hx
 obtain ⟨d0,d1,d2,d3,hb',g0,g1,g2,g3⟩:=hy
 refine at_vc33 h0.seg h1.seg h2.seg h3.seg g0.seg g1.seg g2.seg g3.seg hb hb' ?_
 refine itimes_s h3 g3 (by omega) (by omega) ?_
 intro k1 cA u1 a
 refine ⟨cA,a.seg,rfl,?_⟩
 replace C:=fun k' ds u=>C k' ds (u1.trans u)
 intro k2 u2
 replace a:=a.up u2
 exact C _ _ u2 a
theorem product_s {c0 c1 c2 c3 c0' c1' c2' c3' : Array Value} {x0 x1 x2 x3 y0 y1 y2 y3 : Int} (i0 : IntV k c0 x0 K) (i1 : IntV k c1 x1 K) (i2 : IntV k c2 x2 K) (i3 : IntV k c3 x3 K) (j0 : IntV k c0' y0 K) (j1 : IntV k c1' y1 K) (j2 : IntV k c2' y2 K) (j3 : IntV k c3' y3 K) (hK : K≤268435456)
 (C : ∀ k' d0 d1 d2 d3,Up k k'→IntV k' d0 (x0*y0+x1*y1*(2 : Nat)+x2*y2*(3 : Nat)+x3*y3*(6 : Nat)) (2*K+4)→IntV k' d1 (x0*y1+x1*y0+(x2*y3+x3*y2)*(3 : Nat)) (2*K+4)→IntV k' d2 (x0*y2+x2*y0+(x1*y3+x3*y1)*(2 : Nat)) (2*K+4)→IntV k' d3 (x0*y3+x3*y0+x1*y2+x2*y1) (2*K+4)→R k' (.agg (d0.toList ++ (d1.toList ++ (d2.toList ++ (d3.toList ++ ([]))))).toArray)) :
 Cl k 117 #[.agg (c0.toList ++ (c1.toList ++ (c2.toList ++ (c3.toList ++ ([]))))).toArray,.agg (c0'.toList ++ (c1'.toList ++ (c2'.toList ++ (c3'.toList ++ ([]))))).toArray] R:=by
 intro k0 u0
 replace i0:=i0.up u0
 replace i1:=i1.up u0
 replace i2:=i2.up u0
 replace i3:=i3.up u0
 replace j0:=j0.up u0
 replace j1:=j1.up u0
 replace j2:=j2.up u0
 replace j3:=j3.up u0
 replace C:=fun k' d0 d1 d2 d3 u=>C k' d0 d1 d2 d3 (u0.trans u)
 refine product_vc i0.seg i1.seg i2.seg i3.seg j0.seg j1.seg j2.seg j3.seg ?_
 intro p kA uA hA
 replace C:=fun k' d0 d1 d2 d3 u=>C k' d0 d1 d2 d3 (uA.trans u)
 have bx : Box4 kA p x0 x1 x2 x3 K:=⟨c0,c1,c2,c3,hA,i0.up uA,i1.up uA,i2.up uA,i3.up uA⟩
 intro p' kB uB hB
 replace C:=fun k' d0 d1 d2 d3 u=>C k' d0 d1 d2 d3 (uB.trans u)
 replace uA:=uA.trans uB
 have bz : Box4 kB p' y0 y1 y2 y3 K:=⟨c0',c1',c2',c3',hB,j0.up uA,j1.up uA,j2.up uA,j3.up uA⟩
 replace bx:=bx.up uB
 clear hA hB i0 i1 i2 i3 j0 j1 j2 j3
 refine at00_s bx bz (by omega) ?_
 intro k1 ea1 u1 a1
 refine ⟨ea1,a1.seg,rfl,?_⟩
 replace bx:=bx.up u1
 replace bz:=bz.up u1
 replace C:=fun k' d0 d1 d2 d3 u=>C k' d0 d1 d2 d3 (u1.trans u)
 refine at11_s bx bz (by omega) ?_
 intro k2 ea2 u2 a2
 refine ⟨ea2,a2.seg,rfl,?_⟩
 replace bx:=bx.up u2
 replace bz:=bz.up u2
 replace a1:=a1.up u2
 replace C:=fun k' d0 d1 d2 d3 u=>C k' d0 d1 d2 d3 (u2.trans u)
 refine fold_s (m:=2) a2 (by omega) (by omega) ?_
 intro k3 ea3 u3 a3
 refine ⟨ea3,a3.seg,rfl,?_⟩
 replace bx:=bx.up u3
 replace bz:=bz.up u3
 replace a1:=a1.up u3
 replace C:=fun k' d0 d1 d2 d3 u=>C k' d0 d1 d2 d3 (u3.trans u)
 refine iplus_s a1 a3 (M:=2*K+1) (by omega) (by omega) (by omega) ?_
 intro k4 ea4 u4 a4
 refine ⟨ea4,a4.seg,rfl,?_⟩
 replace bx:=bx.up u4
 replace bz:=bz.up u4
 replace C:=fun k' d0 d1 d2 d3 u=>C k' d0 d1 d2 d3 (u4.trans u)
 refine at22_s bx bz (by omega) ?_
 intro k5 ea5 u5 a5
 refine ⟨ea5,a5.seg,rfl,?_⟩
 replace bx:=bx.up u5
 replace bz:=bz.up u5
 replace a4:=a4.up u5
 replace C:=fun k' d0 d1 d2 d3 u=>C k' d0 d1 d2 d3 (u5.trans u)
 refine fold_s (m:=3) a5 (by omega) (by omega) ?_
 intro k6 ea6 u6 a6
 refine ⟨ea6,a6.seg,rfl,?_⟩
 replace bx:=bx.up u6
 replace bz:=bz.up u6
 replace a4:=a4.up u6
 replace C:=fun k' d0 d1 d2 d3 u=>C k' d0 d1 d2 d3 (u6.trans u)
 refine iplus_s a4 a6 (M:=2*K+2) (by omega) (by omega) (by omega) ?_
 intro k7 ea7 u7 a7
 refine ⟨ea7,a7.seg,rfl,?_⟩
 replace bx:=bx.up u7
 replace bz:=bz.up u7
 replace C:=fun k' d0 d1 d2 d3 u=>C k' d0 d1 d2 d3 (u7.trans u)
 refine at33_s bx bz (by omega) ?_
 intro k8 ea8 u8 a8
 refine ⟨ea8,a8.seg,rfl,?_⟩
 replace bx:=bx.up u8
 replace bz:=bz.up u8
 replace a7:=a7.up u8
 replace C:=fun k' d0 d1 d2 d3 u=>C k' d0 d1 d2 d3 (u8.trans u)
 refine fold_s (m:=6) a8 (by omega) (by omega) ?_
 intro k9 ea9 u9 a9
 refine ⟨ea9,a9.seg,rfl,?_⟩
 replace bx:=bx.up u9
 replace bz:=bz.up u9
 replace a7:=a7.up u9
 replace C:=fun k' d0 d1 d2 d3 u=>C k' d0 d1 d2 d3 (u9.trans u)
 refine iplus_s a7 a9 (M:=2*K+3) (by omega) (by omega) (by omega) ?_
 intro k10 ea10 u10 a10
 refine ⟨ea10,a10.seg,rfl,?_⟩
 replace bx:=bx.up u10
 replace bz:=bz.up u10
 replace C:=fun k' d0 d1 d2 d3 u=>C k' d0 d1 d2 d3 (u10.trans u)
 refine at01_s bx bz (by omega) ?_
 intro k11 ea11 u11 a11
 refine ⟨ea11,a11.seg,rfl,?_⟩
 replace bx:=bx.up u11
 replace bz:=bz.up u11
 replace a10:=a10.up u11
 replace C:=fun k' d0 d1 d2 d3 u=>C k' d0 d1 d2 d3 (u11.trans u)
 refine at10_s bx bz (by omega) ?_
 intro k12 ea12 u12 a12
 refine ⟨ea12,a12.seg,rfl,?_⟩
 replace bx:=bx.up u12
 replace bz:=bz.up u12
 replace a10:=a10.up u12
 replace a11:=a11.up u12
 replace C:=fun k' d0 d1 d2 d3 u=>C k' d0 d1 d2 d3 (u12.trans u)
 refine iplus_s a11 a12 (M:=2*K+0) (by omega) (by omega) (by omega) ?_
 intro k13 ea13 u13 a13
 refine ⟨ea13,a13.seg,rfl,?_⟩
 replace bx:=bx.up u13
 replace bz:=bz.up u13
 replace a10:=a10.up u13
 replace C:=fun k' d0 d1 d2 d3 u=>C k' d0 d1 d2 d3 (u13.trans u)
 refine at23_s bx bz (by omega) ?_
 intro k14 ea14 u14 a14
 refine ⟨ea14,a14.seg,rfl,?_⟩
 replace bx:=bx.up u14
 replace bz:=bz.up u14
 replace a10:=a10.up u14
 replace a13:=a13.up u14
 replace C:=fun k' d0 d1 d2 d3 u=>C k' d0 d1 d2 d3 (u14.trans u)
 refine at32_s bx bz (by omega) ?_
 intro k15 ea15 u15 a15
 refine ⟨ea15,a15.seg,rfl,?_⟩
 replace bx:=bx.up u15
 replace bz:=bz.up u15
 replace a10:=a10.up u15
 replace a13:=a13.up u15
 replace a14:=a14.up u15
 replace C:=fun k' d0 d1 d2 d3 u=>C k' d0 d1 d2 d3 (u15.trans u)
 refine iplus_s a14 a15 (M:=2*K+0) (by omega) (by omega) (by omega) ?_
 intro k16 ea16 u16 a16
 refine ⟨ea16,a16.seg,rfl,?_⟩
 replace bx:=bx.up u16
 replace bz:=bz.up u16
 replace a10:=a10.up u16
 replace a13:=a13.up u16
 replace C:=fun k' d0 d1 d2 d3 u=>C k' d0 d1 d2 d3 (u16.trans u)
 refine fold_s (m:=3) a16 (by omega) (by omega) ?_
 intro k17 ea17 u17 a17
 refine ⟨ea17,a17.seg,rfl,?_⟩
 replace bx:=bx.up u17
 replace bz:=bz.up u17
 replace a10:=a10.up u17
 replace a13:=a13.up u17
 replace C:=fun k' d0 d1 d2 d3 u=>C k' d0 d1 d2 d3 (u17.trans u)
 refine iplus_s a13 a17 (M:=2*K+2) (by omega) (by omega) (by omega) ?_
 intro k18 ea18 u18 a18
 refine ⟨ea18,a18.seg,rfl,?_⟩
 replace bx:=bx.up u18
 replace bz:=bz.up u18
 replace a10:=a10.up u18
 replace C:=fun k' d0 d1 d2 d3 u=>C k' d0 d1 d2 d3 (u18.trans u)
 refine at02_s bx bz (by omega) ?_
 intro k19 ea19 u19 a19
 refine ⟨ea19,a19.seg,rfl,?_⟩
 replace bx:=bx.up u19
 replace bz:=bz.up u19
 replace a10:=a10.up u19
 replace a18:=a18.up u19
 replace C:=fun k' d0 d1 d2 d3 u=>C k' d0 d1 d2 d3 (u19.trans u)
 refine at20_s bx bz (by omega) ?_
 intro k20 ea20 u20 a20
 refine ⟨ea20,a20.seg,rfl,?_⟩
 replace bx:=bx.up u20
 replace bz:=bz.up u20
 replace a10:=a10.up u20
 replace a18:=a18.up u20
 replace a19:=a19.up u20
 replace C:=fun k' d0 d1 d2 d3 u=>C k' d0 d1 d2 d3 (u20.trans u)
 refine iplus_s a19 a20 (M:=2*K+0) (by omega) (by omega) (by omega) ?_
 intro k21 ea21 u21 a21
 refine ⟨ea21,a21.seg,rfl,?_⟩
 replace bx:=bx.up u21
 replace bz:=bz.up u21
 replace a10:=a10.up u21
 replace a18:=a18.up u21
 replace C:=fun k' d0 d1 d2 d3 u=>C k' d0 d1 d2 d3 (u21.trans u)
 refine at13_s bx bz (by omega) ?_
 intro k22 ea22 u22 a22
 refine ⟨ea22,a22.seg,rfl,?_⟩
 replace bx:=bx.up u22
 replace bz:=bz.up u22
 replace a10:=a10.up u22
 replace a18:=a18.up u22
 replace a21:=a21.up u22
 replace C:=fun k' d0 d1 d2 d3 u=>C k' d0 d1 d2 d3 (u22.trans u)
 refine at31_s bx bz (by omega) ?_
 intro k23 ea23 u23 a23
 refine ⟨ea23,a23.seg,rfl,?_⟩
 replace bx:=bx.up u23
 replace bz:=bz.up u23
 replace a10:=a10.up u23
 replace a18:=a18.up u23
 replace a21:=a21.up u23
 replace a22:=a22.up u23
 replace C:=fun k' d0 d1 d2 d3 u=>C k' d0 d1 d2 d3 (u23.trans u)
 refine iplus_s a22 a23 (M:=2*K+0) (by omega) (by omega) (by omega) ?_
 intro k24 ea24 u24 a24
 refine ⟨ea24,a24.seg,rfl,?_⟩
 replace bx:=bx.up u24
 replace bz:=bz.up u24
 replace a10:=a10.up u24
 replace a18:=a18.up u24
 replace a21:=a21.up u24
 replace C:=fun k' d0 d1 d2 d3 u=>C k' d0 d1 d2 d3 (u24.trans u)
 refine fold_s (m:=2) a24 (by omega) (by omega) ?_
 intro k25 ea25 u25 a25
 refine ⟨ea25,a25.seg,rfl,?_⟩
 replace bx:=bx.up u25
 replace bz:=bz.up u25
 replace a10:=a10.up u25
 replace a18:=a18.up u25
 replace a21:=a21.up u25
 replace C:=fun k' d0 d1 d2 d3 u=>C k' d0 d1 d2 d3 (u25.trans u)
 refine iplus_s a21 a25 (M:=2*K+2) (by omega) (by omega) (by omega) ?_
 intro k26 ea26 u26 a26
 refine ⟨ea26,a26.seg,rfl,?_⟩
 replace bx:=bx.up u26
 replace bz:=bz.up u26
 replace a10:=a10.up u26
 replace a18:=a18.up u26
 replace C:=fun k' d0 d1 d2 d3 u=>C k' d0 d1 d2 d3 (u26.trans u)
 refine at03_s bx bz (by omega) ?_
 intro k27 ea27 u27 a27
 refine ⟨ea27,a27.seg,rfl,?_⟩
 replace bx:=bx.up u27
 replace bz:=bz.up u27
 replace a10:=a10.up u27
 replace a18:=a18.up u27
 replace a26:=a26.up u27
 replace C:=fun k' d0 d1 d2 d3 u=>C k' d0 d1 d2 d3 (u27.trans u)
 refine at30_s bx bz (by omega) ?_
 intro k28 ea28 u28 a28
 refine ⟨ea28,a28.seg,rfl,?_⟩
 replace bx:=bx.up u28
 replace bz:=bz.up u28
 replace a10:=a10.up u28
 replace a18:=a18.up u28
 replace a26:=a26.up u28
 replace a27:=a27.up u28
 replace C:=fun k' d0 d1 d2 d3 u=>C k' d0 d1 d2 d3 (u28.trans u)
 refine iplus_s a27 a28 (M:=2*K+0) (by omega) (by omega) (by omega) ?_
 intro k29 ea29 u29 a29
 refine ⟨ea29,a29.seg,rfl,?_⟩
 replace bx:=bx.up u29
 replace bz:=bz.up u29
 replace a10:=a10.up u29
 replace a18:=a18.up u29
 replace a26:=a26.up u29
 replace C:=fun k' d0 d1 d2 d3 u=>C k' d0 d1 d2 d3 (u29.trans u)
 refine at12_s bx bz (by omega) ?_
 intro k30 ea30 u30 a30
 refine ⟨ea30,a30.seg,rfl,?_⟩
 replace bx:=bx.up u30
 replace bz:=bz.up u30
 replace a10:=a10.up u30
 replace a18:=a18.up u30
 replace a26:=a26.up u30
 replace a29:=a29.up u30
 replace C:=fun k' d0 d1 d2 d3 u=>C k' d0 d1 d2 d3 (u30.trans u)
 refine iplus_s a29 a30 (M:=2*K+1) (by omega) (by omega) (by omega) ?_
 intro k31 ea31 u31 a31
 refine ⟨ea31,a31.seg,rfl,?_⟩
 replace bx:=bx.up u31
 replace bz:=bz.up u31
 replace a10:=a10.up u31
 replace a18:=a18.up u31
 replace a26:=a26.up u31
 replace C:=fun k' d0 d1 d2 d3 u=>C k' d0 d1 d2 d3 (u31.trans u)
 refine at21_s bx bz (by omega) ?_
 intro k32 ea32 u32 a32
 refine ⟨ea32,a32.seg,rfl,?_⟩
 replace a10:=a10.up u32
 replace a18:=a18.up u32
 replace a26:=a26.up u32
 replace a31:=a31.up u32
 replace C:=fun k' d0 d1 d2 d3 u=>C k' d0 d1 d2 d3 (u32.trans u)
 refine iplus_s a31 a32 (M:=2*K+2) (by omega) (by omega) (by omega) ?_
 intro k33 ea33 u33 a33
 refine ⟨ea33,a33.seg,rfl,?_⟩
 replace a10:=a10.up u33
 replace a18:=a18.up u33
 replace a26:=a26.up u33
 replace C:=fun k' d0 d1 d2 d3 u=>C k' d0 d1 d2 d3 (u33.trans u)
 intro k34 u34
 replace a10:=a10.up u34
 replace a18:=a18.up u34
 replace a26:=a26.up u34
 replace a33:=a33.up u34
 exact C _ _ _ _ _ u34 (a10.mono (by omega)) (a18.mono (by omega)) (a26.mono (by omega)) (a33.mono (by omega))
theorem mkQ_mul (x0 x1 x2 x3 y0 y1 y2 y3 : Int) {m n : Nat} (hm : 0 < m) (hn : 0 < n) : mkQ (x0*y0+x1*y1*(2 : Nat)+x2*y2*(3 : Nat)+x3*y3*(6 : Nat)) (x0*y1+x1*y0+(x2*y3+x3*y2)*(3 : Nat)) (x0*y2+x2*y0+(x1*y3+x3*y1)*(2 : Nat)) (x0*y3+x3*y0+x1*y2+x2*y1) (m*n) = (mkQ x0 x1 x2 x3 m).mul (mkQ y0 y1 y2 y3 n):=by
 have h:=Nat.mul_pos hm hn
 unfold mkQ Q4.mul
 simp only [mkRat_sum _ _ h,mkRat_scale _ _ h,mkRat_mul']
 rfl
theorem SMul_s (hx : SurdV k cs v K) (hy : SurdV k cs' v' K) (hK1 : 1≤K) (hK : K≤268435456) (C : ∀ k' ds,Up k k'→SurdV k' ds (v.mul v') (2*K+4)→R k' (.agg ds)) :
 Cl k 86 #[.agg cs,.agg cs'] R:=by
 obtain ⟨c0,c1,c2,c3,D,d,e,x0,x1,x2,x3,m,rfl,hm,hg,rfl,i0,i1,i2,i3,lx,hd⟩:=hx
 obtain ⟨c0',c1',c2',c3',D',d',e',y0,y1,y2,y3,n,rfl,hn,hg',rfl,j0,j1,j2,j3,ly,hd'⟩:=hy
 intro k0 u0
 replace i0:=i0.up u0
 replace i1:=i1.up u0
 replace i2:=i2.up u0
 replace i3:=i3.up u0
 replace lx:=lx.up u0
 replace j0:=j0.up u0
 replace j1:=j1.up u0
 replace j2:=j2.up u0
 replace j3:=j3.up u0
 replace ly:=ly.up u0
 replace C:=fun k' ds u=>C k' ds (u0.trans u)
 refine SMul_vc i0.seg i1.seg i2.seg i3.seg j0.seg j1.seg j2.seg j3.seg ?_
 refine product_s i0 i1 i2 i3 j0 j1 j2 j3 (by omega) ?_
 intro k1 d0 d1 d2 d3 u1 z0 z1 z2 z3
 refine ⟨d0,z0.seg,d1,z1.seg,d2,z2.seg,d3,z3.seg,rfl,?_⟩
 replace lx:=lx.up u1
 replace ly:=ly.up u1
 replace C:=fun k' ds u=>C k' ds (u1.trans u)
 refine under_s lx hm (L:=K) hd hK1 (by omega) ?_
 intro k2 D1 q1 e1 u2 lx' hd1
 refine ⟨D1,q1,e1,rfl,?_⟩
 replace ly:=ly.up u2
 replace z0:=z0.up u2
 replace z1:=z1.up u2
 replace z2:=z2.up u2
 replace z3:=z3.up u2
 replace C:=fun k' ds u=>C k' ds (u2.trans u)
 refine under_s ly hn (L:=K) hd' hK1 (by omega) ?_
 intro k3 D2 q2 e2 u3 ly' hd2
 refine ⟨D2,q2,e2,rfl,?_⟩
 replace z0:=z0.up u3
 replace z1:=z1.up u3
 replace z2:=z2.up u3
 replace z3:=z3.up u3
 replace lx':=lx'.up u3
 replace C:=fun k' ds u=>C k' ds (u3.trans u)
 refine times_s lx' ly' (by omega) (by omega) ?_
 intro k4 D3 q3 e3 u4 lm hd3
 refine ⟨D3,q3,e3,rfl,?_⟩
 replace z0:=z0.up u4
 replace z1:=z1.up u4
 replace z2:=z2.up u4
 replace z3:=z3.up u4
 replace C:=fun k' ds u=>C k' ds (u4.trans u)
 refine surd_s z0 z1 z2 z3 lm (Nat.mul_pos hm hn) (by omega) (by omega) ?_
 intro k17 ds u17 hs
 obtain ⟨c0,c1,c2,c3,D,d,e,hcs,h9⟩:=hs.cells
 refine ⟨c0,h9.1,c1,h9.2.1,c2,h9.2.2.1,c3,h9.2.2.2,D,d,e,by rw [hcs]; rfl,?_⟩
 intro k18 u18
 have:=C k18 ds (u17.trans u18) (by rw [← mkQ_mul x0 x1 x2 x3 y0 y1 y2 y3 hm hn]; exact hs.up u18)
 rw [hcs] at this
 exact this
theorem RatV.intV {q : Rat} (h : RatV k cs q K) : ∃ c0 A n c,cs = (c0.toList ++ ((.slice A n c) :: [])).toArray∧IntV k c0 q.num K∧LimR k A n c (if q.den = 1 then 0 else q.den)∧n≤K:=by
 obtain ⟨g,A,n,c,D,d,e,rfl,h,h1,h2⟩:=h
 exact ⟨#[.bool g,.slice A n c],D,d,e,rfl,⟨g,A,n,c,rfl,h.num,h1⟩,h.den,h2⟩
theorem gcd5_num (q : Rat) : gcd5 q.den q.num.natAbs 0 0 0 = 1:=by
 unfold gcd5
 simp only [Nat.gcd_zero_right]
 rw [Nat.gcd_comm]
 exact q.reduced
theorem mkQ_real (q : Rat) : Q4.real q = mkQ q.num 0 0 0 q.den:=by
 unfold mkQ Q4.real
 simp [Rat.mkRat_self]
theorem IntV.nil : IntV k #[.bool false,.slice none 0 0] 0 K:=⟨false,none,0,0,rfl,⟨rfl,LimR.nil⟩,Nat.zero_le _⟩
theorem SOf_s {q : Rat} (hx : SurdV k cs v L) (hy : RatV k cs' q K) (C : ∀ k' ds,Up k k'→SurdV k' ds (Q4.real q) K→R k' (.agg ds)) :
 Cl k 26 #[.agg cs,.agg cs'] R:=by
 intro k0 u0
 obtain ⟨c0,c1,c2,c3,D,d,e,rfl,s0,s1,s2,s3⟩:=hx.cells
 obtain ⟨d0,A,n,c,rfl,iq,lq,hn⟩:=hy.intV
 refine SOf_vc s0 s1 s2 s3 iq.seg ?_
 intro k1 u1
 have u:=u0.trans u1
 refine C k1 _ u ⟨d0,_,_,_,A,n,c,q.num,0,0,0,q.den,rfl,q.den_pos,gcd5_num q,mkQ_real q,iq.up u,IntV.nil,IntV.nil,IntV.nil,lq.up u,hn⟩
theorem Parts_s (hx : SurdV k cs v K) (hK1 : 1≤K) (hK : K≤268435456) (C : ∀ k' d0 d1 d2 d3,Up k k'→RatV k' d0 v.a K→RatV k' d1 v.b K→RatV k' d2 v.c K→RatV k' d3 v.d K→R k' (.agg (d0.toList ++ (d1.toList ++ (d2.toList ++ (d3.toList ++ ([]))))).toArray)) :
 Cl k 90 #[.agg cs] R:=by
 obtain ⟨c0,c1,c2,c3,D,d,e,x0,x1,x2,x3,m,rfl,hm,hg,rfl,i0,i1,i2,i3,lx,hd⟩:=hx
 intro k0 u0
 replace i0:=i0.up u0
 replace i1:=i1.up u0
 replace i2:=i2.up u0
 replace i3:=i3.up u0
 replace lx:=lx.up u0
 replace C:=fun k' d0 d1 d2 d3 u=>C k' d0 d1 d2 d3 (u0.trans u)
 refine Parts_vc i0.seg i1.seg i2.seg i3.seg ?_
 refine under_s lx hm (L:=K) hd hK1 (by omega) ?_
 intro k1 D0 q0 e0 u1 l0 w0
 refine ⟨D0,q0,e0,rfl,?_⟩
 replace i0:=i0.up u1
 replace i1:=i1.up u1
 replace i2:=i2.up u1
 replace i3:=i3.up u1
 replace lx:=lx.up u1
 replace C:=fun k' d0 d1 d2 d3 u=>C k' d0 d1 d2 d3 (u1.trans u)
 refine over_s i0 l0 hm (by omega) w0 ?_
 intro k2 cA0 u2 r0
 refine ⟨cA0,r0.seg,rfl,?_⟩
 replace i1:=i1.up u2
 replace i2:=i2.up u2
 replace i3:=i3.up u2
 replace lx:=lx.up u2
 replace C:=fun k' d0 d1 d2 d3 u=>C k' d0 d1 d2 d3 (u2.trans u)
 refine under_s lx hm (L:=K) hd hK1 (by omega) ?_
 intro k3 D1 q1 e1 u3 l1 w1
 refine ⟨D1,q1,e1,rfl,?_⟩
 replace i1:=i1.up u3
 replace i2:=i2.up u3
 replace i3:=i3.up u3
 replace lx:=lx.up u3
 replace r0:=r0.up u3
 replace C:=fun k' d0 d1 d2 d3 u=>C k' d0 d1 d2 d3 (u3.trans u)
 refine over_s i1 l1 hm (by omega) w1 ?_
 intro k4 cA1 u4 r1
 refine ⟨cA1,r1.seg,rfl,?_⟩
 replace i2:=i2.up u4
 replace i3:=i3.up u4
 replace lx:=lx.up u4
 replace r0:=r0.up u4
 replace C:=fun k' d0 d1 d2 d3 u=>C k' d0 d1 d2 d3 (u4.trans u)
 refine under_s lx hm (L:=K) hd hK1 (by omega) ?_
 intro k5 D2 q2 e2 u5 l2 w2
 refine ⟨D2,q2,e2,rfl,?_⟩
 replace i2:=i2.up u5
 replace i3:=i3.up u5
 replace lx:=lx.up u5
 replace r0:=r0.up u5
 replace r1:=r1.up u5
 replace C:=fun k' d0 d1 d2 d3 u=>C k' d0 d1 d2 d3 (u5.trans u)
 refine over_s i2 l2 hm (by omega) w2 ?_
 intro k6 cA2 u6 r2
 refine ⟨cA2,r2.seg,rfl,?_⟩
 replace i3:=i3.up u6
 replace lx:=lx.up u6
 replace r0:=r0.up u6
 replace r1:=r1.up u6
 replace C:=fun k' d0 d1 d2 d3 u=>C k' d0 d1 d2 d3 (u6.trans u)
 refine under_s lx hm (L:=K) hd hK1 (by omega) ?_
 intro k7 D3 q3 e3 u7 l3 w3
 refine ⟨D3,q3,e3,rfl,?_⟩
 replace i3:=i3.up u7
 replace r0:=r0.up u7
 replace r1:=r1.up u7
 replace r2:=r2.up u7
 replace C:=fun k' d0 d1 d2 d3 u=>C k' d0 d1 d2 d3 (u7.trans u)
 refine over_s i3 l3 hm (by omega) w3 ?_
 intro k8 cA3 u8 r3
 refine ⟨cA3,r3.seg,rfl,?_⟩
 replace r0:=r0.up u8
 replace r1:=r1.up u8
 replace r2:=r2.up u8
 replace C:=fun k' d0 d1 d2 d3 u=>C k' d0 d1 d2 d3 (u8.trans u)
 intro k9 u9
 replace r0:=r0.up u9
 replace r1:=r1.up u9
 replace r2:=r2.up u9
 replace r3:=r3.up u9
 exact C _ _ _ _ _ u9 r0 r1 r2 r3
theorem mkRat_make (q : Rat) {M : Nat} (hd : q.den ∣ M) (hM : 0 < M) : mkRat (q.num*((M / q.den : Nat) : Int)) M = q:=by
 obtain ⟨t,rfl⟩:=hd
 rw [Nat.mul_div_cancel_left _ q.den_pos]
 have ht : t ≠ 0:=by intro e; subst e; omega
 rw [Rat.mkRat_mul_right ht,Rat.mkRat_self]
theorem mkQ_make (q0 q1 q2 q3 : Rat) : mkQ (q0.num*((1*q0.den*q1.den*q2.den*q3.den / q0.den : Nat) : Int)) (q1.num*((1*q0.den*q1.den*q2.den*q3.den / q1.den : Nat) : Int)) (q2.num*((1*q0.den*q1.den*q2.den*q3.den / q2.den : Nat) : Int)) (q3.num*((1*q0.den*q1.den*q2.den*q3.den / q3.den : Nat) : Int)) (1*q0.den*q1.den*q2.den*q3.den) = ⟨q0,q1,q2,q3⟩:=by
 have hpos : 0 < 1*q0.den*q1.den*q2.den*q3.den:=by
  rw [Nat.one_mul]; exact Nat.mul_pos (Nat.mul_pos (Nat.mul_pos q0.den_pos q1.den_pos) q2.den_pos) q3.den_pos
 have h0 : q0.den ∣ 1*q0.den*q1.den*q2.den*q3.den:=⟨q1.den*q2.den*q3.den,by rw [Nat.one_mul]; simp only [Nat.mul_assoc]⟩
 have h1 : q1.den ∣ 1*q0.den*q1.den*q2.den*q3.den:=⟨q0.den*q2.den*q3.den,by rw [Nat.one_mul,Nat.mul_comm q0.den q1.den]; simp only [Nat.mul_assoc]⟩
 have h2 : q2.den ∣ 1*q0.den*q1.den*q2.den*q3.den:=⟨q0.den*q1.den*q3.den,by rw [Nat.one_mul,Nat.mul_comm (q0.den*q1.den) q2.den]; simp only [Nat.mul_assoc]⟩
 have h3 : q3.den ∣ 1*q0.den*q1.den*q2.den*q3.den:=⟨q0.den*q1.den*q2.den,by rw [Nat.one_mul,Nat.mul_comm (q0.den*q1.den*q2.den) q3.den]⟩
 unfold mkQ
 rw [mkRat_make q0 h0 hpos,mkRat_make q1 h1 hpos,mkRat_make q2 h2 hpos,mkRat_make q3 h3 hpos]
theorem Make_s {c0 c1 c2 c3 : Array Value} {q0 q1 q2 q3 : Rat} (h0 : RatV k c0 q0 K) (h1 : RatV k c1 q1 K) (h2 : RatV k c2 q2 K) (h3 : RatV k c3 q3 K) (hK1 : 1≤K) (hK : K≤134217728)
 (C : ∀ k' ds,Up k k'→SurdV k' ds ⟨q0,q1,q2,q3⟩ (5*K+1)→R k' (.agg ds)) :
 Cl k 51 #[.agg (c0.toList ++ (c1.toList ++ (c2.toList ++ (c3.toList ++ ([]))))).toArray] R:=by
 obtain ⟨a0,A0,m0,d0,rfl,i0,l0,n0⟩:=h0.intV
 obtain ⟨a1,A1,m1,d1,rfl,i1,l1,n1⟩:=h1.intV
 obtain ⟨a2,A2,m2,d2,rfl,i2,l2,n2⟩:=h2.intV
 obtain ⟨a3,A3,m3,d3,rfl,i3,l3,n3⟩:=h3.intV
 have hcells : ((a0.toList ++ ((Value.slice A0 m0 d0) :: [])).toArray.toList ++ ((a1.toList ++ ((Value.slice A1 m1 d1) :: [])).toArray.toList ++ ((a2.toList ++ ((Value.slice A2 m2 d2) :: [])).toArray.toList ++ ((a3.toList ++ ((Value.slice A3 m3 d3) :: [])).toArray.toList ++ ([]))))).toArray
  = (a0.toList ++ ((Value.slice A0 m0 d0) :: (a1.toList ++ ((Value.slice A1 m1 d1) :: (a2.toList ++ ((Value.slice A2 m2 d2) :: (a3.toList ++ ((Value.slice A3 m3 d3) :: ([]))))))))).toArray:=by
  simp
 rw [hcells]
 clear hcells
 intro k0 u0
 replace i0:=i0.up u0
 replace i1:=i1.up u0
 replace i2:=i2.up u0
 replace i3:=i3.up u0
 replace l0:=l0.up u0
 replace l1:=l1.up u0
 replace l2:=l2.up u0
 replace l3:=l3.up u0
 replace C:=fun k' ds u=>C k' ds (u0.trans u)
 refine Make_vc i0.seg i1.seg i2.seg i3.seg ?_
 refine word_s (x:=1) (by omega) ?_
 intro k1 Dw qw ew u1 w0 hw0
 refine ⟨Dw,qw,ew,rfl,?_⟩
 replace i0:=i0.up u1
 replace i1:=i1.up u1
 replace i2:=i2.up u1
 replace i3:=i3.up u1
 replace l0:=l0.up u1
 replace l1:=l1.up u1
 replace l2:=l2.up u1
 replace l3:=l3.up u1
 replace C:=fun k' ds u=>C k' ds (u1.trans u)
 refine under_s l0 (q0.den_pos) (L:=K) n0 hK1 (by omega) ?_
 intro k2 D0 s0 e0 u2 y0 z0
 refine ⟨D0,s0,e0,rfl,?_⟩
 replace i0:=i0.up u2
 replace i1:=i1.up u2
 replace i2:=i2.up u2
 replace i3:=i3.up u2
 replace l0:=l0.up u2
 replace l1:=l1.up u2
 replace l2:=l2.up u2
 replace l3:=l3.up u2
 replace w0:=w0.up u2
 replace C:=fun k' ds u=>C k' ds (u2.trans u)
 refine times_s w0 y0 (by omega) (by omega) ?_
 intro k3 E0 t0 g0 u3 w1 hw1
 refine ⟨E0,t0,g0,rfl,?_⟩
 replace i0:=i0.up u3
 replace i1:=i1.up u3
 replace i2:=i2.up u3
 replace i3:=i3.up u3
 replace l0:=l0.up u3
 replace l1:=l1.up u3
 replace l2:=l2.up u3
 replace l3:=l3.up u3
 replace C:=fun k' ds u=>C k' ds (u3.trans u)
 refine under_s l1 (q1.den_pos) (L:=K) n1 hK1 (by omega) ?_
 intro k4 D1 s1 e1 u4 y1 z1
 refine ⟨D1,s1,e1,rfl,?_⟩
 replace i0:=i0.up u4
 replace i1:=i1.up u4
 replace i2:=i2.up u4
 replace i3:=i3.up u4
 replace l0:=l0.up u4
 replace l1:=l1.up u4
 replace l2:=l2.up u4
 replace l3:=l3.up u4
 replace w1:=w1.up u4
 replace C:=fun k' ds u=>C k' ds (u4.trans u)
 refine times_s w1 y1 (by omega) (by omega) ?_
 intro k5 E1 t1 g1 u5 w2 hw2
 refine ⟨E1,t1,g1,rfl,?_⟩
 replace i0:=i0.up u5
 replace i1:=i1.up u5
 replace i2:=i2.up u5
 replace i3:=i3.up u5
 replace l0:=l0.up u5
 replace l1:=l1.up u5
 replace l2:=l2.up u5
 replace l3:=l3.up u5
 replace C:=fun k' ds u=>C k' ds (u5.trans u)
 refine under_s l2 (q2.den_pos) (L:=K) n2 hK1 (by omega) ?_
 intro k6 D2 s2 e2 u6 y2 z2
 refine ⟨D2,s2,e2,rfl,?_⟩
 replace i0:=i0.up u6
 replace i1:=i1.up u6
 replace i2:=i2.up u6
 replace i3:=i3.up u6
 replace l0:=l0.up u6
 replace l1:=l1.up u6
 replace l2:=l2.up u6
 replace l3:=l3.up u6
 replace w2:=w2.up u6
 replace C:=fun k' ds u=>C k' ds (u6.trans u)
 refine times_s w2 y2 (by omega) (by omega) ?_
 intro k7 E2 t2 g2 u7 w3 hw3
 refine ⟨E2,t2,g2,rfl,?_⟩
 replace i0:=i0.up u7
 replace i1:=i1.up u7
 replace i2:=i2.up u7
 replace i3:=i3.up u7
 replace l0:=l0.up u7
 replace l1:=l1.up u7
 replace l2:=l2.up u7
 replace l3:=l3.up u7
 replace C:=fun k' ds u=>C k' ds (u7.trans u)
 refine under_s l3 (q3.den_pos) (L:=K) n3 hK1 (by omega) ?_
 intro k8 D3 s3 e3 u8 y3 z3
 refine ⟨D3,s3,e3,rfl,?_⟩
 replace i0:=i0.up u8
 replace i1:=i1.up u8
 replace i2:=i2.up u8
 replace i3:=i3.up u8
 replace l0:=l0.up u8
 replace l1:=l1.up u8
 replace l2:=l2.up u8
 replace l3:=l3.up u8
 replace w3:=w3.up u8
 replace C:=fun k' ds u=>C k' ds (u8.trans u)
 refine times_s w3 y3 (by omega) (by omega) ?_
 intro k9 E3 t3 g3 u9 w4 hw4
 refine ⟨E3,t3,g3,rfl,?_⟩
 replace i0:=i0.up u9
 replace i1:=i1.up u9
 replace i2:=i2.up u9
 replace i3:=i3.up u9
 replace l0:=l0.up u9
 replace l1:=l1.up u9
 replace l2:=l2.up u9
 replace l3:=l3.up u9
 replace C:=fun k' ds u=>C k' ds (u9.trans u)
 refine under_s l0 (q0.den_pos) (L:=K) n0 hK1 (by omega) ?_
 intro k10 F0 m0 o0 u10 yy0 zz0
 refine ⟨F0,m0,o0,rfl,?_⟩
 replace i0:=i0.up u10
 replace i1:=i1.up u10
 replace i2:=i2.up u10
 replace i3:=i3.up u10
 replace l1:=l1.up u10
 replace l2:=l2.up u10
 replace l3:=l3.up u10
 replace w4:=w4.up u10
 replace C:=fun k' ds u=>C k' ds (u10.trans u)
 refine divide_s w4 yy0 (q0.den_pos) (by omega) (by omega) ?_
 intro k11 G0 v0 x0 H0 a0 b0 u11 dv0 rm0 hq0 hr0
 refine ⟨G0,v0,x0,H0,a0,b0,rfl,?_⟩
 replace i0:=i0.up u11
 replace i1:=i1.up u11
 replace i2:=i2.up u11
 replace i3:=i3.up u11
 replace l1:=l1.up u11
 replace l2:=l2.up u11
 replace l3:=l3.up u11
 replace w4:=w4.up u11
 replace C:=fun k' ds u=>C k' ds (u11.trans u)
 refine scaled_s i0 dv0 (L:=4*K+1) (by omega) (by omega) (by omega) ?_
 intro k12 cS0 u12 sc0
 refine ⟨cS0,sc0.seg,rfl,?_⟩
 replace i1:=i1.up u12
 replace i2:=i2.up u12
 replace i3:=i3.up u12
 replace l1:=l1.up u12
 replace l2:=l2.up u12
 replace l3:=l3.up u12
 replace w4:=w4.up u12
 replace C:=fun k' ds u=>C k' ds (u12.trans u)
 refine under_s l1 (q1.den_pos) (L:=K) n1 hK1 (by omega) ?_
 intro k13 F1 m1 o1 u13 yy1 zz1
 refine ⟨F1,m1,o1,rfl,?_⟩
 replace i1:=i1.up u13
 replace i2:=i2.up u13
 replace i3:=i3.up u13
 replace l2:=l2.up u13
 replace l3:=l3.up u13
 replace w4:=w4.up u13
 replace sc0:=sc0.up u13
 replace C:=fun k' ds u=>C k' ds (u13.trans u)
 refine divide_s w4 yy1 (q1.den_pos) (by omega) (by omega) ?_
 intro k14 G1 v1 x1 H1 a1 b1 u14 dv1 rm1 hq1 hr1
 refine ⟨G1,v1,x1,H1,a1,b1,rfl,?_⟩
 replace i1:=i1.up u14
 replace i2:=i2.up u14
 replace i3:=i3.up u14
 replace l2:=l2.up u14
 replace l3:=l3.up u14
 replace w4:=w4.up u14
 replace sc0:=sc0.up u14
 replace C:=fun k' ds u=>C k' ds (u14.trans u)
 refine scaled_s i1 dv1 (L:=4*K+1) (by omega) (by omega) (by omega) ?_
 intro k15 cS1 u15 sc1
 refine ⟨cS1,sc1.seg,rfl,?_⟩
 replace i2:=i2.up u15
 replace i3:=i3.up u15
 replace l2:=l2.up u15
 replace l3:=l3.up u15
 replace w4:=w4.up u15
 replace sc0:=sc0.up u15
 replace C:=fun k' ds u=>C k' ds (u15.trans u)
 refine under_s l2 (q2.den_pos) (L:=K) n2 hK1 (by omega) ?_
 intro k16 F2 m2 o2 u16 yy2 zz2
 refine ⟨F2,m2,o2,rfl,?_⟩
 replace i2:=i2.up u16
 replace i3:=i3.up u16
 replace l3:=l3.up u16
 replace w4:=w4.up u16
 replace sc0:=sc0.up u16
 replace sc1:=sc1.up u16
 replace C:=fun k' ds u=>C k' ds (u16.trans u)
 refine divide_s w4 yy2 (q2.den_pos) (by omega) (by omega) ?_
 intro k17 G2 v2 x2 H2 a2 b2 u17 dv2 rm2 hq2 hr2
 refine ⟨G2,v2,x2,H2,a2,b2,rfl,?_⟩
 replace i2:=i2.up u17
 replace i3:=i3.up u17
 replace l3:=l3.up u17
 replace w4:=w4.up u17
 replace sc0:=sc0.up u17
 replace sc1:=sc1.up u17
 replace C:=fun k' ds u=>C k' ds (u17.trans u)
 refine scaled_s i2 dv2 (L:=4*K+1) (by omega) (by omega) (by omega) ?_
 intro k18 cS2 u18 sc2
 refine ⟨cS2,sc2.seg,rfl,?_⟩
 replace i3:=i3.up u18
 replace l3:=l3.up u18
 replace w4:=w4.up u18
 replace sc0:=sc0.up u18
 replace sc1:=sc1.up u18
 replace C:=fun k' ds u=>C k' ds (u18.trans u)
 refine under_s l3 (q3.den_pos) (L:=K) n3 hK1 (by omega) ?_
 intro k19 F3 m3 o3 u19 yy3 zz3
 refine ⟨F3,m3,o3,rfl,?_⟩
 replace i3:=i3.up u19
 replace w4:=w4.up u19
 replace sc0:=sc0.up u19
 replace sc1:=sc1.up u19
 replace sc2:=sc2.up u19
 replace C:=fun k' ds u=>C k' ds (u19.trans u)
 refine divide_s w4 yy3 (q3.den_pos) (by omega) (by omega) ?_
 intro k20 G3 v3 x3 H3 a3 b3 u20 dv3 rm3 hq3 hr3
 refine ⟨G3,v3,x3,H3,a3,b3,rfl,?_⟩
 replace i3:=i3.up u20
 replace w4:=w4.up u20
 replace sc0:=sc0.up u20
 replace sc1:=sc1.up u20
 replace sc2:=sc2.up u20
 replace C:=fun k' ds u=>C k' ds (u20.trans u)
 refine scaled_s i3 dv3 (L:=4*K+1) (by omega) (by omega) (by omega) ?_
 intro k21 cS3 u21 sc3
 refine ⟨cS3,sc3.seg,rfl,?_⟩
 replace w4:=w4.up u21
 replace sc0:=sc0.up u21
 replace sc1:=sc1.up u21
 replace sc2:=sc2.up u21
 replace C:=fun k' ds u=>C k' ds (u21.trans u)
 have hpos : 0 < 1*q0.den*q1.den*q2.den*q3.den:=by
  rw [Nat.one_mul]; exact Nat.mul_pos (Nat.mul_pos (Nat.mul_pos q0.den_pos q1.den_pos) q2.den_pos) q3.den_pos
 refine surd_s (K:=5*K+1) (sc0.mono (by omega)) (sc1.mono (by omega)) (sc2.mono (by omega)) (sc3.mono (by omega)) w4 hpos (by omega) (by omega) ?_
 intro k17 ds u17 hs
 obtain ⟨c0,c1,c2,c3,D,d,e,hcs,h9⟩:=hs.cells
 refine ⟨c0,h9.1,c1,h9.2.1,c2,h9.2.2.1,c3,h9.2.2.2,D,d,e,by rw [hcs]; rfl,?_⟩
 intro k18 u18
 have:=C k18 ds (u17.trans u18) (by
  have e:=hs.up u18
  rw [mkQ_make] at e
  exact e)
 rw [hcs] at this
 exact this
end
end Go.Proofs.YtmilhgkacmofmaaGreat
