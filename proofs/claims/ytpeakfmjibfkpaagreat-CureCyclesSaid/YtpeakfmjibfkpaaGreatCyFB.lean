/- Several texts in one. (Printed by prep.py.) -/
import Derived.Test.YtpeakfmjibfkpaaGreatCyQ5
namespace Go.Proofs.YtpeakfmjibfkpaaGreat
open Num
def flr (q:Rat):Int:=q.num/(q.den:Int)
theorem aZg (n:Int) {d:Nat}(hd:0<d):flr (mkRat n d)=n/(d:Int):=by
 unfold flr;rw [Rat.num_mkRat,oh oq,Rat.den_mkRat,oh oq];have hg:0<Nat.gcd d n.natAbs:=Nat.gcd_pos_of_pos_left _ hd;have d1:((Nat.gcd d n.natAbs:Nat):Int) ∣ n:=Int.dvd_natAbs.1 (Int.natCast_dvd_natCast.2 (Nat.gcd_dvd_right _ _));have d2:Nat.gcd d n.natAbs ∣ d:=Nat.gcd_dvd_left _ _;generalize Nat.gcd d n.natAbs=g at hg d1 d2;obtain⟨a,rfl⟩:=d1;obtain⟨b,rfl⟩:=d2;rw [Int.mul_ediv_cancel_left _ oq,Nat.mul_div_cancel_left _ hg,vm,Int.mul_ediv_mul_of_pos _ _ oq]
def oA (q:Rat) (k:Nat):Rat:=mkRat (q.num*((2^k:Nat):Int) / (q.den:Int)) (2^k)
def iQ (n:Int):Nat:=(min 1000 (max 0 n)).toNat
theorem xG (n:Int):iQ n≤1000:=by unfold iQ;omega
theorem xF (n:Int):(if (decide ((1000:Int)<(if (decide ((n:Int)<0))=true then 0 else n)))=true then 1000 else (if (decide ((n:Int)<0))=true then 0 else n))=((iQ n:Nat):Int):=by
 unfold iQ
 by_cases h:n<0
 ·simp only [decide_eq_true h,if_true];rw [oh oz];omega
 ·simp only [decide_eq_false h,zy,if_false]
  by_cases h2:1000<n
  ·rw [og (decide_eq_true h2)];omega
  ·rw [oh (by simp [h2])];omega
theorem jE (z:Int) {d:Nat}(hd:0<d) (h:0≤z∨z.natAbs % d=0):sgn (decide (z<0)) (z.natAbs/d)=z/(d:Int):=by
 have hn:=jq z.natAbs d;have hr:=qd z.natAbs hd;have hm:(d:Int)*((z.natAbs/d:Nat):Int)+((z.natAbs % d:Nat):Int)=(z.natAbs:Int):=by rw [←vm,←xv,hn]
 generalize z.natAbs/d=q at hm;generalize z.natAbs % d=r at hm hr h
 by_cases hz:z<0
 ·have hr0:r=0:=oq
  subst hr0;refine Eq.symm ((Int.ediv_emod_unique (r:=0) oq).2 ⟨?_,oq,oq⟩).1;unfold sgn;rw [og (decide_eq_true hz),Int.mul_neg];omega
 ·refine Eq.symm ((Int.ediv_emod_unique (r:=(r:Int)) oq).2 ⟨?_,oq,oq⟩).1;unfold sgn;rw [oh (by simp [hz])];omega
theorem sF (z:Int) {d:Nat}(hd:0<d) (hz:z<0) (h:z.natAbs % d≠0):sgn true (z.natAbs/d+1)=z/(d:Int):=by
 have hn:=jq z.natAbs d;have hr:=qd z.natAbs hd;have hm:(d:Int)*((z.natAbs/d:Nat):Int)+((z.natAbs % d:Nat):Int)=(z.natAbs:Int):=by rw [←vm,←xv,hn]
 generalize z.natAbs/d=q at hm;generalize z.natAbs % d=r at hm hr h;refine Eq.symm ((Int.ediv_emod_unique (r:=(d:Int)-r) oq).2 ⟨?_,oq,oq⟩).1;unfold sgn;rw [og rfl,xv,Int.mul_neg,Int.mul_add];omega
theorem aVq (q:Rat) (k:Nat):flr (q*(((2^k:Nat):Int):Rat))=q.num*((2^k:Nat):Int) / (q.den:Int):=by
 have e:q*(((2^k:Nat):Int):Rat)=mkRat (q.num*((2^k:Nat):Int)) q.den:=by
  have h:=vG q.num ((2^k:Nat):Int) q.den 1;rw [zl,xl,uo]at h;exact h.symm
 rw [e,aZg _ q.den_pos]
theorem jZ (z:Int) {d:Nat}:mkRat z d=(z:Rat) / ((d:Int):Rat):=by rw [yh];rfl
def rcmp (y:Rat):Int:=(y-(flr y:Rat)-mkRat 1 2).num.sign
def rup (y:Rat):Bool:=decide (0<rcmp y) || (decide (rcmp y=0) && decide (flr y % 2=1))
def bAh (x s:Rat):Rat:=(if rup (x/s)=true then (flr (x/s):Rat)+1 else (flr (x/s):Rat))*s
def bCe (x s:Rat):Rat:=if s.num.sign≤0 then 0 else bAh x s
def halved (x:Rat):Nat→Rat
 | 0=>x
 | j+1=>halved x j/2
open Go.RowKit
open Value (agg slice int bool tuple)
open Sy (Up Sees CallsG Seg execFn_use)
set_option maxRecDepth 100000
variable {k:World}{R:World→Value→Prop}{b0:Bool}{A1 A2:Option Addr}{c1 c2 l1 l2:Nat}{n0 n1 n3:Int}{cs0:Array Value}
theorem aHu 
 (h:Cl k 151 #[slice A1 l1 c1,slice A2 l2 c2] fun k1 r0=>∃A3 l3 c3,∃A4 l4 c4,some (tuple #[slice A3 l3 c3,slice A4 l4 c4])=some r0∧
 Br b0 (Tt∧(Br (decide (((l4:Nat):Int) > 0)) (Cl k1 128 #[int .u64 1] fun k3 r2=>∃A5 l5 c5,some (slice A5 l5 c5)=some r2∧
 Cl k3 172 #[slice A3 l3 c3,slice A5 l5 c5] fun k5 r4=>∃A6 l6 c6,some (slice A6 l6 c6)=some r4∧
 Cl k5 103 #[bool b0,slice A6 l6 c6] fun k7 r6=>∃b7,∃A8 l8 c8,some (agg #[bool b7,slice A8 l8 c8])=some r6∧
 Rt R k7 (agg #[bool b7,slice A8 l8 c8])) (Cl k1 103 #[bool b0,slice A3 l3 c3] fun k10 r9=>∃b5,∃A6 l6 c6,some (agg #[bool b5,slice A6 l6 c6])=some r9∧
 Rt R k10 (agg #[bool b5,slice A6 l6 c6])))) (Cl k1 103 #[bool b0,slice A3 l3 c3] fun k13 r12=>∃b5,∃A6 l6 c6,some (agg #[bool b5,slice A6 l6 c6])=some r12∧
 Rt R k13 (agg #[bool b5,slice A6 l6 c6]))) :
  CallsG Tryz.prog 198 #[agg #[bool b0,slice A1 l1 c1],slice A2 l2 c2] k R:=
  qY { opq:=[] } h
theorem aOi 
 (h:Cl k 187 #[slice A1 l1 c1,int .i64 (if (decide ((1000:Int)<(if (decide ((n3:Int)<0))=true then 0 else n3)))=true then 1000 else (if (decide ((n3:Int)<0))=true then 0 else n3))] fun k1 r0=>∃A4 l4 c4,some (slice A4 l4 c4)=some r0∧
 Cl k1 103 #[bool b0,slice A4 l4 c4] fun k3 r2=>∃b5,∃A6 l6 c6,some (agg #[bool b5,slice A6 l6 c6])=some r2∧
 Cl k3 129 #[slice A2 l2 c2] fun k5 r4=>∃A7 l7 c7,some (slice A7 l7 c7)=some r4∧
 Cl k5 198 #[agg #[bool b5,slice A6 l6 c6],slice A7 l7 c7] fun k7 r6=>∃b8,∃A9 l9 c9,some (agg #[bool b8,slice A9 l9 c9])=some r6∧
 Cl k7 128 #[int .u64 1] fun k9 r8=>∃A10 l10 c10,some (slice A10 l10 c10)=some r8∧
 Cl k9 187 #[slice A10 l10 c10,int .i64 (if (decide ((1000:Int)<(if (decide ((n3:Int)<0))=true then 0 else n3)))=true then 1000 else (if (decide ((n3:Int)<0))=true then 0 else n3))] fun k11 r10=>∃A11 l11 c11,some (slice A11 l11 c11)=some r10∧
 Cl k11 102 #[agg #[bool b8,slice A9 l9 c9],slice A11 l11 c11] fun k13 r12=>∃b12,∃A13 l13 c13,∃A14 l14 c14,some (agg #[bool b12,slice A13 l13 c13,slice A14 l14 c14])=some r12∧
 Rt R k13 (agg #[bool b12,slice A13 l13 c13,slice A14 l14 c14])) :
  CallsG Tryz.prog 159 #[agg #[bool b0,slice A1 l1 c1,slice A2 l2 c2],int .i64 n3] k R:=
  qY { opq:=[] } h
theorem aUl (hcs0:Seg 3 cs0)
 (h:Cl k 133 #[agg cs0] fun k1 r0=>Gt 3 r0 fun cs2=>
 Cl k1 159 #[agg cs2,int .i64 n1] fun k3 r2=>Gt 3 r2 fun cs3=>
 Cl k3 133 #[agg cs3] fun k5 r4=>Gt 3 r4 fun cs4=>
 Rt R k5 (agg cs4)) :
  CallsG Tryz.prog 160 #[agg cs0,int .i64 n1] k R:=
  qX { opq:=[75] } [.agg [.seg 0 3],.one (.var 1)] [agg cs0,int .i64 n1] [.seg 3,.int .i64] ⟨⟨cs0,rfl,hcs0⟩,⟨_,rfl⟩,trivial⟩ h
theorem aNe 
 (h:Cl k 170 #[agg #[bool b0,slice A1 l1 c1,slice A2 l2 c2]] fun k1 r0=>∃A3 l3 c3,some (slice A3 l3 c3)=some r0∧
 Cl k1 156 #[slice A1 l1 c1,slice A3 l3 c3] fun k3 r2=>∃A4 l4 c4,∃A5 l5 c5,some (tuple #[slice A4 l4 c4,slice A5 l5 c5])=some r2∧
 Br b0 (Tt∧(Br (decide (((l5:Nat):Int) > 0)) (∀p6 k4,Up k3 k4→Sy.Blk k4 p6 237 #[int .u32 1]→
 Cl k4 190 #[slice A4 l4 c4,slice (some ⟨p6,0,none⟩) 1 1] fun k6 r5=>∃A7 l7 c7,some (slice A7 l7 c7)=some r5∧
 ∀p8 k7,Up k6 k7→Sy.Blk k7 p8 237 #[int .u32 1]→
 Cl k7 110 #[bool b0,slice A7 l7 c7,slice (some ⟨p8,0,none⟩) 1 1] fun k9 r8=>∃b9,∃A10 l10 c10,∃A11 l11 c11,some (agg #[bool b9,slice A10 l10 c10,slice A11 l11 c11])=some r8∧
 Rt R k9 (agg #[bool b9,slice A10 l10 c10,slice A11 l11 c11])) (∀p6 k11,Up k3 k11→Sy.Blk k11 p6 237 #[int .u32 1]→
 Cl k11 110 #[bool b0,slice A4 l4 c4,slice (some ⟨p6,0,none⟩) 1 1] fun k13 r12=>∃b7,∃A8 l8 c8,∃A9 l9 c9,some (agg #[bool b7,slice A8 l8 c8,slice A9 l9 c9])=some r12∧
 Rt R k13 (agg #[bool b7,slice A8 l8 c8,slice A9 l9 c9])))) (∀p6 k15,Up k3 k15→Sy.Blk k15 p6 237 #[int .u32 1]→
 Cl k15 110 #[bool b0,slice A4 l4 c4,slice (some ⟨p6,0,none⟩) 1 1] fun k17 r16=>∃b7,∃A8 l8 c8,∃A9 l9 c9,some (agg #[bool b7,slice A8 l8 c8,slice A9 l9 c9])=some r16∧
 Rt R k17 (agg #[bool b7,slice A8 l8 c8,slice A9 l9 c9]))) :
  CallsG Tryz.prog 165 #[agg #[bool b0,slice A1 l1 c1,slice A2 l2 c2]] k R:=
  qY { opq:=[] } h
theorem aTk 
 (h:∀p1 k0,Up k k0→Sy.Blk k0 p1 237 #[int .u32 1]→
 Cl k0 195 #[slice (some ⟨p1,0,none⟩) 1 1,int .i64 n0] fun k2 r1=>∃A2 l2 c2,some (slice A2 l2 c2)=some r1∧
 ∀p3 k3,Up k2 k3→Sy.Blk k3 p3 237 #[int .u32 1]→
 Cl k3 110 #[bool false,slice A2 l2 c2,slice (some ⟨p3,0,none⟩) 1 1] fun k5 r4=>∃b4,∃A5 l5 c5,∃A6 l6 c6,some (agg #[bool b4,slice A5 l5 c5,slice A6 l6 c6])=some r4∧
 Rt R k5 (agg #[bool b4,slice A5 l5 c5,slice A6 l6 c6])) :
  CallsG Tryz.prog 164 #[int .i64 n0] k R:=
  qY { opq:=[] } h
theorem aMu (hcs0:Seg 3 cs0)
 (h:Cl k 164 #[int .i64 (if (decide ((1000:Int)<(if (decide ((n1:Int)<0))=true then 0 else n1)))=true then 1000 else (if (decide ((n1:Int)<0))=true then 0 else n1))] fun k1 r0=>Gt 3 r0 fun cs2=>
 Cl k1 125 #[agg cs0,agg cs2] fun k3 r2=>Gt 3 r2 fun cs3=>
 Cl k3 165 #[agg cs3] fun k5 r4=>Gt 3 r4 fun cs4=>
 Cl k5 161 #[agg cs4,agg cs2] fun k7 r6=>Gt 3 r6 fun cs5=>
 Rt R k7 (agg cs5)) :
  CallsG Tryz.prog 119 #[agg cs0,int .i64 n1] k R:=
  qX { opq:=[81] } [.agg [.seg 0 3],.one (.var 1)] [agg cs0,int .i64 n1] [.seg 3,.int .i64] ⟨⟨cs0,rfl,hcs0⟩,⟨_,rfl⟩,trivial⟩ h
theorem aSw (hcs0:Seg 3 cs0)
 (h:Cl k 154 #[agg cs0] fun k1 r0=>Gt 3 r0 fun cs2=>
 Cl k1 119 #[agg cs2,int .i64 n1] fun k3 r2=>Gt 3 r2 fun cs3=>
 Cl k3 154 #[agg cs3] fun k5 r4=>Gt 3 r4 fun cs4=>
 Rt R k5 (agg cs4)) :
  CallsG Tryz.prog 120 #[agg cs0,int .i64 n1] k R:=
  qX { opq:=[81] } [.agg [.seg 0 3],.one (.var 1)] [agg cs0,int .i64 n1] [.seg 3,.int .i64] ⟨⟨cs0,rfl,hcs0⟩,⟨_,rfl⟩,trivial⟩ h
end Go.Proofs.YtpeakfmjibfkpaaGreat

namespace Go.Proofs.YtpeakfmjibfkpaaGreat
open Go.RowKit Num
open Sy (Up Sees CallsG Seg)
section
variable {k k':World}{A A':Option Addr}{n n' c c' a b:Nat}{cs cs':Array Value}{bz:Bool}{R:World→Value→Prop}{x y q:Rat}{z:Int}{K L:Nat}
theorem aQy {s:Nat}(h:LimR k A n c a) (hn:n≤17179869184) (hs:s≤17179869184)
 (K:∀k' B j d,Up k k'→LimR k' B j d (a*2^s)→j≤n+s→R k' (.slice B j d)):Cl k 187 #[.slice A n c,.int .i64 (s:Int)] R:=
 after (fun _k0 u=>aWm fun _w hs'=>aZm ((h.up u).sees hs') hn hs) fun k' _v u ⟨B,j,d,e,h1,h2⟩=>e▸K k' B j d u h1 h2
theorem whole_s {neg:Bool}(h:LimR k A n c a) (hn:n≤1152921504606846976) (hK:n≤K)
 (C:∀k' ds,Up k k'→IntV k' ds (sgn neg a) K→R k' (.agg ds)):Cl k 103 #[.bool neg,.slice A n c] R:=
 after (fun _k0 u=>bCc fun _w hs=>iH neg ((h.up u).sees hs) hn) fun k' v u hv=>by
  obtain⟨ds,rfl,hd⟩:=aVt hv;exact C k' ds u (hd.mono hK)
theorem IntV.open (h:IntV k cs z K):∃b A n c,cs=#[.bool b,.slice A n c]∧IntV k #[.bool b,.slice A n c] z K:=by
 obtain⟨b,A,n,c,rfl,h⟩:=h;exact⟨b,A,n,c,rfl,b,A,n,c,rfl,h⟩
theorem RatV.open (h:RatV k cs q K):∃b A n c D d e,cs=#[.bool b,.slice A n c,.slice D d e]∧RatV k #[.bool b,.slice A n c,.slice D d e] q K:=by
 obtain⟨b,A,n,c,D,d,e,rfl,h⟩:=h;exact⟨b,A,n,c,D,d,e,rfl,b,A,n,c,D,d,e,rfl,h⟩
theorem aQm {d:Nat}(hx:IntV k #[.bool bz,.slice A n c] z K) (h:LimR k A' n' c' d) (hd:0<d) (hK:K≤1000000) (hn:n'≤1000000) (C:∀k' ds,Up k k'→IntV k' ds (z/(d:Int)) (K+1)→R k' (.agg ds)) :
 Cl k 198 #[.agg #[.bool bz,.slice A n c],.slice A' n' c'] R:=by
 intro k0 u0;replace C:=fun k' ds u=>C k' ds (u0.trans u);obtain⟨b',A2,n2,c2,e0,hx,hnK⟩:=hx.up u0;injection e0 with e0;injection e0 with e1 e0;injection e1 with e1;injection e0 with e2 e0;injection e2 with e2 e3 e4;subst e1 e2 e3 e4;have hb:=hx.neg;refine aHu (aQc hx.lim (h.up u0) hd oq oq fun k1 A3 l3 c3 A4 l4 c4 u1 hq hr lq lr=>⟨A3,l3,c3,A4,l4,c4,rfl,fun hneg=>⟨rfl,fun hrem=>?_,fun hrem=>?_⟩,fun hneg=>?_⟩)
 ·have hz:z<0:=ow (hb.symm.trans hneg);have hr0:z.natAbs % d≠0:=fun e=>by
   have h1:=hr.zero_iff.2 e;have:=ow hrem;omega
  refine aUk (x:=1) oz fun k3 A5 l5 c5 u3 h5 hl5=>⟨A5,l5,c5,rfl,?_⟩;refine aZy (L:=K+1) (hq.up u3) h5 oq oq oq fun k5 A6 l6 c6 u5 h6 hl6=>⟨A6,l6,c6,rfl,?_⟩;have hl6':l6≤K+1:=by
   rw [h6.len];have h7:z.natAbs/d+1≤z.natAbs:=by
    have:=jq z.natAbs d;have h8:=Nat.le_mul_of_pos_left (z.natAbs/d) hd;omega
   have:=aZ h7;rw [←hx.lim.len]at this;omega
  rw [hneg];refine whole_s h6 oq hl6' fun k7 ds u7 h7=>?_;obtain⟨b7,A8,l8,c8,rfl,h7⟩:=h7.open;refine⟨b7,A8,l8,c8,rfl,fun k8 u8=>C k8 _ ((((u1.trans u3).trans u5).trans u7).trans u8) ?_⟩;rw [sF z hd hz hr0]at h7;exact h7.up u8
 ·have hz:z<0:=ow (hb.symm.trans hneg);have hr0:z.natAbs % d=0:=by
   have:=ov hrem;exact hr.zero_iff.1 oq
  refine whole_s hq oq (K:=K+1) oq fun k7 ds u7 h7=>?_;obtain⟨b7,A8,l8,c8,rfl,h7⟩:=h7.open;refine⟨b7,A8,l8,c8,rfl,fun k8 u8=>C k8 _ ((u1.trans u7).trans u8) ?_⟩;rw [hb,jE z hd (.inr hr0)]at h7;exact h7.up u8
 ·have hz:¬ z<0:=ov (hb.symm.trans hneg);refine whole_s hq oq (K:=K+1) oq fun k7 ds u7 h7=>?_;obtain⟨b7,A8,l8,c8,rfl,h7⟩:=h7.open;refine⟨b7,A8,l8,c8,rfl,fun k8 u8=>C k8 _ ((u1.trans u7).trans u8) ?_⟩;rw [hb,jE z hd (.inl oq)]at h7;exact h7.up u8
theorem aBh {m:Int}(hx:RatV k cs q K) (hK1:1≤K) (hK:K≤100000) (C:∀k' ds,Up k k'→RatV k' ds (oA q (iQ m)) (K+1001)→R k' (.agg ds)) :
 Cl k 159 #[.agg cs,.int .i64 m] R:=by
 intro k0 u0;replace C:=fun k' ds u=>C k' ds (u0.trans u);obtain⟨b0,A1,l1,c1,A2,l2,c2,rfl,hr,e1,e2⟩:=hx.up u0;have hc:=xG m;refine aOi ?_;rw [xF];generalize iQ m=s at hc C;have h1:=hr.num.lim;have hneg:=hr.num.neg;refine aQy h1 oq oq fun k1 A4 l4 c4 u1 h4 hl4=>⟨A4,l4,c4,rfl,?_⟩;refine whole_s (K:=K+1000) h4 oq oq fun k3 d3 u3 h3=>?_;obtain⟨b5,A6,l6,c6,rfl,h3⟩:=h3.open;refine⟨b5,A6,l6,c6,rfl,?_⟩;refine gG (L:=K) ((hr.den.up u1).up u3) q.den_pos e2 hK1 oq fun k5 A7 l7 c7 u5 h7 hl7=>⟨A7,l7,c7,rfl,?_⟩;refine aQm (h3.up u5) h7 q.den_pos oq oq fun k7 d7 u7 h8=>?_;obtain⟨b8,A9,l9,c9,rfl,h8⟩:=h8.open;refine⟨b8,A9,l9,c9,rfl,?_⟩;refine aUk (x:=1) oz fun k9 A10 l10 c10 u9 h10 hl10=>⟨A10,l10,c10,rfl,?_⟩;refine aQy (h10) oq oq fun k11 A11 l11 c11 u11 h11 hl11=>⟨A11,l11,c11,rfl,?_⟩;rw [yx]at h11;refine aZw ((h8.up u9).up u11) h11 (oi oz) oq oq fun k13 d13 u13 h13=>?_;obtain⟨b12,A13,l13,c13,A14,l14,c14,rfl,h13⟩:=h13.open;refine⟨b12,A13,l13,c13,A14,l14,c14,rfl,fun k14 u14=>?_⟩;have ez:sgn b0 (q.num.natAbs*2^s)=q.num*((2^s:Nat):Int):=by rw [hneg];exact tT q.num (2^s)
 rw [ez]at h13;exact C k14 _ (((((((u1.trans u3).trans u5).trans u7).trans u9).trans u11).trans u13).trans u14) (h13.up u14)
theorem aUn {m:Int}(hx:RatV k cs q K) (hK1:1≤K) (hK:K≤100000) (C:∀k' ds,Up k k'→RatV k' ds (-oA (-q) (iQ m)) (K+1001)→R k' (.agg ds)) :
 Cl k 160 #[.agg cs,.int .i64 m] R:=by
 intro k0 u0;refine aUl hx.seg (aOn (hx.up u0) oq fun k1 d1 u1 h1=>⟨d1,h1.seg,rfl,?_⟩);refine aBh h1 hK1 hK fun k3 d3 u3 h3=>⟨d3,h3.seg,rfl,?_⟩;exact aOn h3 oq fun k5 d5 u5 h5=>⟨d5,h5.seg,rfl,fun k6 u6=>C k6 _ ((((u0.trans u1).trans u3).trans u5).trans u6) (h5.up u6)⟩
end
open Value (agg slice int bool tuple)
open Sy (Up Sees CallsG Seg execFn_use)
set_option maxRecDepth 100000
variable {k:World}{R:World→Value→Prop}{cs0 cs1:Array Value}
theorem aZz (hcs0:Seg 3 cs0) (hcs1:Seg 3 cs1)
 (h:Cl k 199 #[agg cs0,agg cs1] fun k1 r0=>∃cs2,Seg 3 cs2∧∃n3,some (tuple #[agg cs2,int .i64 n3])=some r0∧
 Rt R k1 (agg cs2)) :
  CallsG Tryz.prog 161 #[agg cs0,agg cs1] k R:=
  qX { opq:=[81] } [.agg [.seg 0 3],.agg [.seg 1 3]] [agg cs0,agg cs1] [.seg 3,.seg 3] ⟨⟨cs0,rfl,hcs0⟩,⟨cs1,rfl,hcs1⟩,trivial⟩ h
end Go.Proofs.YtpeakfmjibfkpaaGreat

namespace Go.Proofs.YtpeakfmjibfkpaaGreat.W32
open Go.RowKit Num
open Sy (Up Sees CallsG Seg)
section
variable {k k':World}{cs cs':Array Value}{R:World→Value→Prop}{x y q q':Rat}{K L:Nat}{b:Bool}{A A':Option Addr}{l c l' c':Nat}
theorem QV.mk1 (h:QN k b A l c A' l' c' q) (h1:l≤K) (h2:l'≤K):QV k #[.bool b,.slice A l c,.slice A' l' c'] q K:=⟨b,A,l,c,A',l',c',rfl,h,h1,h2⟩
theorem QV.same (h:QV k cs q K) (e:q=q'):QV k cs q' K:=e▸h
theorem bBx (hx:QV k cs x K) (hy:QV k cs' y L) (hK1:1≤K) (hL1:1≤L) (hK:K+L≤10000000000) (C:∀k' ds,Up k k'→QV k' ds (x/y) (K+L)→R k' (.agg ds)) :
 Cl k 161 #[.agg cs,.agg cs'] R:=
 fun _ u0=>aZz hx.seg hy.seg (aYd (hx.up u0) (hy.up u0) hK1 hL1 hK fun _k1 ds u1 hD=>⟨ds,hD.seg,_,rfl,fun k2 u2=>C k2 ds ((u0.trans u1).trans u2) (hD.up u2)⟩)
theorem aVp (hx:QV k cs x K) (hK1:1≤K) (hK:K≤1000000) (C:∀k' ds,Up k k'→QV k' ds ((flr x:Int):Rat) (K+1)→R k' (.agg ds)) :
 Cl k 165 #[.agg cs] R:=by
 intro k0 u0;obtain⟨b0,A1,l1,c1,A2,l2,c2,rfl,hx,e1,e2⟩:=hx.up u0;replace C:=fun k' ds u=>C k' ds (u0.trans u);have hd:=x.den_pos;have hs:=hx.s;have dl:=hx.d.2;refine aNe (gG hx fun k1 A3 c3 u1 hD=>⟨A3,_,c3,rfl,?_⟩);refine kT (hx.n.up u1) hD oq oq hd fun k3 A4 c4 A5 c5 u3 hq hr=>⟨A4,_,c4,A5,_,c5,rfl,fun hneg=>⟨rfl,fun hrem=>?_,fun hrem=>?_⟩,fun hneg=>?_⟩
 ·have hz:x.num<0:=ow (hs.symm.trans hneg);have hr0:x.num.natAbs % x.den≠0:=fun e=>by
   have:=ow hrem;rw [e,nw_zero]at this;omega
  have hq1:=aZ (zk x.num.natAbs x.den);have hn:=hx.n.2;intro p k4 u4 hp k5 u5;refine aYp (k:=k5) (K:=K) (hq.1.up (u4.trans u5)) ((lS hp).1.up u5) oq oq oq (fun k6 A7 c7 u6 hS hSl=>⟨A7,_,c7,rfl,?_⟩) k5 (Up.refl k5);intro p8 k7 u7 hp8 k8 u8;refine jM (k:=k8) (K:=K+1) ((hS.up u7).up u8) ((lS hp8).up u8) oz oq oq oq (q:=((flr x:Int):Rat)) ?_ (fun k9 b A l c A' l' c' u9 hQ f1 f2=>⟨_,_,_,_,_,_,_,rfl,fun k10 u10=>C k10 _ (((((((u1.trans u3).trans u4).trans u5).trans u6).trans u7).trans (u8.trans u9)).trans u10) (QV.mk1 (hQ.up u10) f1 f2)⟩) k8 (Up.refl k8);rw [hneg,sF x.num hd hz hr0,uo];rfl
 ·have hr0:x.num.natAbs % x.den=0:=by
   have:=ov hrem;exact bO.1 oq
  have hq1:=aZ (zk x.num.natAbs x.den);have hn:=hx.n.2;intro p k4 u4 hp k5 u5;refine jM (k:=k5) (K:=K+1) ((hq.up u4).up u5) ((lS hp).up u5) oz oq oq oq (q:=((flr x:Int):Rat)) ?_ (fun k9 b A l c A' l' c' u9 hQ f1 f2=>⟨_,_,_,_,_,_,_,rfl,fun k10 u10=>C k10 _ ((((u1.trans u3).trans u4).trans (u5.trans u9)).trans u10) (QV.mk1 (hQ.up u10) f1 f2)⟩) k5 (Up.refl k5);rw [hs,jE x.num hd (.inr hr0),uo];rfl
 ·have hz:¬ x.num<0:=ov (hs.symm.trans hneg);have hq1:=aZ (zk x.num.natAbs x.den);have hn:=hx.n.2;intro p k4 u4 hp k5 u5;refine jM (k:=k5) (K:=K+1) ((hq.up u4).up u5) ((lS hp).up u5) oz oq oq oq (q:=((flr x:Int):Rat)) ?_ (fun k9 b A l c A' l' c' u9 hQ f1 f2=>⟨_,_,_,_,_,_,_,rfl,fun k10 u10=>C k10 _ ((((u1.trans u3).trans u4).trans (u5.trans u9)).trans u10) (QV.mk1 (hQ.up u10) f1 f2)⟩) k5 (Up.refl k5);rw [hs,jE x.num hd (.inl oq),uo];rfl
theorem aZs (s:Nat):nw (1*2^s)≤s+1:=by
 refine aS ?_;rw [yx,wQ,←wj];exact Nat.pow_lt_pow_right oz oq
theorem bAp {s:Nat}(hs:s≤1000) (C:∀k' ds,Up k k'→QV k' ds (((2^s:Nat):Int):Rat) 1001→R k' (.agg ds)) :
 Cl k 164 #[.int .i64 (s:Int)] R:=by
 intro k0 u0;have hp2:=aZs s;refine aTk ?_;intro p1 k1 u1 hp k2 u2;refine vU (k:=k2) (s:=s) ((lS hp).up u2) oz oq (fun k3 A2 c2 u3 h3=>⟨A2,_,c2,rfl,?_⟩) k2 (Up.refl k2);intro p3 k4 u4 hp3 k5 u5;refine jM (k:=k5) (K:=1001) ((h3.up u4).up u5) ((lS hp3).up u5) oz oq oq oq (q:=(((2^s:Nat):Int):Rat)) ?_ (fun k9 b A l c A' l' c' u9 hQ f1 f2=>⟨_,_,_,_,_,_,_,rfl,fun k10 u10=>C k10 _ (((((u0.trans u1).trans u2).trans (u3.trans u4)).trans (u5.trans u9)).trans u10) (QV.mk1 (hQ.up u10) f1 f2)⟩) k5 (Up.refl k5);rw [uo,yx];rfl
theorem aDr {m:Int}(hx:QV k cs x K) (hK1:1≤K) (hK:K≤100000) (C:∀k' ds,Up k k'→QV k' ds (oA x (iQ m)) (K+2003)→R k' (.agg ds)) :
 Cl k 119 #[.agg cs,.int .i64 m] R:=by
 intro k0 u0;have hc:=xG m;refine aMu hx.seg ?_;rw [xF];generalize iQ m=s at hc C;refine bAp hc fun k1 d1 u1 h1=>⟨d1,h1.seg,rfl,?_⟩;refine yJ ((hx.up u0).up u1) h1 oq fun k3 d3 u3 h3=>⟨d3,h3.seg,rfl,?_⟩;refine aVp h3 oq oq fun k5 d5 u5 h5=>⟨d5,h5.seg,rfl,?_⟩;refine bBx h5 ((h1.up u3).up u5) oq oq oq fun k7 d7 u7 h7=>⟨d7,h7.seg,rfl,fun k8 u8=>?_⟩;rw [aVq]at h7;refine C k8 _ (((((u0.trans u1).trans u3).trans u5).trans u7).trans u8) (QV.same ((h7.up u8).mono oq) ?_);unfold oA;rw [jZ]
theorem aXf {m:Int}(hx:QV k cs x K) (hK1:1≤K) (hK:K≤100000) (C:∀k' ds,Up k k'→QV k' ds (-oA (-x) (iQ m)) (K+2003)→R k' (.agg ds)) :
 Cl k 120 #[.agg cs,.int .i64 m] R:=by
 intro k0 u0;refine aSw hx.seg (aYk (hx.up u0) oq fun k1 d1 u1 h1=>⟨d1,h1.seg,rfl,?_⟩);refine aDr h1 hK1 hK fun k3 d3 u3 h3=>⟨d3,h3.seg,rfl,?_⟩;exact aYk h3 oq fun k5 d5 u5 h5=>⟨d5,h5.seg,rfl,fun k6 u6=>C k6 _ ((((u0.trans u1).trans u3).trans u5).trans u6) (h5.up u6)⟩
end
