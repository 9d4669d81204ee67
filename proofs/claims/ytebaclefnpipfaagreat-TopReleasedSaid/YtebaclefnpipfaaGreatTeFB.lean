/- Several texts in one. (Printed by prep.py.) -/
import Derived.Test.YtebaclefnpipfaaGreatTeQ5
namespace Go.Proofs.YtebaclefnpipfaaGreat
open Num
def flr (q:Rat):Int:=q.num/(q.den:Int)
def xU (q:Rat) (k:Nat):Rat:=mkRat (q.num*((2^k:Nat):Int) / (q.den:Int)) (2^k)
def mJ (n:Int):Nat:=(min 1000 (max 0 n)).toNat
theorem aHg (n:Int):mJ n≤1000:=by unfold mJ;omega
theorem aHf (n:Int):(if (decide ((1000:Int)<(if (decide ((n:Int)<0))=true then 0 else n)))=true then 1000 else (if (decide ((n:Int)<0))=true then 0 else n))=((mJ n:Nat):Int):=by
 unfold mJ
 by_cases h:n<0
 ·simp only [decide_eq_true h,if_true];rw [oh oz];omega
 ·simp only [decide_eq_false h,ji,if_false]
  by_cases h2:1000<n
  ·rw [og (decide_eq_true h2)];omega
  ·rw [oh (by simp [h2])];omega
theorem qD (z:Int) {d:Nat}(hd:0<d) (h:0≤z∨z.natAbs % d=0):sgn (decide (z<0)) (z.natAbs/d)=z/(d:Int):=by
 have hn:=qn z.natAbs d;have hr:=qt z.natAbs hd;have hm:(d:Int)*((z.natAbs/d:Nat):Int)+((z.natAbs % d:Nat):Int)=(z.natAbs:Int):=by rw [←wy,←xp,hn]
 generalize z.natAbs/d=q at hm;generalize z.natAbs % d=r at hm hr h
 by_cases hz:z<0
 ·have hr0:r=0:=oq
  subst hr0;refine Eq.symm ((Int.ediv_emod_unique (r:=0) oq).2 ⟨?_,oq,oq⟩).1;unfold sgn;rw [og (decide_eq_true hz),Int.mul_neg];omega
 ·refine Eq.symm ((Int.ediv_emod_unique (r:=(r:Int)) oq).2 ⟨?_,oq,oq⟩).1;unfold sgn;rw [oh (by simp [hz])];omega
theorem aAg (z:Int) {d:Nat}(hd:0<d) (hz:z<0) (h:z.natAbs % d≠0):sgn true (z.natAbs/d+1)=z/(d:Int):=by
 have hn:=qn z.natAbs d;have hr:=qt z.natAbs hd;have hm:(d:Int)*((z.natAbs/d:Nat):Int)+((z.natAbs % d:Nat):Int)=(z.natAbs:Int):=by rw [←wy,←xp,hn]
 generalize z.natAbs/d=q at hm;generalize z.natAbs % d=r at hm hr h;refine Eq.symm ((Int.ediv_emod_unique (r:=(d:Int)-r) oq).2 ⟨?_,oq,oq⟩).1;unfold sgn;rw [og rfl,xp,Int.mul_neg,Int.mul_add];omega
theorem kR (z:Int) {d:Nat}:mkRat z d=(z:Rat) / ((d:Int):Rat):=by rw [yy];rfl
def rcmp (y:Rat):Int:=(y-(flr y:Rat)-mkRat 1 2).num.sign
def rup (y:Rat):Bool:=decide (0<rcmp y) || (decide (rcmp y=0) && decide (flr y % 2=1))
def aVb (x s:Rat):Rat:=(if rup (x/s)=true then (flr (x/s):Rat)+1 else (flr (x/s):Rat))*s
def aWz (x s:Rat):Rat:=if s.num.sign≤0 then 0 else aVb x s
def halved (x:Rat):Nat→Rat
 | 0=>x
 | j+1=>halved x j/2
open Go.RowKit
open Value (agg slice int bool tuple)
open Sy (Up Sees CallsG Seg execFn_use)
set_option maxRecDepth 100000
variable {k:World}{R:World→Value→Prop}{b0:Bool}{A1 A2:Option Addr}{c1 c2 l1 l2:Nat}{n1 n3:Int}{cs0:Array Value}
theorem aEz 
 (h:Cl k 82 #[slice A1 l1 c1,slice A2 l2 c2] fun k1 r0=>∃A3 l3 c3,∃A4 l4 c4,some (tuple #[slice A3 l3 c3,slice A4 l4 c4])=some r0∧
 Br b0 (Tt∧(Br (decide (((l4:Nat):Int) > 0)) (Cl k1 60 #[int .u64 1] fun k3 r2=>∃A5 l5 c5,some (slice A5 l5 c5)=some r2∧
 Cl k3 84 #[slice A3 l3 c3,slice A5 l5 c5] fun k5 r4=>∃A6 l6 c6,some (slice A6 l6 c6)=some r4∧
 Cl k5 83 #[bool b0,slice A6 l6 c6] fun k7 r6=>∃b7,∃A8 l8 c8,some (agg #[bool b7,slice A8 l8 c8])=some r6∧
 Rt R k7 (agg #[bool b7,slice A8 l8 c8])) (Cl k1 83 #[bool b0,slice A3 l3 c3] fun k10 r9=>∃b5,∃A6 l6 c6,some (agg #[bool b5,slice A6 l6 c6])=some r9∧
 Rt R k10 (agg #[bool b5,slice A6 l6 c6])))) (Cl k1 83 #[bool b0,slice A3 l3 c3] fun k13 r12=>∃b5,∃A6 l6 c6,some (agg #[bool b5,slice A6 l6 c6])=some r12∧
 Rt R k13 (agg #[bool b5,slice A6 l6 c6]))) :
  CallsG Tryz.prog 120 #[agg #[bool b0,slice A1 l1 c1],slice A2 l2 c2] k R:=
  qY { opq:=[] } h
theorem aKr 
 (h:Cl k 109 #[slice A1 l1 c1,int .i64 (if (decide ((1000:Int)<(if (decide ((n3:Int)<0))=true then 0 else n3)))=true then 1000 else (if (decide ((n3:Int)<0))=true then 0 else n3))] fun k1 r0=>∃A4 l4 c4,some (slice A4 l4 c4)=some r0∧
 Cl k1 83 #[bool b0,slice A4 l4 c4] fun k3 r2=>∃b5,∃A6 l6 c6,some (agg #[bool b5,slice A6 l6 c6])=some r2∧
 Cl k3 48 #[slice A2 l2 c2] fun k5 r4=>∃A7 l7 c7,some (slice A7 l7 c7)=some r4∧
 Cl k5 120 #[agg #[bool b5,slice A6 l6 c6],slice A7 l7 c7] fun k7 r6=>∃b8,∃A9 l9 c9,some (agg #[bool b8,slice A9 l9 c9])=some r6∧
 Cl k7 60 #[int .u64 1] fun k9 r8=>∃A10 l10 c10,some (slice A10 l10 c10)=some r8∧
 Cl k9 109 #[slice A10 l10 c10,int .i64 (if (decide ((1000:Int)<(if (decide ((n3:Int)<0))=true then 0 else n3)))=true then 1000 else (if (decide ((n3:Int)<0))=true then 0 else n3))] fun k11 r10=>∃A11 l11 c11,some (slice A11 l11 c11)=some r10∧
 Cl k11 49 #[agg #[bool b8,slice A9 l9 c9],slice A11 l11 c11] fun k13 r12=>∃b12,∃A13 l13 c13,∃A14 l14 c14,some (agg #[bool b12,slice A13 l13 c13,slice A14 l14 c14])=some r12∧
 Rt R k13 (agg #[bool b12,slice A13 l13 c13,slice A14 l14 c14])) :
  CallsG Tryz.prog 102 #[agg #[bool b0,slice A1 l1 c1,slice A2 l2 c2],int .i64 n3] k R:=
  qY { opq:=[] } h
theorem aPz (hcs0:Seg 3 cs0)
 (h:Cl k 65 #[agg cs0] fun k1 r0=>Gt 3 r0 fun cs2=>
 Cl k1 102 #[agg cs2,int .i64 n1] fun k3 r2=>Gt 3 r2 fun cs3=>
 Cl k3 65 #[agg cs3] fun k5 r4=>Gt 3 r4 fun cs4=>
 Rt R k5 (agg cs4)) :
  CallsG Tryz.prog 103 #[agg cs0,int .i64 n1] k R:=
  qX { opq:=[40] } [.agg [.seg 0 3],.one (.var 1)] [agg cs0,int .i64 n1] [.seg 3,.int .i64] ⟨⟨cs0,rfl,hcs0⟩,⟨_,rfl⟩,trivial⟩ h
end Go.Proofs.YtebaclefnpipfaaGreat

namespace Go.Proofs.YtebaclefnpipfaaGreat
open Go.RowKit Num
open Sy (Up Sees CallsG Seg)
section
variable {k k':World}{A A':Option Addr}{n n' c c' a b:Nat}{cs cs':Array Value}{bz:Bool}{R:World→Value→Prop}{x y q:Rat}{z:Int}{K L:Nat}
theorem aNd {s:Nat}(h:LimR k A n c a) (hn:n≤17179869184) (hs:s≤17179869184)
 (K:∀k' B j d,Up k k'→LimR k' B j d (a*2^s)→j≤n+s→R k' (.slice B j d)):Cl k 109 #[.slice A n c,.int .i64 (s:Int)] R:=
 after (fun _k0 u=>aRw fun _w hs'=>aUn ((h.up u).sees hs') hn hs) fun k' _v u ⟨B,j,d,e,h1,h2⟩=>e▸K k' B j d u h1 h2
theorem rV {neg:Bool}(h:LimR k A n c a) (hn:n≤1152921504606846976) (hK:n≤K)
 (C:∀k' ds,Up k k'→IntV k' ds (sgn neg a) K→R k' (.agg ds)):Cl k 83 #[.bool neg,.slice A n c] R:=
 after (fun _k0 u=>aWx fun _w hs=>gI neg ((h.up u).sees hs) hn) fun k' v u hv=>by
  obtain⟨ds,rfl,hd⟩:=aRi hv;exact C k' ds u (hd.mono hK)
theorem IntV.open (h:IntV k cs z K):∃b A n c,cs=#[.bool b,.slice A n c]∧IntV k #[.bool b,.slice A n c] z K:=by
 obtain⟨b,A,n,c,rfl,h⟩:=h;exact⟨b,A,n,c,rfl,b,A,n,c,rfl,h⟩
theorem RatV.open (h:RatV k cs q K):∃b A n c D d e,cs=#[.bool b,.slice A n c,.slice D d e]∧RatV k #[.bool b,.slice A n c,.slice D d e] q K:=by
 obtain⟨b,A,n,c,D,d,e,rfl,h⟩:=h;exact⟨b,A,n,c,D,d,e,rfl,b,A,n,c,D,d,e,rfl,h⟩
theorem aMr {d:Nat}(hx:IntV k #[.bool bz,.slice A n c] z K) (h:LimR k A' n' c' d) (hd:0<d) (hK:K≤1000000) (hn:n'≤1000000) (C:∀k' ds,Up k k'→IntV k' ds (z/(d:Int)) (K+1)→R k' (.agg ds)) :
 Cl k 120 #[.agg #[.bool bz,.slice A n c],.slice A' n' c'] R:=by
 intro k0 u0;replace C:=fun k' ds u=>C k' ds (u0.trans u);obtain⟨b',A2,n2,c2,e0,hx,hnK⟩:=hx.up u0;injection e0 with e0;injection e0 with e1 e0;injection e1 with e1;injection e0 with e2 e0;injection e2 with e2 e3 e4;subst e1 e2 e3 e4;have hb:=hx.neg;refine aEz (aMk hx.lim (h.up u0) hd oq oq fun k1 A3 l3 c3 A4 l4 c4 u1 hq hr lq lr=>⟨A3,l3,c3,A4,l4,c4,rfl,fun hneg=>⟨rfl,fun hrem=>?_,fun hrem=>?_⟩,fun hneg=>?_⟩)
 ·have hz:z<0:=ow (hb.symm.trans hneg);have hr0:z.natAbs % d≠0:=fun e=>by
   have h1:=hr.zero_iff.2 e;have:=ow hrem;omega
  refine aPy (x:=1) oz fun k3 A5 l5 c5 u3 h5 hl5=>⟨A5,l5,c5,rfl,?_⟩;refine aUy (L:=K+1) (hq.up u3) h5 oq oq oq fun k5 A6 l6 c6 u5 h6 hl6=>⟨A6,l6,c6,rfl,?_⟩;have hl6':l6≤K+1:=by
   rw [h6.len];have h7:z.natAbs/d+1≤z.natAbs:=by
    have:=qn z.natAbs d;have h8:=Nat.le_mul_of_pos_left (z.natAbs/d) hd;omega
   have:=iH h7;rw [←hx.lim.len]at this;omega
  rw [hneg];refine rV h6 oq hl6' fun k7 ds u7 h7=>?_;obtain⟨b7,A8,l8,c8,rfl,h7⟩:=h7.open;refine⟨b7,A8,l8,c8,rfl,fun k8 u8=>C k8 _ ((((u1.trans u3).trans u5).trans u7).trans u8) ?_⟩;rw [aAg z hd hz hr0]at h7;exact h7.up u8
 ·have hz:z<0:=ow (hb.symm.trans hneg);have hr0:z.natAbs % d=0:=by
   have:=ov hrem;exact hr.zero_iff.1 oq
  refine rV hq oq (K:=K+1) oq fun k7 ds u7 h7=>?_;obtain⟨b7,A8,l8,c8,rfl,h7⟩:=h7.open;refine⟨b7,A8,l8,c8,rfl,fun k8 u8=>C k8 _ ((u1.trans u7).trans u8) ?_⟩;rw [hb,qD z hd (.inr hr0)]at h7;exact h7.up u8
 ·have hz:¬ z<0:=ov (hb.symm.trans hneg);refine rV hq oq (K:=K+1) oq fun k7 ds u7 h7=>?_;obtain⟨b7,A8,l8,c8,rfl,h7⟩:=h7.open;refine⟨b7,A8,l8,c8,rfl,fun k8 u8=>C k8 _ ((u1.trans u7).trans u8) ?_⟩;rw [hb,qD z hd (.inl oq)]at h7;exact h7.up u8
theorem yW {m:Int}(hx:RatV k cs q K) (hK1:1≤K) (hK:K≤100000) (C:∀k' ds,Up k k'→RatV k' ds (xU q (mJ m)) (K+1001)→R k' (.agg ds)) :
 Cl k 102 #[.agg cs,.int .i64 m] R:=by
 intro k0 u0;replace C:=fun k' ds u=>C k' ds (u0.trans u);obtain⟨b0,A1,l1,c1,A2,l2,c2,rfl,hr,e1,e2⟩:=hx.up u0;have hc:=aHg m;refine aKr ?_;rw [aHf];generalize mJ m=s at hc C;have h1:=hr.num.lim;have hneg:=hr.num.neg;refine aNd h1 oq oq fun k1 A4 l4 c4 u1 h4 hl4=>⟨A4,l4,c4,rfl,?_⟩;refine rV (K:=K+1000) h4 oq oq fun k3 d3 u3 h3=>?_;obtain⟨b5,A6,l6,c6,rfl,h3⟩:=h3.open;refine⟨b5,A6,l6,c6,rfl,?_⟩;refine aSy (L:=K) ((hr.den.up u1).up u3) q.den_pos e2 hK1 oq fun k5 A7 l7 c7 u5 h7 hl7=>⟨A7,l7,c7,rfl,?_⟩;refine aMr (h3.up u5) h7 q.den_pos oq oq fun k7 d7 u7 h8=>?_;obtain⟨b8,A9,l9,c9,rfl,h8⟩:=h8.open;refine⟨b8,A9,l9,c9,rfl,?_⟩;refine aPy (x:=1) oz fun k9 A10 l10 c10 u9 h10 hl10=>⟨A10,l10,c10,rfl,?_⟩;refine aNd (h10) oq oq fun k11 A11 l11 c11 u11 h11 hl11=>⟨A11,l11,c11,rfl,?_⟩;rw [Nat.one_mul]at h11;refine aUw ((h8.up u9).up u11) h11 (qw oz) oq oq fun k13 d13 u13 h13=>?_;obtain⟨b12,A13,l13,c13,A14,l14,c14,rfl,h13⟩:=h13.open;refine⟨b12,A13,l13,c13,A14,l14,c14,rfl,fun k14 u14=>?_⟩;have ez:sgn b0 (q.num.natAbs*2^s)=q.num*((2^s:Nat):Int):=by rw [hneg];exact aGc q.num (2^s)
 rw [ez]at h13;exact C k14 _ (((((((u1.trans u3).trans u5).trans u7).trans u9).trans u11).trans u13).trans u14) (h13.up u14)
theorem aQa {m:Int}(hx:RatV k cs q K) (hK1:1≤K) (hK:K≤100000) (C:∀k' ds,Up k k'→RatV k' ds (-xU (-q) (mJ m)) (K+1001)→R k' (.agg ds)) :
 Cl k 103 #[.agg cs,.int .i64 m] R:=by
 intro k0 u0;refine aPz hx.seg (aKu (hx.up u0) oq fun k1 d1 u1 h1=>⟨d1,h1.seg,rfl,?_⟩);refine yW h1 hK1 hK fun k3 d3 u3 h3=>⟨d3,h3.seg,rfl,?_⟩;exact aKu h3 oq fun k5 d5 u5 h5=>⟨d5,h5.seg,rfl,fun k6 u6=>C k6 _ ((((u0.trans u1).trans u3).trans u5).trans u6) (h5.up u6)⟩
end
open Value (agg slice int bool tuple)
open Sy (Up Sees CallsG Seg execFn_use)
set_option maxRecDepth 100000
variable {k:World}{R:World→Value→Prop}
end Go.Proofs.YtebaclefnpipfaaGreat

namespace Go.Proofs.YtebaclefnpipfaaGreat.W32
open Go.RowKit Num
open Sy (Up Sees CallsG Seg)
section
variable {k k':World}{cs cs':Array Value}{R:World→Value→Prop}{x y q q':Rat}{K L:Nat}{b:Bool}{A A':Option Addr}{l c l' c':Nat}
end
