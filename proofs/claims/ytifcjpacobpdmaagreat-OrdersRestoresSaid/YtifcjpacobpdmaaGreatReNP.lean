/- Several texts in one. (Printed by prep.py.) -/
import Derived.Test.YtifcjpacobpdmaaGreatReNJ
import Derived.Test.YtifcjpacobpdmaaGreatReOZ
namespace Go.Proofs.YtifcjpacobpdmaaGreat
open Num Ieee FT Plain
def Near4 (x:Q4) (bits:Nat) (least beyond:Int) (W:Nat):Prop:=
 ∃lo hi:Rat,nn (x.sub (Q4.real lo))∧nn ((Q4.real hi).sub x)∧cV lo bits least beyond=W∧cV hi bits least beyond=W
section
variable {x:Q4}{bits:Nat}{least beyond:Int}{W W':Nat}{lo hi:Rat}
theorem aPd (hl:nn (x.sub (Q4.real lo))) (hh:nn ((Q4.real hi).sub x)):lo≤hi:=by
 have:=sL (q:=hi-lo) (cN (gI hl hh) (by refine Q4.ext' ?_ ?_ ?_ ?_ <;> simp only [Q4.sub,Q4.add,Q4.neg,Q4.real] <;> grind))
 grind
theorem Near4.unique (F:Fmt bits least beyond) (h:Near4 x bits least beyond W) (h':Near4 x bits least beyond W'):W=W':=by
 obtain⟨l,u,a1,a2,a3,a4⟩:=h;obtain⟨l',u',b1,b2,b3,b4⟩:=h';have c1:=aPd a1 b2;have c2:=aPd b1 a2
 by_cases g:l≤l'
 ·have e1:=wQ F g c2 (by rw [a3,a4]);rw [←b3,e1,a3]
 ·have g:l'≤l:=wa (Rat.not_le.1 g);have e1:=wQ F g c1 (by rw [b3,b4]);rw [←a3,e1,b3]
theorem sJ (q:Rat):nn ((Q4.real q).sub (Q4.real q)):=cN (fZ (q:=0) oz) (by refine Q4.ext' ?_ ?_ ?_ ?_ <;> simp only [Q4.sub,Q4.add,Q4.neg,Q4.real] <;> grind)
theorem Near4.real (q:Rat):Near4 (Q4.real q) bits least beyond (cV q bits least beyond):=⟨q,q,sJ q,sJ q,rfl,rfl⟩
end
structure IntForm (x:Q4) (D N:Nat):Prop where
 pos:0<D
 le:D≤N
 int:isI4 ((Q4.real (D:Rat)).mul x)
 a:-(N:Rat)≤(D:Rat)*x.a∧(D:Rat)*x.a≤N
 b:-(N:Rat)≤(D:Rat)*x.b∧(D:Rat)*x.b≤N
 c:-(N:Rat)≤(D:Rat)*x.c∧(D:Rat)*x.c≤N
 d:-(N:Rat)≤(D:Rat)*x.d∧(D:Rat)*x.d≤N
theorem pX (s:Rat) (x:Q4):((Q4.real s).mul x).a=s*x.a∧((Q4.real s).mul x).b=s*x.b∧((Q4.real s).mul x).c=s*x.c∧((Q4.real s).mul x).d=s*x.d:=by
 refine⟨?_,?_,?_,?_⟩ <;> simp only [Q4.mul,Q4.real] <;> grind
theorem aUn {Y:Q4}{M c:Rat}(hI:isI4 Y) (hne:Y≠Q4.zero) (hab:ab Y c) (ha:-M≤Y.a∧Y.a≤M) (hb:-M≤Y.b∧Y.b≤M) (hc:-M≤Y.c∧Y.c≤M) (hd:-M≤Y.d∧Y.d≤M) :
 1≤c*(8*M*(8*M)*(8*M)):=by
 have hN:=mV hab (aXu ha.1 ha.2 hb.1 hb.2 hc.1 hc.2 hd.1 hd.2);rw [aKg]at hN;obtain⟨n1,n2⟩:=aHw hN;have hz:=Q4.norm_ne hne;have hi:=aZd (hI.mul hI.cnj).a hz;rcases hi with h|h <;> grind
theorem aPb {x:Q4}{D N G k B:Nat}{lo hi:Rat}{z:Int}(F:IntForm x D N) (hirr:¬ (x.b=0∧x.c=0∧x.d=0)) (hl:nn (x.sub (Q4.real lo))) (hh:nn ((Q4.real hi).sub x))
 (hg:hi-lo≤3*(N:Rat)*(1/((2^k:Nat):Rat))) (h1:lo≤(z:Rat) / ((2^G:Nat):Rat)) (h2:(z:Rat) / ((2^G:Nat):Rat)≤hi) (hN:N≤2^B):k≤5*B+4*G+21:=by
 refine jg fun hk=>?_;have hP:(0:Rat)<((2^G:Nat):Rat):=vu.2 (ot G);have hK:(0:Rat)<((2^k:Nat):Rat):=vu.2 (ot k);have hD:(0:Rat)<(D:Rat):=vu.2 F.pos;have hDN:(D:Rat)≤(N:Rat):=xh.2 F.le;have hN0:(0:Rat)<(N:Rat):=by grind
 -- the gap is at most 1
 have hkN:3*N≤2^k:=by
  have a:3*N≤2^(B+2):=by rw [oi];omega
  exact qb a (oc oz oq)
 have hkR:3*(N:Rat)≤((2^k:Nat):Rat):=by
  have:=xh.2 hkN;rw [xm]at this;exact this
 have hbig:3*N*N*2^G*(72*2^G*N*(72*2^G*N)*(72*2^G*N))<2^k:=by
  have e:3*N*N*2^G*(72*2^G*N*(72*2^G*N)*(72*2^G*N))=1119744*(N*N*N*N*N)*(2^G*2^G*2^G*2^G):=by
   have:3*N*N*2^G*(72*2^G*N*(72*2^G*N)*(72*2^G*N))=3*72*72*72*(N*N*N*N*N)*(2^G*2^G*2^G*2^G):=by ac_rfl
   rw [this]
  rw [e];have p1:N*N*N*N*N≤2^(5*B):=by
   have:=vo (vo (vo (vo hN hN) hN) hN) hN
   rwa [←oi,←oi,←oi,←oi,show B+B+B+B+B=5*B by omega]at this
  have p2:2^G*2^G*2^G*2^G=2^(4*G):=by rw [←oi,←oi,←oi];congr 1;omega
  rw [p2];have p3:1119744*(N*N*N*N*N)*2^(4*G)<2^21*2^(5*B)*2^(4*G):=by
   refine qa ?_ (ot _);exact qe (qu _ p1) (qa oz (ot _))
  refine oo p3 ?_;rw [←oi,←oi];exact oc oz oq
 have hbigR:3*(N:Rat)*N*((2^G:Nat):Rat)*(72*((2^G:Nat):Rat)*N*(72*((2^G:Nat):Rat)*N)*(72*((2^G:Nat):Rat)*N))<((2^k:Nat):Rat):=by
  have:=Rat.natCast_lt_natCast.2 hbig;simp only [xm]at this;exact this
 have ht:(z:Rat) / ((2^G:Nat):Rat)*((2^G:Nat):Rat)=z:=vn (by grind);have hgk:3*(N:Rat)*(1/((2^k:Nat):Rat))*((2^k:Nat):Rat)=3*(N:Rat):=by rw [yv,vn (by grind),Rat.mul_one]
 have hzI:isI (z:Rat):=⟨z,rfl⟩;have hPI:isI ((2^G:Nat):Rat):=aHk _;have hDI:isI (D:Rat):=aHk _;have fa:=F.int;have fc:=F.b;have fd:=F.c;have fe:=F.d;clear hbig hkN hN F;generalize (z:Rat) / ((2^G:Nat):Rat)=t at *
 generalize ((2^G:Nat):Rat)=P at *
 generalize ((2^k:Nat):Rat)=E at *
 generalize (N:Rat)=n at *
 generalize (z:Rat)=y at *
 generalize 3*n*(1/E)=g at *
 generalize (D:Rat)=q at *
 obtain⟨m1,m2,m3,m4⟩:=pX q x;have i1:=fa.a;have i2:=fa.b;have i3:=fa.c;have i4:=fa.d;rw [m1]at i1;rw [m2]at i2;rw [m3]at i3;rw [m4]at i4;clear m1 m2 m3 m4 fa;have hgap:ab (x.sub (Q4.real t)) g:=by
  constructor
  ·refine cN (gI hh (fZ (q:=g-(hi-t)) (by grind))) ?_;refine Q4.ext' ?_ ?_ ?_ ?_ <;> simp only [Q4.sub,Q4.add,Q4.neg,Q4.real] <;> grind
  ·refine cN (gI hl (fZ (q:=g-(t-lo)) (by grind))) ?_;refine Q4.ext' ?_ ?_ ?_ ?_ <;> simp only [Q4.sub,Q4.add,Q4.neg,Q4.real] <;> grind
 have hg0:=aIp hgap;have hqP:0<q*P:=Rat.mul_pos hD hP;have habY:ab ((Q4.real (q*P)).mul (x.sub (Q4.real t))) (q*P*g):=mV (nT (by grind) (Rat.le_refl)) hgap;obtain⟨y1,y2,y3,y4⟩:=pX (q*P) (x.sub (Q4.real t));generalize (Q4.real (q*P)).mul (x.sub (Q4.real t))=Y at *
 have z1:Y.a=P*(q*x.a)-q*y:=by rw [y1];simp only [Q4.sub,Q4.add,Q4.neg,Q4.real];grind
 have z2:Y.b=P*(q*x.b):=by rw [y2];simp only [Q4.sub,Q4.add,Q4.neg,Q4.real];grind
 have z3:Y.c=P*(q*x.c):=by rw [y3];simp only [Q4.sub,Q4.add,Q4.neg,Q4.real];grind
 have z4:Y.d=P*(q*x.d):=by rw [y4];simp only [Q4.sub,Q4.add,Q4.neg,Q4.real];grind
 have hYI:isI4 Y:=by
  constructor
  ·rw [z1,Rat.sub_eq_add_neg];exact (hPI.mul i1).add (hDI.mul hzI).neg
  ·rw [z2];exact hPI.mul i2
  ·rw [z3];exact hPI.mul i3
  ·rw [z4];exact hPI.mul i4
 have hYne:Y≠Q4.zero:=fun e=>hirr (by
  have w2:=congrArg Q4.b e;have w3:=congrArg Q4.c e;have w4:=congrArg Q4.d e;rw [y2]at w2;rw [y3]at w3;rw [y4]at w4;simp only [Q4.sub,Q4.add,Q4.neg,Q4.real,Q4.zero]at w2 w3 w4;refine⟨?_,?_,?_⟩
  ·rcases Rat.mul_eq_zero.1 w2 with h|h <;> grind
  ·rcases Rat.mul_eq_zero.1 w3 with h|h <;> grind
  ·rcases Rat.mul_eq_zero.1 w4 with h|h <;> grind)
 have mulP:∀u:Rat,-n≤u∧u≤n→-(P*n)≤P*u∧P*u≤P*n:=fun u hu=>by
  have a1:=Rat.mul_le_mul_of_nonneg_left hu.1 (wa hP);have a2:=Rat.mul_le_mul_of_nonneg_left hu.2 (wa hP);constructor <;> grind
 have hPn:0<P*n:=Rat.mul_pos hP hN0;have b2:-(P*n)≤Y.b∧Y.b≤P*n:=by rw [z2];exact mulP _ fc
 have b3:-(P*n)≤Y.c∧Y.c≤P*n:=by rw [z3];exact mulP _ fd
 have b4:-(P*n)≤Y.d∧Y.d≤P*n:=by rw [z4];exact mulP _ fe
 have hg1:g≤1:=by
  refine Rat.not_lt.1 fun h=>?_;have:=(Rat.mul_lt_mul_right hK).2 h;rw [hgk,Rat.one_mul]at this
  grind
 have hc1:q*P*g≤P*n:=by
  have a1:=Rat.mul_le_mul_of_nonneg_left hg1 (wa hqP);have a2:=vp hDN (wa hP)
  grind
 have b1:-(9*(P*n))≤Y.a∧Y.a≤9*(P*n):=by
  have h0:ab (Q4.mk 0 (-Y.b) (-Y.c) (-Y.d)) (8*(P*n)):=nS (by grind) (by grind) (by grind) (by grind) (by grind) (by grind) (by grind) (by grind);have h1:=xO habY h0;rw [show Y.add (Q4.mk 0 (-Y.b) (-Y.c) (-Y.d))=Q4.real Y.a by refine Q4.ext' ?_ ?_ ?_ ?_ <;> simp only [Q4.add,Q4.real] <;> grind]at h1;obtain⟨r1,r2⟩:=aHw h1;constructor <;> grind
 have key:=aUn hYI hYne habY b1 (by constructor <;> grind) (by constructor <;> grind) (by constructor <;> grind);have e8:8*(9*(P*n))=72*P*n:=by grind
 rw [e8]at key;have hpos:0≤72*P*n*(72*P*n)*(72*P*n):=by
  have:0<72*P*n:=by grind
  exact wa (Rat.mul_pos (Rat.mul_pos this this) this)
 generalize 72*P*n*(72*P*n)*(72*P*n)=S at *
 have c1:q*P*g*S≤n*P*g*S:=by
  refine vp (vp (vp hDN (wa hP)) hg0) hpos
 have c2:1*E≤n*P*g*S*E:=vp (Rat.le_trans key c1) (wa hK);have c3:n*P*g*S*E=3*n*n*P*S:=by
  rw [show n*P*g*S*E=n*P*S*(g*E) by grind,hgk]
  grind
 rw [c3]at c2
 grind
open IntKind (wrap)
open Go.RowKit
open Value (agg slice int bool tuple)
open Sy (Up Sees CallsG Seg execFn_use)
set_option maxRecDepth 100000
variable {k:World}{R:World→Value→Prop}{A0 A1 A3 A5 A7 A8:Option Addr}{c0 c1 c3 c5 c7 c8 l0 l1 l3 l5 l7 l8:Nat}{b0 b2 b4 b6:Bool}{n9:Int}{cs0 cs1:Array Value}
theorem aSw 
 (h:Tt∧(Br (((l0:Nat):Int) == 0) (Rt R k (slice none 0 0)) (∀p1 k1,Up k k1→Sy.Blk k1 p1 59 #[int .u64 1]→
 ∃A2 l2 c2,some (slice (some ⟨p1,0,none⟩) 1 1)=some (slice A2 l2 c2)∧
 Cl k1 229 #[slice A0 l0 c0] fun k3 r2=>Gi r2 fun n3=>
 Cl k3 230 #[slice A2 l2 c2,int .i64 (wrap .i64 ((wrap .i64 (Int.tdiv n3 2))+1))] fun k5 r4=>∃A4 l4 c4,some (slice A4 l4 c4)=some r4∧
 ∃I6:Nat→World→List Value→Prop,(∃m6,∀k6,Up k5 k6→I6 m6 k6 [slice A4 l4 c4])∧
 ∀m6 k6 vs6,Up k5 k6→I6 m6 k6 vs6→∃A5 l5 c5,some [slice A5 l5 c5]=some vs6∧
 Cl k6 195 #[slice A0 l0 c0,slice A5 l5 c5] fun k8 r7=>∃A6 l6 c6,∃A7 l7 c7,some (tuple #[slice A6 l6 c6,slice A7 l7 c7])=some r7∧
 Cl k8 190 #[slice A5 l5 c5,slice A6 l6 c6] fun k10 r9=>∃A8 l8 c8,some (slice A8 l8 c8)=some r9∧
 Cl k10 273 #[slice A8 l8 c8,int .i64 1] fun k12 r11=>∃A9 l9 c9,some (slice A9 l9 c9)=some r11∧
 Cl k12 191 #[slice A9 l9 c9,slice A5 l5 c5] fun k14 r13=>Gi r13 fun n10=>
 Br (decide ((n10:Int) ≥ 0)) (Rt R k14 (slice A5 l5 c5)) (∀k16,Up k14 k16→∃m,m<m6∧I6 m k16 [slice A9 l9 c9])))) :
  CallsG Tryz.prog 311 #[slice A0 l0 c0] k R:=
  qY { opq:=[],loops:=[(0,[.tmp 3 false [.slice]])] } h
theorem aWp 
 (h:Cl k 230 #[slice A1 l1 c1,int .i64 n9] fun k1 r0=>∃A10 l10 c10,some (slice A10 l10 c10)=some r0∧
 Cl k1 171 #[bool b0,slice A10 l10 c10] fun k3 r2=>∃b11,∃A12 l12 c12,some (agg #[bool b11,slice A12 l12 c12])=some r2∧
 Cl k3 230 #[slice A1 l1 c1,int .i64 n9] fun k5 r4=>∃A13 l13 c13,some (slice A13 l13 c13)=some r4∧
 Cl k5 171 #[bool b0,slice A13 l13 c13] fun k7 r6=>∃b14,∃A15 l15 c15,some (agg #[bool b14,slice A15 l15 c15])=some r6∧
 ∃J8:World→List Value→Prop,(∀k8,Up k7 k8→J8 k8 [agg #[bool b11,slice A12 l12 c12],agg #[bool b14,slice A15 l15 c15]])∧
 ∀k9 vs9,Up k7 k9→J8 k9 vs9→∃b16,∃A17 l17 c17,∃b18,∃A19 l19 c19,some [agg #[bool b16,slice A17 l17 c17],agg #[bool b18,slice A19 l19 c19]]=some vs9∧
 ∃J10:World→List Value→Prop,(Tt∧(Br (((l3:Nat):Int) == 0) (∀k10,Up k9 k10→J10 k10 [agg #[bool b16,slice A17 l17 c17],agg #[bool b18,slice A19 l19 c19]]) (Cl k9 108 #[slice A3 l3 c3,slice A3 l3 c3] fun k12 r11=>∃A20 l20 c20,some (slice A20 l20 c20)=some r11∧
 Cl k12 189 #[int .u64 2] fun k14 r13=>∃A21 l21 c21,some (slice A21 l21 c21)=some r13∧
 Cl k14 108 #[slice A20 l20 c20,slice A21 l21 c21] fun k16 r15=>∃A22 l22 c22,some (slice A22 l22 c22)=some r15∧
 Cl k16 230 #[slice A22 l22 c22,int .i64 (wrap .i64 (2*n9))] fun k18 r17=>∃A23 l23 c23,some (slice A23 l23 c23)=some r17∧
 Cl k18 311 #[slice A23 l23 c23] fun k20 r19=>∃A24 l24 c24,some (slice A24 l24 c24)=some r19∧
 Cl k20 171 #[bool b2,slice A24 l24 c24] fun k22 r21=>∃b25,∃A26 l26 c26,some (agg #[bool b25,slice A26 l26 c26])=some r21∧
 Cl k22 189 #[int .u64 1] fun k24 r23=>∃A27 l27 c27,some (slice A27 l27 c27)=some r23∧
 Cl k24 190 #[slice A24 l24 c24,slice A27 l27 c27] fun k26 r25=>∃A28 l28 c28,some (slice A28 l28 c28)=some r25∧
 Cl k26 171 #[bool b2,slice A28 l28 c28] fun k28 r27=>∃b29,∃A30 l30 c30,some (agg #[bool b29,slice A30 l30 c30])=some r27∧
 Br b2 (Cl k28 106 #[agg #[bool b16,slice A17 l17 c17],agg #[bool b29,slice A30 l30 c30]] fun k30 r29=>∃b31,∃A32 l32 c32,some (agg #[bool b31,slice A32 l32 c32])=some r29∧
 Cl k30 106 #[agg #[bool b18,slice A19 l19 c19],agg #[bool b25,slice A26 l26 c26]] fun k32 r31=>∃b33,∃A34 l34 c34,some (agg #[bool b33,slice A34 l34 c34])=some r31∧
 ∀k33,Up k32 k33→J10 k33 [agg #[bool b31,slice A32 l32 c32],agg #[bool b33,slice A34 l34 c34]]) (Cl k28 106 #[agg #[bool b16,slice A17 l17 c17],agg #[bool b25,slice A26 l26 c26]] fun k35 r34=>∃b31,∃A32 l32 c32,some (agg #[bool b31,slice A32 l32 c32])=some r34∧
 Cl k35 106 #[agg #[bool b18,slice A19 l19 c19],agg #[bool b29,slice A30 l30 c30]] fun k37 r36=>∃b33,∃A34 l34 c34,some (agg #[bool b33,slice A34 l34 c34])=some r36∧
 ∀k38,Up k37 k38→J10 k38 [agg #[bool b31,slice A32 l32 c32],agg #[bool b33,slice A34 l34 c34]]))))∧
 ∀k39 vs39,Up k9 k39→J10 k39 vs39→∃b20,∃A21 l21 c21,∃b22,∃A23 l23 c23,some [agg #[bool b20,slice A21 l21 c21],agg #[bool b22,slice A23 l23 c23]]=some vs39∧
 ∃J40:World→List Value→Prop,(Tt∧(Br (((l5:Nat):Int) == 0) (∀k40,Up k39 k40→J40 k40 [agg #[bool b20,slice A21 l21 c21],agg #[bool b22,slice A23 l23 c23]]) (Cl k39 108 #[slice A5 l5 c5,slice A5 l5 c5] fun k42 r41=>∃A24 l24 c24,some (slice A24 l24 c24)=some r41∧
 Cl k42 189 #[int .u64 3] fun k44 r43=>∃A25 l25 c25,some (slice A25 l25 c25)=some r43∧
 Cl k44 108 #[slice A24 l24 c24,slice A25 l25 c25] fun k46 r45=>∃A26 l26 c26,some (slice A26 l26 c26)=some r45∧
 Cl k46 230 #[slice A26 l26 c26,int .i64 (wrap .i64 (2*n9))] fun k48 r47=>∃A27 l27 c27,some (slice A27 l27 c27)=some r47∧
 Cl k48 311 #[slice A27 l27 c27] fun k50 r49=>∃A28 l28 c28,some (slice A28 l28 c28)=some r49∧
 Cl k50 171 #[bool b4,slice A28 l28 c28] fun k52 r51=>∃b29,∃A30 l30 c30,some (agg #[bool b29,slice A30 l30 c30])=some r51∧
 Cl k52 189 #[int .u64 1] fun k54 r53=>∃A31 l31 c31,some (slice A31 l31 c31)=some r53∧
 Cl k54 190 #[slice A28 l28 c28,slice A31 l31 c31] fun k56 r55=>∃A32 l32 c32,some (slice A32 l32 c32)=some r55∧
 Cl k56 171 #[bool b4,slice A32 l32 c32] fun k58 r57=>∃b33,∃A34 l34 c34,some (agg #[bool b33,slice A34 l34 c34])=some r57∧
 Br b4 (Cl k58 106 #[agg #[bool b20,slice A21 l21 c21],agg #[bool b33,slice A34 l34 c34]] fun k60 r59=>∃b35,∃A36 l36 c36,some (agg #[bool b35,slice A36 l36 c36])=some r59∧
 Cl k60 106 #[agg #[bool b22,slice A23 l23 c23],agg #[bool b29,slice A30 l30 c30]] fun k62 r61=>∃b37,∃A38 l38 c38,some (agg #[bool b37,slice A38 l38 c38])=some r61∧
 ∀k63,Up k62 k63→J40 k63 [agg #[bool b35,slice A36 l36 c36],agg #[bool b37,slice A38 l38 c38]]) (Cl k58 106 #[agg #[bool b20,slice A21 l21 c21],agg #[bool b29,slice A30 l30 c30]] fun k65 r64=>∃b35,∃A36 l36 c36,some (agg #[bool b35,slice A36 l36 c36])=some r64∧
 Cl k65 106 #[agg #[bool b22,slice A23 l23 c23],agg #[bool b33,slice A34 l34 c34]] fun k67 r66=>∃b37,∃A38 l38 c38,some (agg #[bool b37,slice A38 l38 c38])=some r66∧
 ∀k68,Up k67 k68→J40 k68 [agg #[bool b35,slice A36 l36 c36],agg #[bool b37,slice A38 l38 c38]]))))∧
 ∀k69 vs69,Up k39 k69→J40 k69 vs69→∃b24,∃A25 l25 c25,∃b26,∃A27 l27 c27,some [agg #[bool b24,slice A25 l25 c25],agg #[bool b26,slice A27 l27 c27]]=some vs69∧
 ∃J70:World→List Value→Prop,(Tt∧(Br (((l7:Nat):Int) == 0) (∀k70,Up k69 k70→J70 k70 [agg #[bool b24,slice A25 l25 c25],agg #[bool b26,slice A27 l27 c27]]) (Cl k69 108 #[slice A7 l7 c7,slice A7 l7 c7] fun k72 r71=>∃A28 l28 c28,some (slice A28 l28 c28)=some r71∧
 Cl k72 189 #[int .u64 6] fun k74 r73=>∃A29 l29 c29,some (slice A29 l29 c29)=some r73∧
 Cl k74 108 #[slice A28 l28 c28,slice A29 l29 c29] fun k76 r75=>∃A30 l30 c30,some (slice A30 l30 c30)=some r75∧
 Cl k76 230 #[slice A30 l30 c30,int .i64 (wrap .i64 (2*n9))] fun k78 r77=>∃A31 l31 c31,some (slice A31 l31 c31)=some r77∧
 Cl k78 311 #[slice A31 l31 c31] fun k80 r79=>∃A32 l32 c32,some (slice A32 l32 c32)=some r79∧
 Cl k80 171 #[bool b6,slice A32 l32 c32] fun k82 r81=>∃b33,∃A34 l34 c34,some (agg #[bool b33,slice A34 l34 c34])=some r81∧
 Cl k82 189 #[int .u64 1] fun k84 r83=>∃A35 l35 c35,some (slice A35 l35 c35)=some r83∧
 Cl k84 190 #[slice A32 l32 c32,slice A35 l35 c35] fun k86 r85=>∃A36 l36 c36,some (slice A36 l36 c36)=some r85∧
 Cl k86 171 #[bool b6,slice A36 l36 c36] fun k88 r87=>∃b37,∃A38 l38 c38,some (agg #[bool b37,slice A38 l38 c38])=some r87∧
 Br b6 (Cl k88 106 #[agg #[bool b24,slice A25 l25 c25],agg #[bool b37,slice A38 l38 c38]] fun k90 r89=>∃b39,∃A40 l40 c40,some (agg #[bool b39,slice A40 l40 c40])=some r89∧
 Cl k90 106 #[agg #[bool b26,slice A27 l27 c27],agg #[bool b33,slice A34 l34 c34]] fun k92 r91=>∃b41,∃A42 l42 c42,some (agg #[bool b41,slice A42 l42 c42])=some r91∧
 ∀k93,Up k92 k93→J70 k93 [agg #[bool b39,slice A40 l40 c40],agg #[bool b41,slice A42 l42 c42]]) (Cl k88 106 #[agg #[bool b24,slice A25 l25 c25],agg #[bool b33,slice A34 l34 c34]] fun k95 r94=>∃b39,∃A40 l40 c40,some (agg #[bool b39,slice A40 l40 c40])=some r94∧
 Cl k95 106 #[agg #[bool b26,slice A27 l27 c27],agg #[bool b37,slice A38 l38 c38]] fun k97 r96=>∃b41,∃A42 l42 c42,some (agg #[bool b41,slice A42 l42 c42])=some r96∧
 ∀k98,Up k97 k98→J70 k98 [agg #[bool b39,slice A40 l40 c40],agg #[bool b41,slice A42 l42 c42]]))))∧
 ∀k99 vs99,Up k69 k99→J70 k99 vs99→∃b28,∃A29 l29 c29,∃b30,∃A31 l31 c31,some [agg #[bool b28,slice A29 l29 c29],agg #[bool b30,slice A31 l31 c31]]=some vs99∧
 Cl k99 104 #[slice A8 l8 c8] fun k101 r100=>∃A32 l32 c32,some (slice A32 l32 c32)=some r100∧
 Cl k101 230 #[slice A32 l32 c32,int .i64 n9] fun k103 r102=>∃A33 l33 c33,some (slice A33 l33 c33)=some r102∧
 Cl k103 146 #[agg #[bool b28,slice A29 l29 c29],slice A33 l33 c33] fun k105 r104=>Gt 3 r104 fun cs34=>
 Cl k105 146 #[agg #[bool b30,slice A31 l31 c31],slice A33 l33 c33] fun k107 r106=>Gt 3 r106 fun cs35=>
 Rt R k107 (tuple #[agg cs34,agg cs35])) :
  CallsG Tryz.prog 251 #[agg #[bool b0,slice A1 l1 c1,bool b2,slice A3 l3 c3,bool b4,slice A5 l5 c5,bool b6,slice A7 l7 c7,slice A8 l8 c8],int .i64 n9] k R:=
  qY { opq:=[88],meets:=[(1,[.blk 3 [.bool,.slice],.blk 4 [.bool,.slice]])] } h
theorem aMr (hcs0:Seg 9 cs0) (hcs1:Seg 3 cs1)
 (h:Cl k 250 #[agg cs0] fun k1 r0=>∃cs2,Seg 3 cs2∧∃b3,some (tuple #[agg cs2,bool b3])=some r0∧
 Br b3 (Cl k1 145 #[agg cs1,agg cs2] fun k3 r2=>∃n4:Nat,some (Value.float .f64 n4)=some r2∧
 Rt R k3 (Value.float .f64 n4)) (∃I5:Nat→World→List Value→Prop,(∃m5,∀k5,Up k1 k5→I5 m5 k5 [int .i64 64])∧
 ∀m5 k5 vs5,Up k1 k5→I5 m5 k5 vs5→∃n4,some [int .i64 n4]=some vs5∧
 Cl k5 251 #[agg cs0,int .i64 n4] fun k7 r6=>∃cs5,Seg 3 cs5∧∃cs6,Seg 3 cs6∧some (tuple #[agg cs5,agg cs6])=some r6∧
 Cl k7 145 #[agg cs1,agg cs5] fun k9 r8=>∃n7:Nat,some (Value.float .f64 n7)=some r8∧
 Cl k9 145 #[agg cs1,agg cs6] fun k11 r10=>∃n8:Nat,some (Value.float .f64 n8)=some r10∧
 Br (Ieee.Format.order (FloatKind.format .f64) n7 n8 == some Ordering.eq) (Rt R k11 (Value.float .f64 n7)) (∀k13,Up k11 k13→∃m,m<m5∧I5 m k13 [int .i64 (wrap .i64 (n4*2))]))) :
  CallsG Tryz.prog 161 #[agg cs0,agg cs1] k R:=
  qX { opq:=[88,35,308],loops:=[(0,[.tmp 7 false [.int .i64]])] } [.agg [.seg 0 9],.agg [.seg 1 3]] [agg cs0,agg cs1] [.seg 9,.seg 3] ⟨⟨cs0,rfl,hcs0⟩,⟨cs1,rfl,hcs1⟩,trivial⟩ h
end Go.Proofs.YtifcjpacobpdmaaGreat

namespace Go.Proofs.YtifcjpacobpdmaaGreat
open IntKind (wrap)
open Go.RowKit
open Value (agg slice int bool tuple)
open Sy (Up Sees CallsG Seg execFn_use)
set_option maxRecDepth 100000
variable {k:World}{R:World→Value→Prop}{b0 b2 b4 b6:Bool}{A1 A3 A5 A7 A8:Option Addr}{c1 c3 c5 c7 c8 l1 l3 l5 l7 l8:Nat}
theorem zM 
 (h:Tt∧(Tt∧(Tt∧(Br (decide (((wrap .i64 ((wrap .i64 ((l3:Nat)+(l5:Nat)))+(l7:Nat))):Int) > 0)) (Rt R k (tuple #[agg #[bool false,slice none 0 0,slice none 0 0],bool false])) (Rt R k (tuple #[agg #[bool b0,slice A1 l1 c1,slice A8 l8 c8],bool true])))))) :
 CallsG Tryz.prog 250 #[agg #[bool b0,slice A1 l1 c1,bool b2,slice A3 l3 c3,bool b4,slice A5 l5 c5,bool b6,slice A7 l7 c7,slice A8 l8 c8]] k R:=
 qY { opq:=[] } h
end Go.Proofs.YtifcjpacobpdmaaGreat

namespace Go.Proofs.YtifcjpacobpdmaaGreat
open Go.RowKit
open Value (agg slice int bool tuple)
open Sy (Up Sees CallsG Seg execFn_use)
set_option maxRecDepth 100000
variable {k:World}{R:World→Value→Prop}
end Go.Proofs.YtifcjpacobpdmaaGreat

namespace Go.Proofs.YtifcjpacobpdmaaGreat
open IntKind (wrap)
open Go.RowKit Num Plain W32
open Sy (Up Sees CallsG Seg)
section
variable {k k':World}{R:World→Value→Prop}{x q:Rat}{K L:Nat}{cs cs':Array Value}{v:Q4}{w:W4}
theorem RatV.nilz (K:Nat):RatV k #[.bool false,.slice none 0 0,.slice none 0 0] 0 K:=⟨_,_,_,_,_,_,_,rfl,⟨⟨rfl,LimR.nil⟩,LimR.nil⟩,jk _,jk _⟩
def irr (v:Q4):Bool:=decide (v.b=0) && (decide (v.c=0) && decide (v.d=0))
theorem aDo (hx:SurdV k cs v K) (hK:K≤268435456) (C:∀k' ds,Up k k'→RatV k' ds (if irr v then v.a else 0) K→R k' (.tuple #[.agg ds,.bool (irr v)])) :
 Cl k 250 #[.agg cs] R:=by
 intro k0 u0;obtain⟨c0,c1,c2,c3,D,d,e,x0,x1,x2,x3,m,rfl,hm,hg,rfl,⟨b0,A0,n0,e0,rfl,i0,l0⟩,⟨b1,A1,n1,e1,rfl,i1,l1⟩,⟨b2,A2,n2,e2,rfl,i2,l2⟩,⟨b3,A3,n3,e3,rfl,i3,l3⟩,lx,hd⟩:=hx;have hcs:mk9 #[.bool b0,.slice A0 n0 e0] #[.bool b1,.slice A1 n1 e1] #[.bool b2,.slice A2 n2 e2] #[.bool b3,.slice A3 n3 e3] (.slice D d e)=#[.bool b0,.slice A0 n0 e0,.bool b1,.slice A1 n1 e1,.bool b2,.slice A2 n2 e2,.bool b3,.slice A3 n3 e3,.slice D d e]:=rfl;rw [hcs];have q1:=i1.lim.zero_iff;have q2:=i2.lim.zero_iff;have q3:=i3.lim.zero_iff;have ee:wrap .i64 (wrap .i64 ((n1:Nat)+(n2:Nat))+(n3:Nat))=((n1+n2+n3:Nat):Int):=by
  rw [vH (x:=(n1:Nat)+(n2:Nat)) oq oq,vH (x:=(n1:Nat)+(n2:Nat)+(n3:Nat)) oq oq];omega
 have hirr:irr (mkQ x0 x1 x2 x3 m)=decide (x1=0∧x2=0∧x3=0):=by
  unfold irr mkQ;rw [vz];simp only [qo,decide_eq_true_eq,tZ hm]
 refine zM ⟨rfl,rfl,rfl,fun h=>fun k1 u1=>?_,fun h=>fun k1 u1=>?_⟩
 ·rw [ee]at h;have h:=ow h;have er:irr (mkQ x0 x1 x2 x3 m)=false:=by rw [hirr];exact decide_eq_false oq
  have:=C k1 _ (u0.trans u1) (by rw [er];exact RatV.nilz K)
  rwa [er]at this
 ·rw [ee]at h;have h:=ov h;have hz:x1=0∧x2=0∧x3=0:=oq
  have er:irr (mkQ x0 x1 x2 x3 m)=true:=by rw [hirr];exact decide_eq_true hz
  obtain⟨z1,z2,z3⟩:=hz;have hgm:Nat.Coprime x0.natAbs m:=by
   unfold gcd5 at hg;rw [z1,z2,z3]at hg;simp only [Int.natAbs_zero,wk]at hg;rw [Nat.coprime_comm];exact hg
  have hn:(mkRat x0 m).num=x0∧(mkRat x0 m).den=m:=by
   rw [←Rat.mk_eq_mkRat x0 m oq hgm];exact⟨rfl,rfl⟩
  have u:=u0.trans u1
  have:=C k1 #[.bool b0,.slice A0 n0 e0,.slice D d e] u (by
   rw [er,od rfl];show RatV k1 _ (mkRat x0 m) K
   exact⟨b0,A0,n0,e0,D,d,_,rfl,⟨by rw [hn.1];exact i0.up u,by rw [hn.2];exact lx.up u⟩,l0,hd⟩)
  rwa [er]at this
end
open Go.RowKit Num Ieee FT Plain
section
variable {k k':World}{A A':Option Addr}{n n' c c' a b:Nat}{R:World→Value→Prop}
theorem aVn {s:Nat}(h:LimR k A n c a) (hn:n≤17179869184) (hs:s≤17179869184) (K:∀k' B j d,Up k k'→LimR k' B j d (a/2^s)→j≤n→R k' (.slice B j d)) :
 Cl k 273 #[.slice A n c,.int .i64 (s:Int)] R:=
 after (fun _k0 u=>aEm (K:=n) fun w hs'=>by
  have h':=(h.up u).sees hs';obtain⟨rfl,h'⟩:=h'
  exact (xB A c a s w h' hn oq).mono fun e w' q=>jU q (aW (zo a _))) fun k' _v u ⟨B,j,d,e,h1,h2⟩=>e▸K k' B j d u h1 h2
theorem aPm {p:Nat}(h:Sy.Blk k p 59 #[Value.int .u64 1]):LimR k (some ⟨p,0,none⟩) 1 1 1:=by
 have h1:nw 1=1:=iQ (Len.one oz oz);refine⟨h1.symm,?_⟩;show RW _ _ (nw 1) _ _;rw [h1];refine⟨by decide +kernel,oy _,fun _=>⟨p,0,rfl,h.lt,fun i hi=>?_⟩⟩;have:i=0:=oq
 subst this;rw [h.cell];have:wq 1 0=1:=by decide +kernel
 rw [this];rfl
theorem aTw {a b:Nat}(h:decide (dL a b ≥ 0)=true):b≤a:=by
 have h:=ow h;unfold dL at h;split at h
 ·omega
 ·omega
theorem aNg {a b:Nat}(h:decide (dL a b ≥ 0)=false):a<b:=by
 have h:=ov h;unfold dL at h;split at h
 ·assumption
 ·split at h <;> omega
theorem aUm {b:Nat}(hb:b≤1000000000000):wrap .i64 ((wrap .i64 (Int.tdiv ((b:Nat):Int) 2))+1)=((b/2+1:Nat):Int):=by
 rw [Int.tdiv_eq_ediv_of_nonneg oq,qt,qt];omega
theorem aWv (h:LimR k A n c a) (hn:n≤10000000) (C:∀k' B j d r,Up k k'→r*r≤a→a<(r+1)*(r+1)→LimR k' B j d r→R k' (.slice B j d)) :
 Cl k 311 #[.slice A n c] R:=by
 intro k0 u0;replace h:=h.up u0;replace C:=fun k' B j d r u=>C k' B j d r (u0.trans u);refine aSw ⟨rfl,fun h0=>fun k1 u1=>?_,fun h0=>?_⟩
 ·have hn0:n=0:=by have:=eq_of_beq h0;omega
  have ha:=h.zero_iff.1 hn0;exact C k1 none 0 0 0 u1 oq oq LimR.nil
 ·have hn0:n≠0:=fun e=>by rw [e]at h0;exact absurd h0 oz
  have ha:0<a:=jr fun e=>hn0 (h.zero_iff.2 e);have hlt:a<2^(64*n):=by
   have:=(bC a).lt;rw [eH,←vq,←h.len]at this;exact this
  have hbl:bl a≤64*n:=dD.2 hlt;intro p k1 u1 hp;refine⟨_,_,_,rfl,?_⟩;refine uX (h.up u1) oq fun k3 u3=>⟨_,rfl,?_⟩
  try dsimp only
  rw [aUm oq];refine fN ((aPm hp).up u3) oz oq fun k5 B j d u5 h5 l5=>⟨_,_,_,rfl,?_⟩;have hX0:a<2^(bl a/2+1)*2^(bl a/2+1):=by
   rw [←oi];exact oo (eP a) (oc oz oq)
  have hX:nw (1*2^(bl a/2+1))≤n+1:=by
   refine aI ?_;rw [zk,eH,←vq];exact zr oz oq
  generalize hXe:1*2^(bl a/2+1)=X at h5 hX;have hXX:2^(bl a/2+1)=X:=by rw [←hXe,zk]
  rw [hXX]at hX0;have hXp:0<X:=by rw [←hXX];exact qk oz
  clear hXe hXX;have v5:=u1.trans (u3.trans u5);replace h:=h.up v5;replace C:=fun k' B j d r u=>C k' B j d r (v5.trans u);refine⟨fun m k' vs=>∃A x l c,m=x∧vs=[.slice A l c]∧LimR k' A l c x∧0<x∧a<(x+1)*(x+1)∧x≤X,⟨X,fun k' u=>⟨B,X,j,d,rfl,rfl,h5.up u,hXp,ze hX0 (xp oq oq),oy _⟩⟩,?_⟩;rintro m k6 vs u6 ⟨A4,x,l4,c4,rfl,rfl,hx,hx0,hxa,hxX⟩;have hnx:=aW hxX;have hlx:=hx.len;refine⟨A4,_,c4,rfl,?_⟩;refine gD (h.up u6) hx hx0 oq oq fun k8 B5 j5 d5 B6 j6 d6 u8 hq hr l6 l7=>⟨_,_,_,_,_,_,rfl,?_⟩;refine yT (L:=n+1) (hx.up u8) hq oq oq oq fun k10 B7 j7 d7 u10 hs hsl=>⟨_,_,_,rfl,?_⟩;refine aVn (s:=1) hs oq oz fun k12 B8 j8 d8 u12 hl l8=>⟨_,_,_,rfl,?_⟩;refine aXc hl ((hx.up u8).up (u10.trans u12)) oq oq fun k14 u14=>⟨_,rfl,fun ho=>?_,fun ho=>?_⟩
  ·have ho:=aTw ho;intro k15 u15;have v:=u8.trans (u10.trans (u12.trans (u14.trans u15)));exact C k15 A4 l4 c4 m (u6.trans v) (W32.aBn hx0 ho) hxa (hx.up v)
  ·have ho:=aNg ho;intro k16 u16;have hlo:=W32.aKe (a:=a) hx0;refine⟨_,ho,B8,_,j8,d8,rfl,rfl,(hl.up u14).up u16,?_,hlo,qb (xr ho) hxX⟩;refine jr fun e=>?_;rw [e]at hlo;have h1:a/m=a:=by
    have:(m+a/m) / 2^1=0:=e;have h2:m+a/m<2:=oq
    have h3:m=1:=oq
    rw [h3,ka]
   have:(m+a/m) / 2^1=0:=e;omega
end
structure Rtn (w:Q4) (n:Int) (kk:Nat) (a b:Int):Prop where
 lo:nn (((Q4.real ((n:Rat)*((2^kk:Nat):Rat))).mul w).sub (Q4.real (a:Rat)))
 hi:nn ((Q4.real (b:Rat)).sub ((Q4.real ((n:Rat)*((2^kk:Nat):Rat))).mul w))
 gap:b≤a+1
 small:a.natAbs≤3*n.natAbs*2^kk+1∧b.natAbs≤3*n.natAbs*2^kk+1
theorem Rtn.zero (w:Q4) (kk:Nat):Rtn w 0 kk 0 0:=by
 have e:(Q4.real (((0:Int):Rat)*((2^kk:Nat):Rat))).mul w=Q4.real ((0:Int):Rat):=by
  have:((0:Int):Rat)*((2^kk:Nat):Rat)=0:=Rat.zero_mul _;rw [this];refine Q4.ext' ?_ ?_ ?_ ?_ <;> simp only [Q4.mul,Q4.real] <;> grind
 exact⟨by rw [e];exact sJ _,by rw [e];exact sJ _,oz,by simp⟩
theorem aVp {r n s kk:Nat}(hs:s≤9) (h:r*r≤n*n*s*2^(2*kk)):r≤3*n*2^kk:=by
 refine jg fun c=>?_;have c:3*n*2^kk<r:=oq
 have h1:=xp c c;have h2:n*n*s*2^(2*kk)≤3*n*2^kk*(3*n*2^kk):=by
  have e:3*n*2^kk*(3*n*2^kk)=n*n*9*2^(2*kk):=by
   rw [show 2*kk=kk+kk by omega,oi];have:3*n*2^kk*(3*n*2^kk)=n*n*(3*3)*(2^kk*2^kk):=by ac_rfl
   exact this
  rw [e];exact om _ (qu _ hs)
 omega
theorem Rtn.mk' {w:Q4}{n:Int}{sq kk r:Nat}(hw:C.sg w.toQ=1) (hs:w.mul w=Q4.real ((sq:Nat):Rat)) (hsq:sq≤9) (hn:n≠0) (h1:r*r≤n.natAbs*n.natAbs*sq*2^(2*kk)) (h2:n.natAbs*n.natAbs*sq*2^(2*kk)<(r+1)*(r+1)) :
 Rtn w n kk (if n<0 then -((r+1:Nat):Int) else (r:Int)) (if n<0 then -(r:Int) else ((r+1:Nat):Int)):=by
 have hrle:=aVp hsq h1;have hP:(0:Rat)<((2^kk:Nat):Rat):=vu.2 (ot kk);have hm:(0:Rat)<((n.natAbs:Nat):Rat):=vu.2 oq;have hW:C.sg ((Q4.real (((n.natAbs:Nat):Rat)*((2^kk:Nat):Rat))).mul w).toQ=1:=by
  rw [gS,C.zB,hw,oY (Rat.mul_pos hm hP)];rfl
 have hWW:((Q4.real (((n.natAbs:Nat):Rat)*((2^kk:Nat):Rat))).mul w).mul ((Q4.real (((n.natAbs:Nat):Rat)*((2^kk:Nat):Rat))).mul w)=Q4.real (((n.natAbs*n.natAbs*sq*2^(2*kk):Nat)):Rat):=by
  rw [aMc,hs];have e:((n.natAbs*n.natAbs*sq*2^(2*kk):Nat):Rat)=((n.natAbs:Nat):Rat)*((n.natAbs:Nat):Rat)*((sq:Nat):Rat)*(((2^kk:Nat):Rat)*((2^kk:Nat):Rat)):=by
   rw [show 2*kk=kk+kk by omega,oi,xm,xm,xm,xm]
  rw [e];refine Q4.ext' ?_ ?_ ?_ ?_ <;> simp only [Q4.mul,Q4.real] <;> grind
 have q1:((r:Nat):Rat)*((r:Nat):Rat)≤((n.natAbs*n.natAbs*sq*2^(2*kk):Nat):Rat):=by
  rw [←xm];exact xh.2 h1
 have q2:((n.natAbs*n.natAbs*sq*2^(2*kk):Nat):Rat)≤((r+1:Nat):Rat)*((r+1:Nat):Rat):=by
  rw [←xm];exact xh.2 (xr h2)
 have lo:=aVq hW hWW (show (0:Rat)≤((r:Nat):Rat) from Rat.natCast_nonneg) q1;have hi:=aHx hW hWW (show (0:Rat)≤((r+1:Nat):Rat) from Rat.natCast_nonneg) q2
 by_cases g:n<0
 ·rw [od g,od g];have en:(n:Rat)=-((n.natAbs:Nat):Rat):=by
   have:n=-((n.natAbs:Nat):Int):=oq
   have h:=congrArg (fun z:Int=>(z:Rat)) this;rw [show ((-((n.natAbs:Nat):Int):Int):Rat)=-((n.natAbs:Nat):Rat) from wm _]at h;exact h
  have e1:((-((r+1:Nat):Int):Int):Rat)=-((r+1:Nat):Rat):=wm _;have e2:((-((r:Nat):Int):Int):Rat)=-((r:Nat):Rat):=wm _;refine⟨?_,?_,oq,oq⟩
  ·rw [en,e1];refine cN hi ?_;refine Q4.ext' ?_ ?_ ?_ ?_ <;> simp only [Q4.mul,Q4.sub,Q4.add,Q4.neg,Q4.real] <;> grind
  ·rw [en,e2];refine cN lo ?_;refine Q4.ext' ?_ ?_ ?_ ?_ <;> simp only [Q4.mul,Q4.sub,Q4.add,Q4.neg,Q4.real] <;> grind
 ·rw [oh g,oh g];have en:(n:Rat)=((n.natAbs:Nat):Rat):=by
   have:n=((n.natAbs:Nat):Int):=oq
   exact congrArg (fun z:Int=>(z:Rat)) this
  refine⟨?_,?_,oq,oq⟩
  ·rw [en];exact lo
  ·rw [en];exact hi
section
variable {k:World}{J:World→List Value→Prop}{A3 A17 A19:Option Addr}{l3 c3 l17 c17 l19 c19 sq kk K M:Nat}{b2 b16 b18:Bool}{n lo hi sqI:Int}{w:Q4}
theorem tA (hn:IntV k #[.bool b2,.slice A3 l3 c3] n K) (hlo:IntV k #[.bool b16,.slice A17 l17 c17] lo M) (hhi:IntV k #[.bool b18,.slice A19 l19 c19] hi M)
 (hw:C.sg w.toQ=1) (hs:w.mul w=Q4.real ((sq:Nat):Rat)) (hsq:sq≤9) (hsqI:sqI=(sq:Int)) (_:K≤10000) (hkk:kk≤1000000) (hM:2*K+2*kk+2≤M) (hM2:M≤9000000)
 (C:∀k' b A l c b' A' l' c' x y,Up k k'→Rtn w n kk x y→IntV k' #[.bool b,.slice A l c] (lo+x) (M+1)→IntV k' #[.bool b',.slice A' l' c'] (hi+y) (M+1)→J k' [.agg #[.bool b,.slice A l c],.agg #[.bool b',.slice A' l' c']]) :
 (true=true∧(((((l3:Nat):Int) == 0)=true→
 (∀k10,Up k k10→J k10 [Value.agg #[Value.bool b16,Value.slice A17 l17 c17],Value.agg #[Value.bool b18,Value.slice A19 l19 c19]]))∧
 ((((l3:Nat):Int) == 0)=false→
 (Cl k 108 #[Value.slice A3 l3 c3,Value.slice A3 l3 c3] fun k12 r11=>∃A20 l20 c20,some (Value.slice A20 l20 c20)=some r11∧
 Cl k12 189 #[Value.int .u64 sqI] fun k14 r13=>∃A21 l21 c21,some (Value.slice A21 l21 c21)=some r13∧
 Cl k14 108 #[Value.slice A20 l20 c20,Value.slice A21 l21 c21] fun k16 r15=>∃A22 l22 c22,some (Value.slice A22 l22 c22)=some r15∧
 Cl k16 230 #[Value.slice A22 l22 c22,Value.int .i64 (wrap .i64 (2*((kk:Nat):Int)))] fun k18 r17=>∃A23 l23 c23,some (Value.slice A23 l23 c23)=some r17∧
 Cl k18 311 #[Value.slice A23 l23 c23] fun k20 r19=>∃A24 l24 c24,some (Value.slice A24 l24 c24)=some r19∧
 Cl k20 171 #[Value.bool b2,Value.slice A24 l24 c24] fun k22 r21=>∃b25,∃A26 l26 c26,some (Value.agg #[Value.bool b25,Value.slice A26 l26 c26])=some r21∧
 Cl k22 189 #[Value.int .u64 1] fun k24 r23=>∃A27 l27 c27,some (Value.slice A27 l27 c27)=some r23∧
 Cl k24 190 #[Value.slice A24 l24 c24,Value.slice A27 l27 c27] fun k26 r25=>∃A28 l28 c28,some (Value.slice A28 l28 c28)=some r25∧
 Cl k26 171 #[Value.bool b2,Value.slice A28 l28 c28] fun k28 r27=>∃b29,∃A30 l30 c30,some (Value.agg #[Value.bool b29,Value.slice A30 l30 c30])=some r27∧
 (b2=true→
 (Cl k28 106 #[Value.agg #[Value.bool b16,Value.slice A17 l17 c17],Value.agg #[Value.bool b29,Value.slice A30 l30 c30]] fun k30 r29=>∃b31,∃A32 l32 c32,some (Value.agg #[Value.bool b31,Value.slice A32 l32 c32])=some r29∧
 Cl k30 106 #[Value.agg #[Value.bool b18,Value.slice A19 l19 c19],Value.agg #[Value.bool b25,Value.slice A26 l26 c26]] fun k32 r31=>∃b33,∃A34 l34 c34,some (Value.agg #[Value.bool b33,Value.slice A34 l34 c34])=some r31∧
 ∀k33,Up k32 k33→J k33 [Value.agg #[Value.bool b31,Value.slice A32 l32 c32],Value.agg #[Value.bool b33,Value.slice A34 l34 c34]]))∧
 (b2=false→
 (Cl k28 106 #[Value.agg #[Value.bool b16,Value.slice A17 l17 c17],Value.agg #[Value.bool b25,Value.slice A26 l26 c26]] fun k35 r34=>∃b31,∃A32 l32 c32,some (Value.agg #[Value.bool b31,Value.slice A32 l32 c32])=some r34∧
 Cl k35 106 #[Value.agg #[Value.bool b18,Value.slice A19 l19 c19],Value.agg #[Value.bool b29,Value.slice A30 l30 c30]] fun k37 r36=>∃b33,∃A34 l34 c34,some (Value.agg #[Value.bool b33,Value.slice A34 l34 c34])=some r36∧
 ∀k38,Up k37 k38→J k38 [Value.agg #[Value.bool b31,Value.slice A32 l32 c32],Value.agg #[Value.bool b33,Value.slice A34 l34 c34]])))))):=by
  subst hsqI;obtain⟨_,_,_,_,e,hi0,hl0⟩:=hn;injection e with e;injection e with e1 e;injection e1 with e1;injection e with e2 e;injection e2 with e2 e3 e4;subst e1 e2 e3 e4;have hz:=hi0.lim.zero_iff;have hneg:=hi0.neg;refine⟨rfl,fun f k10 u10=>?_,fun f=>?_⟩
  ·have f:l3=0:=by have:=eq_of_beq f;omega
   have hn0:n=0:=Int.natAbs_eq_zero.1 (hz.1 f);subst hn0;exact C k10 _ _ _ _ _ _ _ _ 0 0 u10 (Rtn.zero w kk) (by rw [Int.add_zero];exact (hlo.up u10).mono oq) (by rw [Int.add_zero];exact (hhi.up u10).mono oq)
  have f:l3≠0:=fun e=>by rw [e]at f;exact absurd f oz
  have hn0:n≠0:=fun e=>f (hz.2 (by rw [e];rfl));have hL:=hi0.lim;refine sP hL hL oq oq fun k12 B j d u12 h12 l12=>⟨_,_,_,rfl,?_⟩;refine iJ (x:=sq) oq fun k14 B1 j1 d1 u14 h14 l14=>⟨_,_,_,rfl,?_⟩;refine sP (h12.up u14) h14 oq oq fun k16 B2 j2 d2 u16 h16 l16=>⟨_,_,_,rfl,?_⟩;have ew:wrap .i64 (2*((kk:Nat):Int))=((2*kk:Nat):Int):=by rw [qt];omega
  try dsimp only
  rw [ew];refine fN h16 oq oq fun k18 B3 j3 d3 u18 h18 l18=>⟨_,_,_,rfl,?_⟩;refine aWv h18 oq fun k20 B4 j4 d4 r u20 r1 r2 h20=>⟨_,_,_,rfl,?_⟩;have hR:=Rtn.mk' hw hs hsq hn0 r1 r2;have l20:j4≤M:=by
   have a:=h20.len;have b:=h18.len;have c:=aW (show r≤n.natAbs*n.natAbs*sq*2^(2*kk) from qb (Nat.le_mul_self r) r1);omega
  have l20':j4+1≤M:=by
   have a:=h20.len;have b:=h18.len;have c:=aW (show r≤n.natAbs*n.natAbs*sq*2^(2*kk) from qb (Nat.le_mul_self r) r1);omega
  refine kF (K:=M) h20 oq oq fun k22 ds u22 hA=>?_;obtain⟨b25,A26,l26,c26,rfl,hA⟩:=hA.open;refine⟨_,_,_,_,rfl,?_⟩;refine iJ (x:=1) oz fun k24 B5 j5 d5 u24 h24 l24=>⟨_,_,_,rfl,?_⟩;refine yT (L:=j4+1) ((h20.up u22).up u24) h24 oq oq oq fun k26 B6 j6 d6 u26 h26 l26'=>⟨_,_,_,rfl,?_⟩;have l26'':j6≤M:=by
   have a:=h26.len;have b:=h18.len;have c:=aW (show r+1≤n.natAbs*n.natAbs*sq*2^(2*kk)+1 from by have:=qb (Nat.le_mul_self r) r1;omega);have e:=aPg (n.natAbs*n.natAbs*sq*2^(2*kk)) 1;have e1:nw 1=1:=iQ (Len.one oz oz);omega
  refine kF (K:=M) h26 oq oq fun k28 ds u28 hB=>?_;obtain⟨b29,A30,l30,c30,rfl,hB⟩:=hB.open;refine⟨_,_,_,_,rfl,?_⟩;have v28:=u12.trans (u14.trans (u16.trans (u18.trans (u20.trans (u22.trans (u24.trans (u26.trans u28)))))));have hA28:=hA.up (u24.trans (u26.trans u28));refine⟨fun g=>?_,fun g=>?_⟩
  ·rw [g]at hA28 hB;have hneg':n<0:=ow (hneg.symm.trans g);rw [od hneg',od hneg']at hR;refine bT (M:=M) (hlo.up v28) hB oq oq oq fun k30 ds u30 h30=>?_;obtain⟨_,_,_,_,rfl,h30⟩:=h30.open;refine⟨_,_,_,_,rfl,?_⟩;refine bT (M:=M) ((hhi.up v28).up u30) (hA28.up u30) oq oq oq fun k32 ds u32 h32=>?_;obtain⟨_,_,_,_,rfl,h32⟩:=h32.open;refine⟨_,_,_,_,rfl,fun k33 u33=>C k33 _ _ _ _ _ _ _ _ _ _ (v28.trans (u30.trans (u32.trans u33))) hR ((h30.up u32).up u33) (h32.up u33)⟩
  ·rw [g]at hA28 hB;have hneg':¬ n<0:=ov (hneg.symm.trans g);rw [oh hneg',oh hneg']at hR;refine bT (M:=M) (hlo.up v28) hA28 oq oq oq fun k30 ds u30 h30=>?_;obtain⟨_,_,_,_,rfl,h30⟩:=h30.open;refine⟨_,_,_,_,rfl,?_⟩;refine bT (M:=M) ((hhi.up v28).up u30) (hB.up u30) oq oq oq fun k32 ds u32 h32=>?_;obtain⟨_,_,_,_,rfl,h32⟩:=h32.open;refine⟨_,_,_,_,rfl,fun k33 u33=>C k33 _ _ _ _ _ _ _ _ _ _ (v28.trans (u30.trans (u32.trans u33))) hR ((h30.up u32).up u33) (h32.up u33)⟩
end
theorem rF (y:Int) (P:Nat):((y*(P:Int):Int):Rat)=(y:Rat)*(P:Rat):=by rw [yb];rfl
theorem aIt {y0 y1 y2 y3 a1 a2 a3 b1 b2 b3:Int}{m kk:Nat}(hm:0<m) (r1:Rtn w2 y1 kk a1 b1) (r2:Rtn w3 y2 kk a2 b2) (r3:Rtn w6 y3 kk a3 b3) :
 nn ((mkQ y0 y1 y2 y3 m).sub (Q4.real (mkRat (y0*(2^kk:Nat)+a1+a2+a3) (m*2^kk))))∧nn ((Q4.real (mkRat (y0*(2^kk:Nat)+b1+b2+b3) (m*2^kk))).sub (mkQ y0 y1 y2 y3 m))∧
 mkRat (y0*(2^kk:Nat)+b1+b2+b3) (m*2^kk)-mkRat (y0*(2^kk:Nat)+a1+a2+a3) (m*2^kk)≤3*(1/((2^kk:Nat):Rat)):=by
 have hP:(0:Rat)<((2^kk:Nat):Rat):=vu.2 (ot kk);have hM:(0:Rat)<(m:Rat):=vu.2 hm;have hM1:(1:Rat)≤(m:Rat):=by
  have:((1:Nat):Rat)≤((m:Nat):Rat):=xh.2 hm;exact this
 have hMP:0<(m:Rat)*((2^kk:Nat):Rat):=Rat.mul_pos hM hP;have gap:((b1+b2+b3:Int):Rat)≤((a1+a2+a3+3:Int):Rat):=kt.2 (by have:=r1.gap;have:=r2.gap;have:=r3.gap;omega);have l1:=r1.lo;have l2:=r2.lo;have l3:=r3.lo;have u1:=r1.hi;have u2:=r2.hi;have u3:=r3.hi;have el:∀x:Int,mkRat x (m*2^kk)=(x:Rat) / ((m:Rat)*((2^kk:Nat):Rat)):=fun x=>by rw [yy,xm]
 have ed:∀x:Int,mkRat x m=(x:Rat) / (m:Rat):=fun x=>yy x m;rw [el,el];unfold mkQ;rw [ed,ed,ed,ed];have s1:((y0*((2^kk:Nat):Int)+a1+a2+a3:Int):Rat)=(y0:Rat)*((2^kk:Nat):Rat)+a1+a2+a3:=by rw [vw,vw,vw,rF]
 have s2:((y0*((2^kk:Nat):Int)+b1+b2+b3:Int):Rat)=(y0:Rat)*((2^kk:Nat):Rat)+b1+b2+b3:=by rw [vw,vw,vw,rF]
 rw [s1,s2];have s3:((b1+b2+b3:Int):Rat)=(b1:Rat)+b2+b3:=by rw [vw,vw]
 have s4:((a1+a2+a3+3:Int):Rat)=(a1:Rat)+a2+a3+3:=by rw [vw,vw,vw];rfl
 rw [s3,s4]at gap;clear el ed s1 s2 s3 s4 r1 r2 r3 hm;generalize ((2^kk:Nat):Rat)=P at *
 generalize (m:Rat)=M at *
 generalize (y0:Rat)=z0 at *
 generalize (y1:Rat)=z1 at *
 generalize (y2:Rat)=z2 at *
 generalize (y3:Rat)=z3 at *
 generalize (a1:Rat)=p1 at *
 generalize (a2:Rat)=p2 at *
 generalize (a3:Rat)=p3 at *
 generalize (b1:Rat)=q1 at *
 generalize (b2:Rat)=q2 at *
 generalize (b3:Rat)=q3 at *
 have d0:z0/M*(M*P)=z0*P:=by rw [←yv,vn (by grind)]
 have d1:z1/M*(M*P)=z1*P:=by rw [←yv,vn (by grind)]
 have d2:z2/M*(M*P)=z2*P:=by rw [←yv,vn (by grind)]
 have d3:z3/M*(M*P)=z3*P:=by rw [←yv,vn (by grind)]
 have dl:∀t:Rat,t/(M*P)*(M*P)=t:=fun t=>vn (by grind);refine⟨?_,?_,?_⟩
 ·refine lT (y:=Q4.real (M*P)) (cN (gI (gI l1 l2) l3) ?_) (oY hMP);have dd:=dl (z0*P+p1+p2+p3);generalize (z0*P+p1+p2+p3) / (M*P)=L at *
  generalize z0/M=e0 at *
  generalize z1/M=e1 at *
  generalize z2/M=e2 at *
  generalize z3/M=e3 at *
  refine Q4.ext' ?_ ?_ ?_ ?_ <;> simp only [Q4.mul,Q4.sub,Q4.add,Q4.neg,Q4.real,w2,w3,w6] <;> grind
 ·refine lT (y:=Q4.real (M*P)) (cN (gI (gI u1 u2) u3) ?_) (oY hMP);have dd:=dl (z0*P+q1+q2+q3);generalize (z0*P+q1+q2+q3) / (M*P)=L at *
  generalize z0/M=e0 at *
  generalize z1/M=e1 at *
  generalize z2/M=e2 at *
  generalize z3/M=e3 at *
  refine Q4.ext' ?_ ?_ ?_ ?_ <;> simp only [Q4.mul,Q4.sub,Q4.add,Q4.neg,Q4.real,w2,w3,w6] <;> grind
 ·refine Rat.not_lt.1 fun h=>?_;have h:=(Rat.mul_lt_mul_right hMP).2 h;have c1:=dl (z0*P+q1+q2+q3);have c2:=dl (z0*P+p1+p2+p3);have c3:3*(1/P)*(M*P)=3*M:=by
   have:1/P*P=1:=vn (by grind);generalize 1/P=i at *
   grind
  rw [c3,Rat.sub_eq_add_neg,Rat.add_mul,Rat.neg_mul,c1,c2]at h
  grind
theorem Bel.form {v:Q4}{b:Nat}(h:Bel v b):∃D,IntForm v D b:=by
 obtain⟨y0,y1,y2,y3,m,hm,rfl,h0,h1,h2,h3,h4⟩:=h;have hM:(0:Rat)<(m:Rat):=vu.2 hm;have e:∀y:Int,(m:Rat)*mkRat y m=(y:Rat):=fun y=>by rw [yy,Rat.mul_comm,vn (by grind)]
 have bd:∀y:Int,y.natAbs<b→-(b:Rat)≤(m:Rat)*mkRat y m∧(m:Rat)*mkRat y m≤b:=fun y hy=>by
  rw [e];have a1:((-(b:Int):Int):Rat)≤(y:Rat):=kt.2 oq;have a2:(y:Rat)≤((b:Int):Rat):=kt.2 oq;rw [wm]at a1;exact⟨a1,a2⟩
 obtain⟨m1,m2,m3,m4⟩:=pX (m:Rat) (mkQ y0 y1 y2 y3 m);exact⟨m,hm,xr h4,⟨by rw [m1];exact⟨y0,e y0⟩,by rw [m2];exact⟨y1,e y1⟩,by rw [m3];exact⟨y2,e y2⟩,by rw [m4];exact⟨y3,e y3⟩⟩,bd y0 h0,bd y1 h1,bd y2 h2,bd y3 h3⟩
theorem uK (K:Nat):B64^K=2^(64*K):=by rw [eH,←vq]
section
variable {k:World}{R:World→Value→Prop}{cs:Array Value}{v:Q4}{K kk:Nat}{q:Rat}
theorem RatV.lim {L:Nat}(h:RatV k cs q K) (h1:q.num.natAbs<B64^L) (h2:q.den<B64^L):RatV k cs q L:=by
 obtain⟨b,A,n,c,D,d,e,rfl,hr,e1,e2⟩:=h;refine⟨b,A,n,c,D,d,e,rfl,hr,?_,?_⟩
 ·rw [hr.num.lim.len];exact aI h1
 ·rw [hr.den.len];split
  ·rw [nw_zero];exact jk _
  ·exact aI h2
theorem aHe {x:Int}{m K kk L N:Nat}(hm:0<m) (hx:x.natAbs≤10*(B64^K*2^kk)) (hd:m≤B64^K) (hL:64*K+kk+5≤64*L) {cs:Array Value}(h:RatV k cs (mkRat x (m*2^kk)) N):RatV k cs (mkRat x (m*2^kk)) L:=by
 have hp:0<m*2^kk:=zb hm (ot kk);have hb:16*(B64^K*2^kk)<B64^L:=by
  rw [uK,uK,←oi,show (16:Nat)=2^4 from rfl,←oi];exact zr oz oq
 have hpos:0<B64^K*2^kk:=zb (qk oz) (ot kk);have hd2:=om (2^kk) hd;refine h.lim ?_ ?_
 ·rw [gY _ hp];have:=zo x.natAbs (Nat.gcd x.natAbs (m*2^kk));omega
 ·rw [jG _ hp];have:=zo (m*2^kk) (Nat.gcd x.natAbs (m*2^kk));omega
def aIm (w:Q4) (n:Int) (kk M:Nat) (lo hi:Int) (k:World) (vs:List Value):Prop:=
 ∃b A l c b' A' l' c' x y,vs=[.agg #[.bool b,.slice A l c],.agg #[.bool b',.slice A' l' c']]∧Rtn w n kk x y∧IntV k #[.bool b,.slice A l c] (lo+x) M∧IntV k #[.bool b',.slice A' l' c'] (hi+y) M
theorem aIs (hx:SurdV k cs v K) (hK1:1≤K) (hK:K≤10000) (hkk:kk≤1000000)
 (C:∀k' ds ds' lo hi,Up k k'→nn (v.sub (Q4.real lo))→nn ((Q4.real hi).sub v)→hi-lo≤3*(1/((2^kk:Nat):Rat))→RatV k' ds lo (K+kk/64+2)→RatV k' ds' hi (K+kk/64+2)→R k' (.tuple #[.agg ds,.agg ds'])) :
 Cl k 251 #[.agg cs,.int .i64 (kk:Int)] R:=by
 intro k0 u0;replace hx:=hx.up u0;replace C:=fun k' ds ds' lo hi u=>C k' ds ds' lo hi (u0.trans u);obtain⟨c0,c1,c2,c3,D,d,e,y0,y1,y2,y3,m,rfl,hm,hg,rfl,i0,i1,i2,i3,lx,hd⟩:=hx;have t0:=IntV.lt i0;have t1:=IntV.lt i1;have t2:=IntV.lt i2;have t3:=IntV.lt i3;have tm:m≤B64^K:=by
  by_cases g:m=1
  ·rw [g];exact qk oz
  ·rw [oh g]at lx;have:=(bC m).lt;rw [←lx.len]at this;exact xr (oo this (oc oz hd))
 obtain⟨b0,A0,n0,e0,rfl,i0⟩:=i0.open;obtain⟨b1,A1,n1,e1,rfl,i1⟩:=i1.open;obtain⟨b2,A2,n2,e2,rfl,i2⟩:=i2.open;obtain⟨b3,A3,n3,e3,rfl,i3⟩:=i3.open;have hcs:mk9 #[.bool b0,.slice A0 n0 e0] #[.bool b1,.slice A1 n1 e1] #[.bool b2,.slice A2 n2 e2] #[.bool b3,.slice A3 n3 e3] (.slice D d e)=#[.bool b0,.slice A0 n0 e0,.bool b1,.slice A1 n1 e1,.bool b2,.slice A2 n2 e2,.bool b3,.slice A3 n3 e3,.slice D d e]:=rfl;rw [hcs];clear hcs hg;obtain⟨M,hM⟩:∃M,M=2*K+2*kk+2:=⟨_,rfl⟩;have l0:∀ {k'},Up k0 k'→LimR k' A0 n0 e0 y0.natAbs∧n0≤K∧b0=decide (y0<0):=fun u=>by
  obtain⟨_,_,_,_,e,h,h'⟩:=i0;injection e with e;injection e with e1 e;injection e1 with e1;injection e with e2 e;injection e2 with e2 e3 e4;subst e1 e2 e3 e4;exact⟨h.lim.up u,h',h.neg⟩
 have en:sgn b0 (y0.natAbs*2^kk)=y0*((2^kk:Nat):Int):=by
  rw [(l0 (Up.refl _)).2.2];unfold sgn
  by_cases g:y0<0
  ·rw [decide_eq_true g,od rfl,vk,←yh]
   congr 1
   omega
  ·rw [decide_eq_false g,oh oz,vk]
   congr 1
   omega
 refine aWp ?_;refine fN (l0 (Up.refl _)).1 (by have:=(l0 (Up.refl _)).2.1;omega) oq fun k1 B j d1 u1 h1 l1=>⟨_,_,_,rfl,?_⟩;refine kF (K:=M) h1 (by have:=(l0 (Up.refl _)).2.1;omega) (by have:=(l0 (Up.refl _)).2.1;omega) fun k3 ds u3 h3=>?_;rw [en]at h3;obtain⟨_,_,_,_,rfl,h3⟩:=h3.open;refine⟨_,_,_,_,rfl,?_⟩;refine fN (l0 (u1.trans u3)).1 (by have:=(l0 (Up.refl _)).2.1;omega) oq fun k5 B j d5 u5 h5 l5=>⟨_,_,_,rfl,?_⟩;refine kF (K:=M) h5 (by have:=(l0 (Up.refl _)).2.1;omega) (by have:=(l0 (Up.refl _)).2.1;omega) fun k7 ds u7 h7=>?_;rw [en]at h7;obtain⟨_,_,_,_,rfl,h7⟩:=h7.open;refine⟨_,_,_,_,rfl,?_⟩;have v7:=u1.trans (u3.trans (u5.trans u7))
 refine⟨fun k vs=>∃b A l c b' A' l' c',vs=[.agg #[.bool b,.slice A l c],.agg #[.bool b',.slice A' l' c']]∧IntV k #[.bool b,.slice A l c] (y0*((2^kk:Nat):Int)) M∧IntV k #[.bool b',.slice A' l' c'] (y0*((2^kk:Nat):Int)) M,
  fun k8 u8=>⟨_,_,_,_,_,_,_,_,rfl,h3.up (u5.trans (u7.trans u8)),h7.up u8⟩,?_⟩
 rintro k9 vs u9 ⟨_,_,_,_,_,_,_,_,rfl,g0,g1⟩;refine⟨_,_,_,_,_,_,_,_,rfl,?_⟩;have v9:=v7.trans u9;refine⟨aIm w2 y1 kk (M+1) (y0*((2^kk:Nat):Int)) (y0*((2^kk:Nat):Int)),tA (J:=aIm w2 y1 kk (M+1) (y0*((2^kk:Nat):Int)) (y0*((2^kk:Nat):Int))) (sq:=2) (i1.up v9) g0 g1 aRu aXi oz rfl hK hkk oq oq fun k' b A l c b' A' l' c' x y _ r1 r2 r3=>⟨b,A,l,c,b',A',l',c',x,y,rfl,r1,r2,r3⟩,?_⟩;rintro k39 vs u39 ⟨_,_,_,_,_,_,_,_,x1,z1,rfl,r1,g0,g1⟩;refine⟨_,_,_,_,_,_,_,_,rfl,?_⟩;have v39:=v9.trans u39;refine⟨aIm w3 y2 kk (M+2) (y0*((2^kk:Nat):Int)+x1) (y0*((2^kk:Nat):Int)+z1),tA (J:=aIm w3 y2 kk (M+2) (y0*((2^kk:Nat):Int)+x1) (y0*((2^kk:Nat):Int)+z1)) (sq:=3) (i2.up v39) g0 g1 aRv aXj oz rfl hK hkk oq oq fun k' b A l c b' A' l' c' x y _ r1 r2 r3=>⟨b,A,l,c,b',A',l',c',x,y,rfl,r1,r2,r3⟩,?_⟩;rintro k69 vs u69 ⟨_,_,_,_,_,_,_,_,x2,z2,rfl,r2,g0,g1⟩;refine⟨_,_,_,_,_,_,_,_,rfl,?_⟩;have v69:=v39.trans u69;refine⟨aIm w6 y3 kk (M+3) (y0*((2^kk:Nat):Int)+x1+x2) (y0*((2^kk:Nat):Int)+z1+z2),tA (J:=aIm w6 y3 kk (M+3) (y0*((2^kk:Nat):Int)+x1+x2) (y0*((2^kk:Nat):Int)+z1+z2)) (sq:=6) (i3.up v69) g0 g1 aRw aXk oz rfl hK hkk oq oq fun k' b A l c b' A' l' c' x y _ r1 r2 r3=>⟨b,A,l,c,b',A',l',c',x,y,rfl,r1,r2,r3⟩,?_⟩;rintro k99 vs u99 ⟨_,_,_,_,_,_,_,_,x3,z3,rfl,r3,g0,g1⟩;refine⟨_,_,_,_,_,_,_,_,rfl,?_⟩;have v99:=v69.trans u99;refine eG (L:=K) (lx.up v99) hm hd hK1 oq fun k101 B j d1 u101 h101 l101=>⟨_,_,_,rfl,?_⟩;refine fN h101 oq oq fun k103 B2 j2 d2 u103 h103 l103=>⟨_,_,_,rfl,?_⟩;have hp:0<m*2^kk:=zb hm (ot kk);refine kW (K:=M+3) (g0.up (u101.trans u103)) h103 hp oq oq fun k105 d3 u105 h105=>⟨d3,h105.seg,rfl,?_⟩;refine kW (K:=M+3) (g1.up (u101.trans (u103.trans u105))) (h103.up u105) hp oq oq fun k107 d4 u107 h107=>⟨d4,h107.seg,rfl,fun k108 u108=>?_⟩;obtain⟨p1,p2,p3⟩:=aIt (y0:=y0) hm r1 r2 r3;have sm:=r1.small;have sm2:=r2.small;have sm3:=r3.small;have hpp:0<2^kk:=ot kk;have k0':y0.natAbs*2^kk+2^kk≤B64^K*2^kk:=by rw [←zd];exact om _ t0
 have kb:∀y:Int,y.natAbs<B64^K→3*y.natAbs*2^kk+3*2^kk≤3*(B64^K*2^kk):=fun y hy=>by
  have:=om (2^kk) (Nat.succ_le_of_lt hy);rw [zd]at this;rw [qf];omega
 have k1':=kb y1 t1;have k2':=kb y2 t2;have k3':=kb y3 t3;have ea:(y0*((2^kk:Nat):Int)).natAbs=y0.natAbs*2^kk:=by rw [wy,zi]
 refine C k108 d3 d4 _ _ (v99.trans (u101.trans (u103.trans (u105.trans (u107.trans u108))))) p1 p2 p3 (aHe (K:=K) hm ?_ tm oq (h105.up (u107.trans u108))) (aHe (K:=K) hm ?_ tm oq (h107.up u108))
 ·generalize y0*((2^kk:Nat):Int)=Y at *
  omega
 ·generalize y0*((2^kk:Nat):Int)=Y at *
  omega
theorem aVe {D N B:Nat}{lo hi:Rat}{bits:Nat}{least beyond:Int}(F:Fmt bits least beyond) (hf:IntForm v D N) (hN:N≤2^B) (hirr:¬ (v.b=0∧v.c=0∧v.d=0)) (hl:nn (v.sub (Q4.real lo))) (hh:nn ((Q4.real hi).sub v))
 (hg:hi-lo≤3*(N:Rat)*(1/((2^kk:Nat):Rat))) (hne:cV lo bits least beyond≠cV hi bits least beyond):kk≤5*B+4321:=by
 refine jg fun c=>hne (aEp F (aPd hl hh) fun z h1 h2=>c ?_);have:=aPb (G:=1075) hf hirr hl hh hg h1 h2 hN;omega
theorem aUp (h:irr v=false):¬ (v.b=0∧v.c=0∧v.d=0):=fun ⟨h1,h2,h3⟩=>by
 unfold irr at h;rw [decide_eq_true h1,decide_eq_true h2,decide_eq_true h3]at h;cases h
theorem aOh (h:irr v=true):v=Q4.real v.a:=by
 unfold irr at h;simp only [qo,decide_eq_true_eq]at h;exact Q4.ext' rfl h.1 h.2.1 h.2.2
theorem aDk {bits:Nat}{least beyond:Int}(F:Fmt bits least beyond) (hl0:least≤1000) (hx:SurdV k cs v K) (hK1:1≤K) (hK:K≤500) (C:∀k' W,Up k k'→Near4 v bits least beyond W→R k' (.float .f64 W)) :
 Cl k 161 #[.agg cs,.agg #[.int .i64 bits,.int .i64 least,.int .i64 beyond]] R:=by
 intro k0 u0;replace hx:=hx.up u0;replace C:=fun k' W u=>C k' W (u0.trans u);have hb:=hx.bel hK1;obtain⟨D,hf⟩:=hb.form;rw [uK]at hf;refine aMr hx.seg ⟨rfl,by simp [Value.scalar,Value.noWord]⟩ ?_;refine aDo hx oq fun k1 d1 u1 h1=>⟨d1,h1.seg,_,rfl,fun g=>?_,fun g=>?_⟩
 ·rw [od g]at h1;refine zU h1 oq F.bits F.low hl0 F.top fun k3 u3=>⟨_,rfl,fun k4 u4=>?_⟩;refine C k4 _ (u1.trans (u3.trans u4)) ?_;have:=Near4.real (bits:=bits) (least:=least) (beyond:=beyond) v.a
  rwa [←aOh g]at this
 ·have hirr:=aUp g;have one:(1:Rat)≤((2^(64*K):Nat):Rat):=by
   have:((1:Nat):Rat)≤((2^(64*K):Nat):Rat):=xh.2 (ot _);exact this
  refine⟨fun m k' vs=>∃kk:Nat,64≤kk∧kk≤2*(320*K+4321)∧m=640*K+8642-kk∧vs=[.int .i64 (kk:Int)],⟨640*K+8578,fun k' _=>⟨64,oq,oq,oq,rfl⟩⟩,?_⟩;rintro m k5 vs u5 ⟨kk,hk1,hk2,rfl,rfl⟩;refine⟨_,rfl,?_⟩;have hk3:kk≤1000000:=qb hk2 (qb (qu 2 (Nat.add_le_add_right (qu 320 hK) 4321)) oz);refine aIs (hx.up (u1.trans u5)) hK1 (qb hK oz) hk3 fun k7 d5 d6 lo hi u7 hlo hhi hg q5 q6=>⟨d5,q5.seg,d6,q6.seg,rfl,?_⟩;have hg':hi-lo≤3*((2^(64*K):Nat):Rat)*(1/((2^kk:Nat):Rat)):=by
   refine Rat.le_trans hg ?_;have hP:(0:Rat)<((2^kk:Nat):Rat):=vu.2 (ot kk);have:0≤1/((2^kk:Nat):Rat):=by rw [Rat.div_def,Rat.one_mul];exact wa (Rat.inv_pos.2 hP)
   refine vp ?_ this
   grind
  refine zU q5 oq F.bits F.low hl0 F.top fun k9 u9=>⟨_,rfl,?_⟩;refine zU (q6.up u9) oq F.bits F.low hl0 F.top fun k11 u11=>⟨_,rfl,?_⟩;have en:∀q:Rat,kI (decide (q.num<0)) q.num.natAbs q.den bits least beyond=cV q bits least beyond:=fun _=>rfl
  try dsimp only
  rw [en,en,show FloatKind.format .f64=double from rfl,aBk F];have v11:=u1.trans (u5.trans (u7.trans (u9.trans u11)));refine⟨fun f k12 u12=>?_,fun f k13 u13=>?_⟩
  ·have f:=ow f;exact C k12 _ (v11.trans u12) ⟨lo,hi,hlo,hhi,rfl,f.symm⟩
  ·have f:=ov f;have:=aVe F hf (oy _) hirr hlo hhi hg' f;refine⟨640*K+8642-2*kk,oq,2*kk,oq,oq,rfl,?_⟩;rw [show wrap .i64 ((kk:Int)*2)=((2*kk:Nat):Int) by rw [qt];omega]
end
section
variable {k k':World}{R:World→Value→Prop}{x q:Rat}{K L:Nat}{cs cs':Array Value}{v:Q4}
end
