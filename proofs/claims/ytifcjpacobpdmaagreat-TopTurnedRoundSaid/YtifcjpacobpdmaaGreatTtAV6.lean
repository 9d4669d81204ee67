/- Several texts in one. (Printed by prep.py.) -/
import Derived.Test.YtifcjpacobpdmaaGreatTtOM
import Derived.Test.YtifcjpacobpdmaaGreatTtTU
import Derived.Great.Walk
import Derived.Laws.ResultCell
import Derived.Laws.Rows
import Derived.Deep.AppendLies
set_option maxHeartbeats 2000000
set_option maxRecDepth 100000
namespace Go.Proofs.YtifcjpacobpdmaaGreat
open IntKind (wrap)
open Go.RowKit
open Value (agg slice int bool tuple)
open Sy (Up Sees CallsG Seg execFn_use)
set_option maxRecDepth 100000
variable {k:World}{R:World→Value→Prop}{A0:Option Addr}{c0 l0:Nat}{n1:Int}
theorem aBa {n0:Nat}
 (h:∀n1,Sy.F2F .f32 .f64 n0 n1→
 Cl k 127 #[Value.float .f64 n1,int .i64 0] fun k1 r0=>Gb r0 fun b2=>
 Br (!b2) (∀n3,Sy.F2F .f32 .f64 n0 n3→
 Cl k1 128 #[Value.float .f64 n3] fun k3 r2=>Gb r2 fun b4=>
 Rt R k3 (bool (!b4))) (Rt R k1 (bool false))) :
  CallsG Tryz.prog 170 #[Value.float .f32 n0] k R:=
  qX { opq:=[],nanc:=true } [.one (.var 0)] [Value.float .f32 n0] [.flt .f32] ⟨⟨_,rfl⟩,trivial⟩ h
def aUq (z:Nat) (k:World) (R:World→Value→Prop) (A0:Option Addr) (l0 c0:Nat):Prop:=
 Cl k 87 #[] fun k1 r0=>Gt 288 r0 fun cs1=>
 Cl k1 88 #[slice A0 l0 c0,int .i64 (z:Nat)] fun k3 r2=>Gi r2 fun n2=>
 Br ((n2:Int) != 0) (Rt R k3 (tuple #[agg cs1,int .i64 n2])) (Tt∧(Cl k3 89 #[int .i64 (wrap .i64 (Int.tdiv (l0:Nat) 24))] fun k6 r5=>Gt 3 r5 fun cs3=>
 ∃I7:Nat→World→List Value→Prop,(∃m7,∀k7,Up k6 k7→I7 m7 k7 [int .i64 0,agg cs1])∧
 ∀m7 k7 vs7,Up k6 k7→I7 m7 k7 vs7→∃n4,∃cs5,Seg 288 cs5∧some [int .i64 n4,agg cs5]=some vs7∧
 Br (decide ((n4:Int)<24)) (Cl k7 89 #[int .i64 0] fun k9 r8=>Gt 3 r8 fun cs6=>
 ∃I10:Nat→World→List Value→Prop,(∃m10,∀k10,Up k9 k10→I10 m10 k10 [int .i64 n4,agg cs6])∧
 ∀m10 k10 vs10,Up k9 k10→I10 m10 k10 vs10→∃n7,∃cs8,Seg 3 cs8∧some [int .i64 n7,agg cs8]=some vs10∧
 Tt∧(Br (decide ((n7:Int)<(l0:Nat))) (Ad A0∧Ix n7 l0∧
 Ad A0∧Ix n7 l0∧
 ∃n9:Nat,Sy.ReadAt k10.cell? A0 (Int.toNat n7*3+z) 1 (Value.float .f32 n9)∧
 Cl k10 83 #[Value.float .f32 n9] fun k12 r11=>Gt 3 r11 fun cs10=>
 Cl k12 90 #[agg cs8,agg cs10] fun k14 r13=>Gt 3 r13 fun cs11=>
 ∀k15,Up k14 k15→∃m,m<m10∧I10 m k15 [int .i64 (wrap .i64 (n7+24)),agg cs11]) (Cl k10 91 #[agg cs8,agg cs3] fun k17 r16=>Gt 3 r16 fun cs9=>
 Cl k17 82 #[agg cs9] fun k19 r18=>Gt 12 r18 fun cs10=>
 (decide ((0:Int)≤n4∧(n4:Int)<24))=true∧
 (∀k20,Up k19 k20→∃m,m<m7∧I7 m k20 [int .i64 (wrap .i64 (n4+1)),agg (Sy.over cs5 (Int.toNat n4*12+0) cs10.toList)])))) (Rt R k7 (tuple #[agg cs5,int .i64 0]))))
def aWb (z:Nat) (k:World) (R:World→Value→Prop) (A0:Option Addr) (l0 c0:Nat):Prop:=
 Cl k 88 #[slice A0 l0 c0,int .i64 (z:Nat)] fun k1 r0=>Gi r0 fun n1=>
 Br ((n1:Int) != 0) (Cl k1 89 #[int .i64 0] fun k3 r2=>Gt 3 r2 fun cs2=>
 Rt R k3 (tuple #[agg cs2,int .i64 n1])) (Cl k1 89 #[int .i64 0] fun k6 r5=>Gt 3 r5 fun cs2=>
 ∃I7:Nat→World→List Value→Prop,(∃m7,∀k7,Up k6 k7→I7 m7 k7 [int .i64 0,agg cs2])∧
 ∀m7 k7 vs7,Up k6 k7→I7 m7 k7 vs7→∃n3,∃cs4,Seg 3 cs4∧some [int .i64 n3,agg cs4]=some vs7∧
 Tt∧(Br (decide ((n3:Int)<(l0:Nat))) (∃I8:Nat→World→List Value→Prop,(∃m8,∀k8,Up k7 k8→I8 m8 k8 [int .i64 (Int.tmod n3 24),agg cs4])∧
 ∀m8 k8 vs8,Up k7 k8→I8 m8 k8 vs8→∃n5,∃cs6,Seg 3 cs6∧some [int .i64 n5,agg cs6]=some vs8∧
 Tt∧(Br (decide ((n5:Int)<(l0:Nat))) (Ad A0∧Ix n3 l0∧
 Ad A0∧Ix n3 l0∧
 ∃n7:Nat,Sy.ReadAt k8.cell? A0 (Int.toNat n3*3+z) 1 (Value.float .f32 n7)∧
 Ad A0∧Ix n5 l0∧
 Ad A0∧Ix n5 l0∧
 ∃n8:Nat,Sy.ReadAt k8.cell? A0 (Int.toNat n5*3+z) 1 (Value.float .f32 n8)∧
 Cl k8 83 #[Value.float .f32 n7] fun k10 r9=>Gt 3 r9 fun cs9=>
 Cl k10 83 #[Value.float .f32 n8] fun k12 r11=>Gt 3 r11 fun cs10=>
 Cl k12 92 #[agg cs9,agg cs10] fun k14 r13=>Gt 3 r13 fun cs11=>
 Cl k14 93 #[agg cs11,agg cs6] fun k16 r15=>Gi r15 fun n12=>
 Br (decide ((n12:Int) > 0)) (∀k17,Up k16 k17→∃m,m<m8∧I8 m k17 [int .i64 (wrap .i64 (n5+24)),agg cs11]) (∀k18,Up k16 k18→∃m,m<m8∧I8 m k18 [int .i64 (wrap .i64 (n5+24)),agg cs6])) (∀k19,Up k8 k19→∃m,m<m7∧I7 m k19 [int .i64 (wrap .i64 (n3+1)),agg cs6]))) (Rt R k7 (tuple #[agg cs4,int .i64 0]))))
theorem yJ 
 (h:Cl k 85 #[slice A0 l0 c0,int .i64 n1] fun k1 r0=>∃cs2,Seg 24 cs2∧∃n3,some (tuple #[agg cs2,int .i64 n3])=some r0∧
 Br ((n3:Int) != 0) (Rt R k1 (tuple #[agg (pX 24 zS),int .i64 n3])) (∃I3:Nat→World→List Value→Prop,(∃m3,∀k3,Up k1 k3→I3 m3 k3 [int .i64 0,agg (pX 24 zS)])∧
 ∀m3 k3 vs3,Up k1 k3→I3 m3 k3 vs3→∃n4,∃cs5,Seg 216 cs5∧some [int .i64 n4,agg cs5]=some vs3∧
 Br (decide ((n4:Int)<24)) ((decide ((0:Int)≤n4∧(n4:Int)<24))=true∧
 (∃A6 l6 c6,Sy.celD cs2 (Int.toNat n4*1)=some (slice A6 l6 c6)∧
 Cl k3 60 #[int .i64 0] fun k5 r4=>Gt 3 r4 fun cs7=>
 Tt∧(∃I6:Nat→World→List Value→Prop,(∃m6,∀k6,Up k5 k6→I6 m6 k6 [int .i64 0,agg cs7])∧
 ∀m6 k6 vs6,Up k5 k6→I6 m6 k6 vs6→∃n8,∃cs9,Seg 3 cs9∧some [int .i64 n8,agg cs9]=some vs6∧
 Br (decide ((n8:Int)<(l6:Nat))) (El k6 A6 n8 l6 3 fun cs10=>
 Cl k6 58 #[agg cs9,agg cs10] fun k8 r7=>Gt 3 r7 fun cs11=>
 ∀k9,Up k8 k9→∃m,m<m6∧I6 m k9 [int .i64 (wrap .i64 (n8+1)),agg cs11]) (Tt∧(Cl k6 60 #[int .i64 (l6:Nat)] fun k11 r10=>Gt 3 r10 fun cs10=>
 Cl k11 86 #[agg cs9,agg cs10] fun k13 r12=>∃cs11,Seg 3 cs11∧∃n12,some (tuple #[agg cs11,int .i64 n12])=some r12∧
 Cl k13 38 #[agg #[bool false,slice none 0 0,bool false,slice none 0 0,bool false,slice none 0 0,bool false,slice none 0 0,slice none 0 0],agg cs11] fun k15 r14=>Gt 9 r14 fun cs13=>
 (decide ((0:Int)≤n4∧(n4:Int)<24))=true∧
 (∀k16,Up k15 k16→∃m,m<m3∧I3 m k16 [int .i64 (wrap .i64 (n4+1)),agg (Sy.over cs5 (Int.toNat n4*9+0) cs13.toList)])))))) (Rt R k3 (tuple #[agg cs5,int .i64 0])))) :
   CallsG Tryz.prog 22 #[slice A0 l0 c0,int .i64 n1] k R:=
  qY { opq:=[80,35,88,218],loops:=[(0,[.tmp 27 false [.int .i64],.blk 2 [.seg 216]]),(2,[.tmp 34 false [.int .i64],.blk 3 [.seg 3]])] } h
end Go.Proofs.YtifcjpacobpdmaaGreat

namespace Go.Proofs.YtifcjpacobpdmaaGreat
open Go.RowKit Num Ieee FT W32
open Sy (Up Sees CallsG Seg RowC)
section
variable {k k':World}{R:World→Value→Prop}{w v n:Nat}
theorem aPb (h:w<2^64) (C:∀k',Up k k'→R k' (.bool (decide (¬ cX w<2047∧dF w≠0)))):Cl k 128 #[.float .f64 w] R:=by
 intro k0 u0;have hr:=lT h;refine iD fun k1 u1=>?_;have:=C k1 (u0.trans u1);have e:(double.order w w != some Ordering.eq)=decide (¬ cX w<2047∧dF w≠0):=by
  by_cases hE:cX w<2047
  ·rw [og hE]at hr;rw [aKk hr,decide_eq_false (fun c=>c.1 hE)];rfl
  ·by_cases hf:dF w=0
   ·have h2:cX w=2047:=by have:=rD w;omega
    rw [decide_eq_false (fun c=>c.2 hf),rM h h2 hf];generalize eT w=s;revert s;decide +kernel
   ·rw [oh hE,oh hf]at hr;rw [uD hr,decide_eq_true ⟨hE,hf⟩];rfl
 rw [show FloatKind.format .f64=double from rfl,e];exact this
theorem aPa (h:w<2^64) (C:∀k' b,Up k k'→(cX w<2047→b=false)→(¬ cX w<2047→dF w=0→b=true)→R k' (.bool b)):Cl k 127 #[.float .f64 w,.int .i64 0] R:=by
 intro k0 u0
 by_cases hE:cX w<2047
 ·by_cases hm:kT w=0
  ·have e:w=double.nearest (eT w) 0 0:=by
    have hr:w % 2^63=0:=by
     rw [mY];unfold kT at hm;split at hm
     ·rename_i g;rw [g,hm]
     ·have:=qy 52;omega
    have:=nK h;rw [hr]at this;rw [this];generalize eT w=s;have k2:∀s,eT (double.word s 0)=s:=by decide +kernel
    rw [k2];unfold Format.nearest;rw [og rfl]
   replace C:=fun k' u=>C k' false u (fun _=>rfl) fun c=>absurd hE c;rw [e];clear e;generalize eT w=s;have f2:(Format.order double (double.nearest false 0 0) 9218868437227405311 == some Ordering.gt)=false:=by decide +kernel
   refine fY ⟨fun _=>lK fun k4 u4=>⟨_,rfl,fun k5 u5=>?_⟩,fun f=>by cases f⟩;rw [show FloatKind.format .f64=double from rfl,f2];exact C k5 (u0.trans (u4.trans u5))
  ·obtain⟨e,hh⟩:=uU h hE hm;replace C:=fun k' u=>C k' false u (fun _=>rfl) fun c=>absurd hE c;rw [e];clear e;generalize eT w=s;generalize kT w=m at *
   generalize vZ w=p at *
   exact mK hh C k0 u0
 ·by_cases hf:dF w=0
  ·have h2:cX w=2047:=by have:=rD w;omega
   have e:=rM h h2 hf;replace C:=fun k' u=>C k' true u (fun c=>absurd c hE) fun _ _=>rfl;rw [e];clear e;generalize eT w=s;have f2:(Format.order double (double.nearest false 1 5000) 9218868437227405311 == some Ordering.gt)=true:=by decide +kernel
   refine fY ⟨fun _=>lK fun k4 u4=>⟨_,rfl,fun k5 u5=>?_⟩,fun f=>by cases f⟩;rw [show FloatKind.format .f64=double from rfl,f2];exact C k5 (u0.trans (u4.trans u5))
  ·refine fY ⟨fun _ k4 u4=>aDb fun k5 u5=>⟨_,rfl,fun k6 u6=>?_⟩,fun f=>by cases f⟩;exact C k6 _ (u0.trans (u4.trans (u5.trans u6))) (fun c=>absurd c hE) fun _ c=>absurd c hf
theorem xQ (h:v<2^32) (hE:¬ cO v<255) (hc:Sy.F2F .f32 .f64 v n):dF n=0↔gG v=0:=by
 have hr:=iW h;rw [oh hE]at hr;have hE2:cO v=255:=by have:=rE v;omega
 by_cases hf:gG v=0
 ·have e:=iK h;rw [iH,hE2,hf]at e;have key:∀s,Sy.f2fOk .f32 .f64 (single.word s (255*2^23+0))=true∧dF (Sy.f2f .f32 .f64 (single.word s (255*2^23+0)))=0:=by decide +kernel
  obtain⟨k1,k2⟩:=key (fT v);rw [←e]at k1 k2;rcases hc with ⟨_,rfl⟩|⟨c,_⟩
  ·exact⟨fun _=>hf,fun _=>k2⟩
  ·rw [k1]at c;cases c
 ·rw [oh hf]at hr;have hd:FloatKind.decode .f32 v=.nan (fT v) (gG v):=hr;rcases hc with ⟨c,_⟩|⟨_,t,c⟩
  ·unfold Sy.f2fOk at c;rw [hd]at c;cases c
  ·rw [hd,og (by rfl)]at c;subst c;have e:Question.cut (.nanConv .f64 v) t=(t % 2)*9223372036854775808+9218868437227405312+1+(t/2) % 4503599627370495:=rfl;rw [e];have hb:t/2 % 4503599627370495<4503599627370495:=qp _ oz;generalize t % 2=a at *
   generalize t/2 % 4503599627370495=b at *
   refine⟨fun g=>?_,fun g=>absurd g hf⟩;unfold dF at g;rw [show (2:Nat)^52=4503599627370496 from rfl]at g;omega
theorem gB (h:v<2^32) (C:∀k',Up k k'→R k' (.bool (decide (cO v<255)))):Cl k 170 #[.float .f32 v] R:=by
 intro k0 u0;refine aBa fun n1 hc=>?_;obtain⟨h1,h2,_⟩:=vG h hc;refine aPa h1 fun k1 b u1 g1 g2=>⟨_,rfl,fun hb n3 hc3=>?_,fun hb k5 u5=>?_⟩
 ·obtain⟨h3,h4,_⟩:=vG h hc3;refine aPb h3 fun k3 u3=>⟨_,rfl,fun k4 u4=>?_⟩;have:=C k4 (u0.trans (u1.trans (u3.trans u4)));have e:(!decide (¬ cX n3<2047∧dF n3≠0))=decide (cO v<255):=by
   by_cases hE:cO v<255
   ·rw [decide_eq_true hE,decide_eq_false (fun c=>c.1 (h4.2 hE))];rfl
   ·have hn:¬ cX n1<2047:=fun c=>hE (h2.1 c);have hf:dF n1≠0:=fun c=>by rw [g2 hn c]at hb;cases hb
    have hf3:dF n3≠0:=fun c=>hf ((xQ h hE hc).2 ((xQ h hE hc3).1 c));rw [decide_eq_false hE,decide_eq_true ⟨fun c=>hE (h4.1 c),hf3⟩];rfl
  rw [e];exact this
 ·have:=C k5 (u0.trans (u1.trans u5));have hE:¬ cO v<255:=fun c=>by rw [g1 (h2.2 c)]at hb;cases hb
  rwa [decide_eq_false hE]at this
end
open IntKind (wrap)
open Go.RowKit Num Plain W32 FT
open Sy (Up Sees CallsG Seg RowC ReadAt cellAt)
def SmpV (a:Array Value) (g:Nat→Nat):Prop:=a=#[.float .f32 (g 0),.float .f32 (g 1),.float .f32 (g 2)]∧g 0<2^32∧g 1<2^32∧g 2<2^32
def fin3 (g:Nat→Nat):Bool:=decide (cO (g 0)<255) && (decide (cO (g 1)<255) && decide (cO (g 2)<255))
def dR (n:Nat) (z:Int) (f:Nat→Nat→Nat):Int:=if z<0∨2<z then 1 else if n=0∨n % 24≠0∨1536<n then 4 else if ∀i,i<n→fin3 (f i)=true then 0 else 1
def aCb (g:Nat→Rat):Nat→Rat
 | 0=>0
 | n+1=>aCb g n+g n
def rdV (f:Nat→Nat→Nat) (z:Nat) (j t:Nat):Rat:=lP (f (24*t+j) z)
def tT (q:Nat→Nat→Rat) (T:Nat) (j:Nat):Q4:=Q4.real (aCb (q j) T/(T:Int))
def RowsV (k:World) (cs:Array Value) (T:Nat) (q:Nat→Nat→Rat):Prop:=∀j:Nat,j<24→∃A c,Sy.celD cs (Int.toNat (j:Int)*1)=some (.slice A T c)∧T≤c∧Els k A T 3 (fun a v=>RatV k a v 1200) (q j)
structure Mx (D:Rat→Prop) (M:Rat):Prop where
 nonneg:0≤M
 le:∀d,D d→d≤M
 is:M=0∨D M
theorem aWw {j:Nat}(h:j<1000000):wrap .i64 ((j:Int)+1)=((j+1:Nat):Int):=by rw [jv];omega
section
variable {k k':World}{R:World→Value→Prop}{A:Option Addr}{n c:Nat}{f:Nat→Nat→Nat}{z:Int}{cs:Array Value}{q:Nat→Nat→Rat}{T:Nat}
def kS (t:Nat):Nat:=1201*2^t-1
def aAa:Prop:=∀ {k:World}{R:World→Value→Prop}{A:Option Addr}{n c:Nat}{f:Nat→Nat→Nat}{z:Int}(_:Els k A n 3 SmpV f) (_:n<1000000)
 (_:∀k' cs,Up k k'→Seg 24 cs→(dR n z f=0→RowsV k' cs (n/24) (rdV f z.toNat))→R k' (.tuple #[.agg cs,.int .i64 (dR n z f)])),
 Cl k 85 #[.slice A n c,.int .i64 z] R
theorem RowsV.up (h:RowsV k cs T q) (u:Up k k'):RowsV k' cs T q:=fun j hj=>by
 obtain⟨A,c,h1,h2,h3⟩:=h j hj;exact⟨A,c,h1,h2,(h3.up u).mono fun _ _ h=>h.up u⟩
theorem Els.rat {g:Nat→Rat}(h:Els k A n 3 (fun a v=>RatV k a v 1200) g) {i:Nat}(hi:i<n) (u:Up k k'):(∃b o,A=some ⟨b,o,none⟩)∧((0:Int)≤(i:Int)∧((i:Int):Int)<(n:Nat))∧∃a,RatV k' a (g i) 1200∧ReadAt k'.cell? A (Int.toNat (i:Int)*3+0) 3 (.agg a):=by
 obtain⟨a,h1,h2,h3,h4⟩:=h.el hi oz;exact⟨h3,⟨oq,oq⟩,a,h2.up u,h4 k' u 0 3 _ h1 fun q v hv=>by rw [qe];exact hv⟩
theorem aKw (T:Nat):(((T:Nat):Int):Rat)=0↔T=0:=by
 constructor
 ·intro h;have:(((T:Nat):Int):Rat)=((0:Int):Rat):=h;have:=Rat.intCast_inj.1 this;omega
 ·rintro rfl;rfl
end
def DP (q:Nat→Nat→Rat) (T j:Nat) (d:Rat):Prop:=∃p,p<j∧∃s,s<T∧∃t,t<T∧d=q p s-q p t
structure Ext (g:Nat→Rat) (t:Nat) (lo hi:Rat):Prop where
 isLo:∃s,s<t∧lo=g s
 isHi:∃s,s<t∧hi=g s
 le:∀s,s<t→lo≤g s∧g s≤hi
section
variable {k k':World}{R:World→Value→Prop}{A:Option Addr}{n c:Nat}{f:Nat→Nat→Nat}{z:Int}{cs:Array Value}{q:Nat→Nat→Rat}{T:Nat}
end
section
variable {k k':World}{R:World→Value→Prop}{A:Option Addr}{n c:Nat}{f:Nat→Nat→Nat}{z:Int}{cs:Array Value}{q:Nat→Nat→Rat}{T:Nat}
theorem aTa {n:Nat}{z:Int}{f:Nat→Nat→Nat}(h:¬ (0≤z∧z≤2)):dR n z f=1:=by
 unfold dR;exact og oq
def DR (q:Nat→Nat→Rat) (T i t:Nat) (d:Rat):Prop:=∃a s,a<24*T∧s<T∧(a<i∨a=i∧s<t)∧d=q (a % 24) (a/24)-q (a % 24) s
end
open Sy (Up Sees CallsG Seg RowC RowI RowOk RowsOk Core Went Env LK dead)
namespace Rd
def rho (g h:Nat) (vs:Nat→Value) (XS:Nat→Array Value):Env where
 val i:=if i<48 then (if i % 2=0 then some (vs (i/2)) else some (.agg (XS (i/2)))) else none
 blk b:=if b=0 then some g else if b=1 then some h else none
 kd i:=if i<48 then (if i % 2=0 then some .slice else some .row) else none
def rI (j:Nat):RowI:=⟨2*j,2*j+1,88,3⟩
def rws:List RowI:=(List.range 24).map rI
def dI {α:Type}(f:Nat→α) (j:Nat) (v:α) (i:Nat):α:=if i=j then v else f i
def cel24 (vs:Nat→Value):Array Value:=((List.range 24).map vs).toArray
section
variable {g h j i:Nat}{vs:Nat→Value}{XS:Nat→Array Value}{v:Value}{xs:Array Value}{k0 w0 k w k' w':World}{P:Program}
theorem eH {r:RowI}:r∈rws↔∃j,j<24∧r=rI j:=by
 unfold rws;rw [vk];constructor
 ·rintro⟨j,hj,rfl⟩;exact⟨j,xh.1 hj,rfl⟩
 ·rintro⟨j,hj,rfl⟩;exact⟨j,xh.2 hj,rfl⟩
theorem aKv (e:rI i=rI j):i=j:=by
 unfold rI at e;injection e with e;omega
theorem pO (hj:j<24):(rho g h vs XS).val (rI j).v=some (vs j):=by
 show (if 2*j<48 then (if 2*j % 2=0 then some (vs (2*j/2)) else _) else none)=_;rw [og oq,og oq,show 2*j/2=j by omega]
theorem uT (hj:j<24):(rho g h vs XS).val (rI j).x=some (.agg (XS j)):=by
 show (if 2*j+1<48 then (if (2*j+1) % 2=0 then _ else some (Value.agg (XS ((2*j+1) / 2)))) else none)=_;rw [og oq,oh oq,show (2*j+1) / 2=j by omega]
theorem aPc (hj:j<24):(rho g h vs XS).kd (rI j).v=some .slice:=by
 show (if 2*j<48 then (if 2*j % 2=0 then _ else _) else none)=_;rw [og oq,og oq]
theorem aPd (hj:j<24):(rho g h vs XS).kd (rI j).x=some .row:=by
 show (if 2*j+1<48 then (if (2*j+1) % 2=0 then _ else _) else none)=_;rw [og oq,oh oq]
theorem lI (hj:j<24):(cel24 vs)[j]?=some (vs j):=by
 unfold cel24;rw [yy,jm,zm hj];rfl
theorem aOm (hj:j<24):(cel24 vs).setIfInBounds j v=cel24 (dI vs j v):=by
 apply zi;intro i;rw [qj];have hz:∀vs,(cel24 vs).size=24:=fun vs=>by simp [cel24]
 by_cases e:j=i
 ·subst e;rw [og rfl,og (by rw [hz];exact hj),lI hj];simp [dI]
 ·rw [oh e]
  by_cases hi:i<24
  ·rw [lI hi,lI hi,dI,oh (Ne.symm e)]
  ·rw [qi (by rw [hz];omega),qi (by rw [hz];omega)]
theorem yZ {ρ ρ':Env}{base:Nat}{r r':RowI}(h:RowOk ρ base k w r) (e1:ρ'.val r'.v=ρ.val r.v) (e2:ρ'.val r'.x=ρ.val r.x) (e3:ρ'.kd r'.v=ρ.kd r.v) (e4:ρ'.kd r'.x=ρ.kd r.x) (e5:ρ'.blk=ρ.blk) (e6:r'.ty=r.ty) (e7:r'.s=r.s):RowOk ρ' base k w r':=by
 unfold RowOk at h ⊢;rw [e1,e2,e3,e4,e5,e6,e7];exact h
theorem xC {ρ ρ':Env}{r r':RowI}(e1:ρ'.val r'.v=ρ.val r.v):Sy.blockOf ρ' r'=Sy.blockOf ρ r:=by
 unfold Sy.blockOf;rw [e1]
structure Grid (k0 w0 k w:World) (g h:Nat) (vs:Nat→Value) (XS:Nat→Array Value):Prop where
 core:Core (rho g h vs XS) k0 w0 k w rws
 out:Sy.Blk w g 218 (cel24 vs)
 od:k.heap[g]?=some dead
 res:Sy.Blk w h 218 (cel24 fun _=>.slice none 0 0)
 rd:k.heap[h]?=some dead
 ne:g≠h
 lo:w0.heap.size≤g∧w0.heap.size≤h
 rowC:∀j,j<24→RowC (XS j)
theorem Grid.step (G:Grid k0 w0 k w g h vs XS) (s:Sees k' w') (b1:Below k.heap.size k k') (b2:Below w.heap.size w w'):Grid k0 w0 k' w' g h vs XS:=by
 have hk:∀q:Nat,k.heap[q]?=some dead→k'.heap[q]?=some dead:=fun q hq=>(b1.block q (Sy.heap_lt hq)).trans hq
 refine⟨⟨s,G.core.base,G.core.kb.trans (b1.mono G.core.kb.size),G.core.wb.trans (b2.mono G.core.wb.size),fun b n hb=>oa (G.core.lt b n hb) b2.size,G.core.rows.mono (Env.le.refl _) (fun b g hb _=>⟨b,hb⟩) (fun q hq _=>hk q hq) fun q hq _=>b2.block q hq⟩,
  (b2.block g G.out.lt).trans G.out,hk _ G.od,(b2.block h G.res.lt).trans G.res,hk _ G.rd,G.ne,G.lo,G.rowC⟩
theorem Grid.drew (G:Grid k0 w0 k w g h vs XS) (n:Nat):Grid k0 w0 k { w with drawn:=n } g h vs XS:=by
 obtain⟨⟨s,c1,c2,c3,c4,c5⟩,g1,g2,g3,g4,g5,g6,g7⟩:=G;exact⟨⟨⟨s.os,s.tape,s.output,s.size,s.live,s.dark⟩,c1,c2,⟨c3.os,c3.tape,c3.output,c3.size,c3.block⟩,c4,⟨c5.ok,c5.dist⟩⟩,g1,g2,g3,g4,g5,g6,g7⟩
theorem Grid.alloc (G:Grid k0 w0 k w g h vs XS) {us:List Value}(hu:∀u∈us,u.noWord=true) (ty:TypeId):∃k',Up k k'∧Grid k0 w0 k' (w.alloc (.cells us.toArray ty)) g h vs XS:=by
 obtain⟨k',s1,s2,s3,s4,_⟩:=Sy.alloc_world G.core.sees hu ty;exact⟨k',s2,G.step s1 s3 s4⟩
theorem rJ (hs:Sees k w) (hl:∀u∈(cel24 fun _=>Value.slice none 0 0).toList,u.noWord=true) :
 ∃k',Up k k'∧Grid k w k' ((w.alloc (.cells (cel24 fun _=>.slice none 0 0) 218)).alloc (.cells (cel24 fun _=>.slice none 0 0) 218)) (w.heap.size+1) w.heap.size (fun _=>.slice none 0 0) fun _=>#[]:=by
 obtain⟨k1,s1,s2,s3,s4,s5⟩:=Sy.alloc_world hs hl 218;obtain⟨k2,t1,t2,t3,t4,t5⟩:=Sy.alloc_world s1 hl 218;rw [zj]at s1 s4 t1 t4;have hz:({ w with heap:=w.heap.push (.cells (cel24 fun _=>.slice none 0 0) 218) }:World).heap.size=w.heap.size+1:=by simp
 rw [hz]at t5;have B1:Sy.Blk { w with heap:=w.heap.push (.cells (cel24 fun _=>.slice none 0 0) 218) } w.heap.size 218 (cel24 fun _=>.slice none 0 0):=by unfold Sy.Blk;simp
 refine⟨k2,s2.trans t2,⟨⟨t1,hs.size.symm,s3.trans (t3.mono s3.size),s4.trans (t4.mono s4.size),fun b n hb=>?_,?_,?_⟩,?_,t5,?_,?_,oq,⟨oq,oy _⟩,fun _ _=>fun u hu=>by cases hu⟩⟩
 ·have:n=w.heap.size+1∨n=w.heap.size:=by
   have hb':(if b=0 then some (w.heap.size+1) else if b=1 then some w.heap.size else none)=some n:=hb;split at hb'
   ·injection hb' with e;omega
   ·split at hb'
    ·injection hb' with e;omega
    ·cases hb'
  simp;omega
 ·intro r hr;obtain⟨j,hj,rfl⟩:=eH.1 hr;exact⟨none,0,0,#[],pO hj,uT hj,aPc hj,aPd hj,Nat.succ_pos 2,rfl,oy _,.inl ⟨rfl,rfl⟩⟩
 ·intro r hr r' hr' hne q hq;obtain⟨j,hj,rfl⟩:=eH.1 hr;unfold Sy.blockOf at hq;rw [pO hj]at hq;cases hq
 ·unfold Sy.Blk;have:({ w with heap:=w.heap.push (.cells (cel24 fun _=>.slice none 0 0) 218) }:World).heap.size=w.heap.size+1:=by simp
  show (Array.push _ _)[w.heap.size+1]?=_;rw [vd,og (by simp)]
 ·exact (t4.block _ (by simp)).trans B1
 ·exact (t3.block _ (Sy.heap_lt s5)).trans s5
theorem rho_le {A:Option Addr}{n c:Nat}:(rho g h vs XS).le ((rho g h vs XS).ext 48 [.slice,.row] [.slice A n c,.agg xs]):=by
 refine⟨fun i v hv=>?_,fun _ _ hb=>hb,fun i v hv=>?_,fun _ _ hm=>hm⟩
 ·show (if i<48 then _ else _)=_
  by_cases e:i<48
  ·rw [og e];exact hv
  ·rw [show (rho g h vs XS).val i=none from oh e]at hv;cases hv
 ·show (if i<48 then _ else _)=_
  by_cases e:i<48
  ·rw [og e];exact hv
  ·rw [show (rho g h vs XS).kd i=none from oh e]at hv;cases hv
theorem aSr {b n:Nat}(hb:(rho g h vs XS).blk b=some n):n=g∨n=h:=by
 have hb':(if b=0 then some g else if b=1 then some h else none)=some n:=hb;split at hb'
 ·injection hb' with e;exact .inl e.symm
 ·split at hb'
  ·injection hb' with e;exact .inr e.symm
  ·cases hb'
theorem Grid.app (G:Grid k0 w0 k w g h vs XS) (hj:j<24) {t ty:TypeId}{i:TypeInfo}{z:Value}(ht:P.underlying t=some (.slice 88)) (hi:P.info? 88=some i) (hz:i.zero=some z) (hsz:i.size=3) (hzs:z.cells.size=3) (hib:i.bytes≤1000)
 (hzw:∀u∈z.cells.toList,u.noWord=true) {A:Option Addr}{B:Addr}{n c:Nat}{news:List Value}(hv:vs j=.slice A n c) (hl:news.length=3) (hn:n≤1000000)
 (hnews:∀(j:Nat) u,news[j]?=some u→w.cell? (B.add j)=some u) (hsc:∀u∈news,u.scalar=true∧u.noWord=true) :
 ∃A' c' w' k',(Builtin.append_ #[t,t] ty #[.slice A n c,.slice (some B) 1 1]).run P w=.ok (.slice A' (n+1) c') w'∧Up k k'∧Sy.Blk w' g 218 (cel24 vs)∧w.heap.size≤w'.heap.size∧
  Grid k0 w0 k' (w'.setCell ⟨g,j,none⟩ (.slice A' (n+1) c')) g h (dI vs j (.slice A' (n+1) c')) (dI XS j (XS j++news.toArray)):=by
 have hok:=G.core.rows.ok (rI j) (eH.2 ⟨j,hj,rfl⟩);have hmem:rI j∈rws:=eH.2 ⟨j,hj,rfl⟩;obtain⟨A',c',w',k',h1,h2,W⟩:=G.core.app (n0:=48) (rows0:=rws.filter fun q=>decide (q≠rI j)) (ty:=ty) (m:=1) (c2:=1) (B:=some B) (news:=news) (xs:=XS j) hmem (fun q hq=>by rw [List.mem_filter]at hq;exact⟨hq.1,ow hq.2⟩)
  ht hi hz hsz hzs hzw ((pO hj).trans (congrArg some hv)) (uT hj) (by rw [hl];rfl) (fun e=>by cases e) (fun b e=>by cases e;exact hnews) hsc ⟨by have:=xr hib (show n+1≤1000001 by omega);omega,oq⟩ (G.rowC j hj) fun A' c'=>rho_le
 have Bo:Sy.Blk w' g 218 (cel24 vs):=(W.hw 0 g rfl).trans G.out;have Br:Sy.Blk w' h 218 (cel24 fun _=>.slice none 0 0):=(W.hw 1 h rfl).trans G.res;refine⟨A',c',w',k',h1,W.up,Bo,W.sz,?_⟩;rw [Sy.setCell_putBlk Bo,aOm hj];have hk:∀q:Nat,k.heap[q]?=some dead→k'.heap[q]?=some dead:=fun q hq=>(W.kbl.block q (Sy.heap_lt hq)).trans hq;have hnw:∀u∈(cel24 (dI vs j (.slice A' (n+1) c'))).toList,u.noWord=true:=by
  intro u hu;unfold cel24 at hu;simp only [vk,xh]at hu;obtain⟨i,hi,rfl⟩:=hu;unfold dI;split
  ·rfl
  ·obtain⟨A1,n1,c1,_,q1,_⟩:=G.core.rows.ok (rI i) (eH.2 ⟨i,hi,rfl⟩);rw [pO hi]at q1;injection q1 with q1;rw [q1];rfl
 have hs:=Sy.store_world W.sees Bo (hk _ G.od) hnw;rw [zj]at hs;have old:∀i,i<24→i≠j→RowOk (rho g h (dI vs j (.slice A' (n+1) c')) (dI XS j (XS j++news.toArray))) k0.heap.size k' w' (rI i)∧Sy.blockOf (rho g h (dI vs j (.slice A' (n+1) c')) (dI XS j (XS j++news.toArray))) (rI i)=Sy.blockOf ((rho g h vs XS).ext 48 [.slice,.row] [.slice A' (n+1) c',.agg (XS j++news.toArray)]) (rI i):=fun i hi hne=>by
  have e1:(rho g h (dI vs j (.slice A' (n+1) c')) (dI XS j (XS j++news.toArray))).val (rI i).v=((rho g h vs XS).ext 48 [.slice,.row] [.slice A' (n+1) c',.agg (XS j++news.toArray)]).val (rI i).v:=by
   rw [pO hi,rho_le.val _ _ (pO hi),dI,oh hne]
  refine⟨yZ (W.rows.ok (rI i) (List.mem_append_left _ (List.mem_filter.2 ⟨eH.2 ⟨i,hi,rfl⟩,decide_eq_true fun e=>hne (aKv e)⟩))) e1 ?_ ?_ ?_ rfl rfl rfl,xC e1⟩
  ·rw [uT hi,rho_le.val _ _ (uT hi),dI,oh hne]
  ·rw [aPc hi,rho_le.kd _ _ (aPc hi)]
  ·rw [aPd hi,rho_le.kd _ _ (aPd hi)]
 have n0:=Sy.ext_new (ρ:=rho g h vs XS) (n:=48) (lks:=[.slice,.row]) (us:=[.slice A' (n+1) c',.agg (XS j++news.toArray)]) 0;have n1:=Sy.ext_new (ρ:=rho g h vs XS) (n:=48) (lks:=[.slice,.row]) (us:=[.slice A' (n+1) c',.agg (XS j++news.toArray)]) 1;have eN:(rho g h (dI vs j (.slice A' (n+1) c')) (dI XS j (XS j++news.toArray))).val (rI j).v=((rho g h vs XS).ext 48 [.slice,.row] [.slice A' (n+1) c',.agg (XS j++news.toArray)]).val 48:=by
  rw [pO hj,dI,og rfl];exact n0.1.symm
 have new:RowOk (rho g h (dI vs j (.slice A' (n+1) c')) (dI XS j (XS j++news.toArray))) k0.heap.size k' w' (rI j):=by
  refine yZ (W.rows.ok ⟨48,48+1,88,3⟩ (yk _ (ql.2 rfl))) eN ?_ ?_ ?_ rfl rfl rfl
  ·rw [uT hj,dI,og rfl];exact n1.1.symm
  ·rw [aPc hj];exact n0.2.symm
  ·rw [aPd hj];exact n1.2.symm
 have newB:Sy.blockOf (rho g h (dI vs j (.slice A' (n+1) c')) (dI XS j (XS j++news.toArray))) (rI j)=Sy.blockOf ((rho g h vs XS).ext 48 [.slice,.row] [.slice A' (n+1) c',.agg (XS j++news.toArray)]) ⟨48,48+1,88,3⟩:=xC eN;have all:RowsOk (rho g h (dI vs j (.slice A' (n+1) c')) (dI XS j (XS j++news.toArray))) k0.heap.size k' w' rws:=by
  refine⟨fun r hr=>?_,fun r hr r' hr' hne=>?_⟩
  ·obtain⟨i,hi,rfl⟩:=eH.1 hr
   by_cases e:i=j
   ·subst e;exact new
   ·exact (old i hi e).1
  ·obtain⟨i,hi,rfl⟩:=eH.1 hr;obtain⟨i',hi',rfl⟩:=eH.1 hr';have lft:∀i,i<24→i≠j→rI i∈rws.filter (fun q=>decide (q≠rI j))++[⟨48,48+1,88,3⟩]:=fun i hi hne=>List.mem_append_left _ (List.mem_filter.2 ⟨eH.2 ⟨i,hi,rfl⟩,decide_eq_true fun e=>hne (aKv e)⟩);have far:∀i,i<24→rI i≠(⟨48,48+1,88,3⟩:RowI):=fun i hi e=>by unfold rI at e;injection e with e;omega
   by_cases e:i=j
   ·subst e;have e':i'≠i:=fun e=>hne (by rw [e]);rw [newB,(old i' hi' e').2];exact W.rows.dist _ (yk _ (ql.2 rfl)) _ (lft i' hi' e') (far i' hi').symm
   ·by_cases e':i'=j
    ·subst e';rw [newB,(old i hi e).2];exact W.rows.dist _ (lft i hi e) _ (yk _ (ql.2 rfl)) (far i hi)
    ·rw [(old i hi e).2,(old i' hi' e').2];exact W.rows.dist _ (lft i hi e) _ (lft i' hi' e') hne
 refine⟨⟨hs,G.core.base,W.kb,W.wb.trans ⟨rfl,rfl,rfl,by rw [Sy.put_size];exact oy _,fun q hq=>Sy.put_oth (by have:=G.lo.1;omega)⟩,fun b n hb=>?_,all.mono (Env.le.refl _) (fun b g hb _=>⟨b,hb⟩) (fun _ hq _=>hq) fun q hq hb=>Sy.put_oth fun e=>hb 0 (congrArg some e.symm)⟩,
  Bo.put _,hk _ G.od,(Sy.put_oth G.ne.symm).trans Br,hk _ G.rd,G.ne,G.lo,fun i hi=>?_⟩
 ·rw [Sy.put_size];rcases aSr hb with rfl|rfl
  ·exact Bo.lt
  ·exact Br.lt
 ·unfold dI;split
  ·intro u hu;rw [vf,qr]at hu;rcases hu with hu|hu
   ·exact G.rowC j hj u hu
   ·exact hsc u (by simpa using hu)
  ·exact G.rowC i hi
end
end Rd
open Rd
namespace Rd
theorem aLu {P:Program}{ops:Array Oper}{o:Oper}{a:Act}{w w':World}{K:Act→World→Prop}{Q:Exit→Act→World→Prop}{E:Prop}(hgd:o.guard=none) (s x:Operand) (t:TypeId)
 (ho:o.op=.call { callee:=.builtin .append,args:=#[s,x],argTypes:=#[t,t] }) {v y r:Value}(hs:a.eval s=v) (hx:a.eval x=y)
 (hr:(Builtin.append_ #[t,t] o.type #[v,y]).run P w=.ok r w') (h:K (a.put o.dst r) w'):if Region.wanted o (yielded ops a.tmps)=true then Oper.wp P o a w K Q else E:=by
 have hw:Region.wanted o (yielded ops a.tmps)=true:=by simp [Region.wanted,hgd]
 rw [og hw];unfold Oper.wp execOp;simp only [ho,resolve,invoke,builtin,oo,ju,xg,vp,zp,vr,hs,hx,hr];exact h
end Rd
theorem lM:(Tryz.prog.info? 218).map (·.size)=some 24:=by kernel_rfl
theorem iP {vs:Nat→Value}(h:∀j,j<24→(vs j).oneCell'=true):(cel24 vs).all (·.oneCell')=true:=by
 rw [Array.all_eq_true_iff_forall_mem];intro u hu;unfold cel24 at hu;simp only [List.mem_toArray,vk,xh]at hu;obtain⟨j,hj,rfl⟩:=hu;exact h j hj
theorem zE {w W:World}(hW:W=(w.alloc (.cells #[.slice none 0 0,.slice none 0 0,.slice none 0 0,.slice none 0 0,.slice none 0 0,.slice none 0 0,.slice none 0 0,.slice none 0 0,.slice none 0 0,.slice none 0 0,.slice none 0 0,.slice none 0 0,.slice none 0 0,.slice none 0 0,.slice none 0 0,.slice none 0 0,.slice none 0 0,.slice none 0 0,.slice none 0 0,.slice none 0 0,.slice none 0 0,.slice none 0 0,.slice none 0 0,.slice none 0 0] 218)).alloc (.cells #[.slice none 0 0,.slice none 0 0,.slice none 0 0,.slice none 0 0,.slice none 0 0,.slice none 0 0,.slice none 0 0,.slice none 0 0,.slice none 0 0,.slice none 0 0,.slice none 0 0,.slice none 0 0,.slice none 0 0,.slice none 0 0,.slice none 0 0,.slice none 0 0,.slice none 0 0,.slice none 0 0,.slice none 0 0,.slice none 0 0,.slice none 0 0,.slice none 0 0,.slice none 0 0,.slice none 0 0] 218)) :
 Sy.Blk W (w.heap.size+1) 218 (cel24 fun _=>.slice none 0 0)∧Sy.Blk W w.heap.size 218 (cel24 fun _=>.slice none 0 0)∧Below w.heap.size w W∧W=(w.alloc (.cells (cel24 fun _=>.slice none 0 0) 218)).alloc (.cells (cel24 fun _=>.slice none 0 0) 218):=by
 have e:(#[.slice none 0 0,.slice none 0 0,.slice none 0 0,.slice none 0 0,.slice none 0 0,.slice none 0 0,.slice none 0 0,.slice none 0 0,.slice none 0 0,.slice none 0 0,.slice none 0 0,.slice none 0 0,.slice none 0 0,.slice none 0 0,.slice none 0 0,.slice none 0 0,.slice none 0 0,.slice none 0 0,.slice none 0 0,.slice none 0 0,.slice none 0 0,.slice none 0 0,.slice none 0 0,.slice none 0 0]:Array Value)=cel24 fun _=>.slice none 0 0:=rfl;rw [e]at hW;generalize cel24 (fun _=>.slice none 0 0)=zs at *
 subst hW;refine⟨?_,?_,((Below.refl _ w).alloc (oy _) _).alloc (by simp) _,rfl⟩
 ·have:=heap_alloc_new (w.alloc (.cells zs 218)) (.cells zs 218);rw [xj]at this;exact this
 ·exact (Below.heap_alloc _ _ _ (by simp)).trans (heap_alloc_new w _)
theorem kJ {Post:Ending→World→Prop}{tmps:Array Value}{W:World}{h:Nat}{cs:Array Value}{e:Int}(h4:tmps.getD 4 undef=.pointer (some ⟨h,0,none⟩)) (h5:tmps.getD 5 undef=.int .i64 e)
 (hl:(loadVar 218 ⟨h,0,none⟩).run Tryz.prog W=.ok (.agg cs) W) (hP:Post (.returned (.tuple #[.agg cs,.int .i64 e])) W):bodyPost Tryz.prog Tryz.f85 Post Exit.ret { tmps:=tmps,defers:=[] } W:=by
 refine⟨rfl,_,?_,hP⟩;rw [results_cell_tmp (p:=4) (u:=5) (ty:=218) rfl,h4,h5];simp [asAddr,Result.andThen,hl]
theorem aUb {w:World}{A:Option Addr}{n c:Nat}{z:Int}(hz:decide (z<0)=true∨decide (z<0)=false∧decide (2<z)=true) :
 Calls Tryz.prog 85 #[.slice A n c,.int .i64 z] w fun e w'=>
  e=.returned (.tuple #[.agg (cel24 fun _=>.slice none 0 0),.int .i64 1])∧Below w.heap.size w w':=by
 go_enter Tryz.func85,Tryz.ntmps85
 go_upto_region 2 with (fail)
 obtain⟨W,hW⟩:∃W,W=(w.alloc (.cells #[.slice none 0 0,.slice none 0 0,.slice none 0 0,.slice none 0 0,.slice none 0 0,.slice none 0 0,.slice none 0 0,.slice none 0 0,.slice none 0 0,.slice none 0 0,.slice none 0 0,.slice none 0 0,.slice none 0 0,.slice none 0 0,.slice none 0 0,.slice none 0 0,.slice none 0 0,.slice none 0 0,.slice none 0 0,.slice none 0 0,.slice none 0 0,.slice none 0 0,.slice none 0 0,.slice none 0 0] 218)).alloc (.cells #[.slice none 0 0,.slice none 0 0,.slice none 0 0,.slice none 0 0,.slice none 0 0,.slice none 0 0,.slice none 0 0,.slice none 0 0,.slice none 0 0,.slice none 0 0,.slice none 0 0,.slice none 0 0,.slice none 0 0,.slice none 0 0,.slice none 0 0,.slice none 0 0,.slice none 0 0,.slice none 0 0,.slice none 0 0,.slice none 0 0,.slice none 0 0,.slice none 0 0,.slice none 0 0,.slice none 0 0] 218):=⟨_,rfl⟩;rw [←hW];obtain⟨b1,b2,b3,-⟩:=zE hW;clear hW;have hu:=Tryz.underlying218;obtain⟨zs,hzs⟩:∃zs,zs=cel24 fun _=>.slice none 0 0:=⟨_,rfl⟩;have hz:zs.size=24:=by rw [hzs];simp [cel24]
 have hi:(Tryz.prog.info? 218).map (·.size)=some zs.size:=by rw [hz];exact lM
 have h1:zs.all (·.oneCell')=true:=by rw [hzs];exact iP fun _ _=>rfl
 rw [←hzs]at b1 b2;replace b1:=ou (show W.heap[w.heap.size+1]?=some (.cells zs 218 (0,0)) from b1);replace b2:=ou (show W.heap[w.heap.size]?=some (.cells zs 218 (0,0)) from b2);replace b3:=ou b3;replace hu:=ou hu;replace hi:=ou hi;replace h1:=ou h1;replace hzs:=ou hzs;clear hz;rcases hz with hz|⟨hz,hz'⟩
 all_goals
  go_upto_region 3 with (fail)
  refine wp_region_list (wpList_load_row rfl 218 (.tmp 6) rfl _ rfl 218 zs (0,0) _ b1.out hu.out rfl hi.out (wpList_store_row rfl 218 (.tmp 4) (.tmp 20) rfl _ zs rfl rfl 218 zs b2.out hi.out rfl h1.out ?_));obtain⟨W',hW'⟩:∃W',W'=W.setRow w.heap.size zs:=⟨_,rfl⟩;rw [←hW'];have hr:W'.heap[w.heap.size]?=some (.cells zs 218 (0,0)):=by
   rw [hW',Sy.setRow_putBlk b2.out];exact Sy.Blk.put b2.out _
  have hl:(loadVar 218 ⟨w.heap.size,0,none⟩).run Tryz.prog W'=.ok (.agg zs) W':=run_loadVar_row W' _ _ _ _ (0,0) _ hr hu.out rfl hi.out;replace hW':=ou hW';replace hr:=ou hr;replace hl:=ou hl
  go_wp2
  refine kJ rfl rfl hl.out ⟨by rw [hzs.out],?_⟩;rw [hW'.out,Sy.setRow_putBlk b2.out];exact b3.out.trans ⟨rfl,rfl,rfl,by rw [Sy.put_size];exact oy _,fun q hq=>Sy.put_oth oq⟩
theorem aLt {k:World}{A:Option Addr}{n j:Nat}{f:Nat→Nat→Nat}(h:Els k A n 3 SmpV f) (hj:j<n):∃b o,A=some ⟨b,o,none⟩∧(k.cell? ⟨b,o+j*3,none⟩=some (.float .f32 (f j 0))∧k.cell? ⟨b,o+j*3+1,none⟩=some (.float .f32 (f j 1))∧k.cell? ⟨b,o+j*3+2,none⟩=some (.float .f32 (f j 2)))∧f j 0<2^32∧f j 1<2^32∧f j 2<2^32:=by
 obtain⟨xs,h1,_,h3⟩:=h;obtain⟨a,ha,⟨rfl,hp⟩,hx⟩:=h3.el hj;obtain⟨b,o,rfl,_,g0⟩:=h1 _ _ (hx 0 _ rfl);obtain⟨b',o',e1,_,g1⟩:=h1 _ _ (hx 1 _ rfl);obtain⟨b'',o'',e2,_,g2⟩:=h1 _ _ (hx 2 _ rfl);cases e1;cases e2;exact⟨b,o,rfl,⟨g0,by rw [xu];exact g1,by rw [xu];exact g2⟩,hp⟩
theorem aTk:(Tryz.prog.info? 88).map (fun i=>(i.zero,i.size,i.bytes))=some (some (.agg #[.bool false,.slice none 0 0,.slice none 0 0]),3,56):=by kernel_rfl
theorem pW {P:Program}{w:World}{a:Addr}{m:Mode}(k:FloatKind) (n:Nat):(store a (.float k n) m).run P w=stored P w a (.float k n) m:=run_store P w a _ m rfl
attribute [local go_sem] pW
theorem more {g:Nat→Nat}{q:Nat}(h:∀p,p<q→cO (g p)<255) (c:cO (g q)<255):∀p,p<q+1→cO (g p)<255:=fun p hp=>by
 by_cases e:p=q
 ·rw [e];exact c
 ·exact h p oq
def AtR (k w wr:World) (f:Nat→Nat→Nat) (y j:Nat):Prop:=∃k1 vs XS,Up k k1∧Grid k w k1 wr (w.heap.size+1) w.heap.size vs XS∧(∀p,p<24→∃A c,vs p=.slice A ((j+23-p) / 24) c∧ArrV ((j+23-p) / 24) 3 (fun a v=>RatV k1 a v 1200) (XS p) (rdV f y p))∧∀i,i<j→fin3 (f i)=true
theorem aAw {k w k1 k4 k7 W:World}{f:Nat→Nat→Nat}{y j n:Nat}{vs:Nat→Value}{XS:Nat→Array Value}{A2 A' D:Option Addr}{c2 n' c' d e:Nat}{a0:Bool}(_hn:n<1000000) (_hj:j<n) (u:Up k k7)
 (G:Grid k w k7 W (w.heap.size+1) w.heap.size (dI vs (j % 24) (.slice A2 ((j+23-j % 24) / 24+1) c2)) (dI XS (j % 24) (XS (j % 24)++[Value.bool a0,.slice A' n' c',.slice D d e].toArray))) (u1:Up k1 k7) (u4:Up k4 k7)
 (hv:∀p,p<24→∃A c,vs p=.slice A ((j+23-p) / 24) c∧ArrV ((j+23-p) / 24) 3 (fun a v=>RatV k1 a v 1200) (XS p) (rdV f y p)) (hf:∀i,i<j→fin3 (f i)=true) (hfin:∀p,p<3→cO (f j p)<255)
 (hq:RatV k4 #[.bool a0,.slice A' n' c',.slice D d e] (lP (f j y)) 1200):AtR k w W f y (j+1):=by
 refine⟨k7,_,_,u,G,fun p hp=>?_,fun i hi=>?_⟩
 ·obtain⟨A,c,h1,h2⟩:=hv p hp;replace h2:=ArrV.mono (Q:=fun a v=>RatV k7 a v 1200) h2 fun _ _ h=>h.up u1
  by_cases c:p=j % 24
  ·subst c;have e1:(j+1+23-j % 24) / 24=(j+23-j % 24) / 24+1:=oq
   rw [e1];refine⟨A2,c2,by simp [dI],?_⟩;rw [show dI XS (j % 24) (XS (j % 24)++[Value.bool a0,.slice A' n' c',.slice D d e].toArray) (j % 24)=XS (j % 24)++(#[Value.bool a0,.slice A' n' c',.slice D d e]:Array Value).toList.toArray by simp [dI]];refine ArrV.push h2 rfl ?_;have e2:rdV f y (j % 24) ((j+23-j % 24) / 24)=lP (f j y):=by unfold rdV;congr 2;omega
   rw [e2];exact hq.up u4
  ·have e1:(j+1+23-p) / 24=(j+23-p) / 24:=oq
   rw [e1];exact⟨A,_,by rw [dI,oh c];exact h1,by rw [dI,oh c];exact h2⟩
 ·by_cases c:i=j
  ·subst c;unfold fin3;simp [hfin 0 oq,hfin 1 oq,hfin 2 oq]
  ·exact hf i oq
def RdF (k w':World) (n:Nat) (z:Int) (f:Nat→Nat→Nat) (v:Value):Prop:=∃vs:Nat→Value,v=.tuple #[.agg (cel24 vs),.int .i64 (dR n z f)]∧(∀j,j<24→∃A m c,vs j=.slice A m c)∧
 (dR n z f=0→∃(k1:World) (XS:Nat→Array Value),Below k.heap.size k k1∧Sees k1 w'∧∀p,p<24→∃A c,vs p=.slice A (n/24) c∧n/24≤c∧ArrV (n/24) 3 (fun a v=>RatV k1 a v 1200) (XS p) (rdV f z.toNat p)∧RowC (XS p)∧
   ∀(q:Nat) u,(XS p)[q]?=some u→∃g,A=some ⟨g,0,none⟩∧k.heap.size≤g∧w'.cell? ⟨g,q,none⟩=some u)
theorem zero24:∀u∈(cel24 fun _=>Value.slice none 0 0).toList,u.noWord=true:=by
 intro u hu;unfold cel24 at hu;simp only [vk,xh]at hu;obtain⟨j,_,rfl⟩:=hu;rfl
theorem nX {k w k1 wr W':World}{vs:Nat→Value}{XS:Nat→Array Value}{ys:Array Value}(G:Grid k w k1 wr (w.heap.size+1) w.heap.size vs XS) (hW:W'=Sy.World.putBlk wr w.heap.size 218 ys):Below w.heap.size w W':=by
 rw [hW];exact G.core.wb.trans ⟨rfl,rfl,rfl,by rw [Sy.put_size];exact oy _,fun q hq=>Sy.put_oth oq⟩
theorem aLr {n:Nat}{y:Nat}{f:Nat→Nat→Nat}(hz:decide (((y:Nat):Int)<0)=false) (hz':decide (2<((y:Nat):Int))=false) (h:(((n:Nat):Int) == 0)=true∨(((n:Nat):Int) % 24 != 0)=true∨1536<((n:Nat):Int)):dR n (y:Nat) f=4:=by
 have g1:=ov hz;have g2:=ov hz';unfold dR;rw [oh oq,og];rcases h with h|h|h
 ·left;have:=eq_of_beq h;omega
 ·right;left;have:((n:Nat):Int) % 24≠0:=by simpa using h
  omega
 ·right;right;omega
theorem aIr {k w k1 wr W':World}{vs:Nat→Value}{XS:Nat→Array Value}{ys:Array Value}{n y:Nat}{f:Nat→Nat→Nat}(hys:ys=cel24 vs) (G:Grid k w k1 wr (w.heap.size+1) w.heap.size vs XS) (hW:W'=Sy.World.putBlk wr w.heap.size 218 ys)
 (hv:∀p,p<24→∃A c,vs p=.slice A 0 c∧True) (hz:decide (((y:Nat):Int)<0)=false) (hz':decide (2<((y:Nat):Int))=false) (h:(((n:Nat):Int) == 0)=true∨(((n:Nat):Int) % 24 != 0)=true∨1536<((n:Nat):Int)) :
 (∃v,Ending.returned (.tuple #[.agg ys,.int .i64 4])=.returned v∧RdF k W' n (y:Nat) f v)∧Below w.heap.size w W':=by
 have e:=aLr (f:=f) hz hz' h;refine⟨⟨_,rfl,vs,by rw [e,hys],fun p hp=>?_,fun c=>by rw [e]at c;cases c⟩,nX G hW⟩;obtain⟨A,c,h1,_⟩:=hv p hp;exact⟨A,0,c,h1⟩
theorem aKz {n y:Nat}{f:Nat→Nat→Nat}(hz:decide (((y:Nat):Int)<0)=false) (hz':decide (2<((y:Nat):Int))=false) (h1:(((n:Nat):Int) == 0)=false) (h2:(((n:Nat):Int) % 24 != 0)=false) (h3:((n:Nat):Int)≤1536):dR n (y:Nat) f=if ∀i,i<n→fin3 (f i)=true then 0 else 1:=by
 have g1:=ov hz;have g2:=ov hz';have g3:((n:Nat):Int)≠0:=by simpa using h1
 have g4:((n:Nat):Int) % 24=0:=by simpa using h2
 unfold dR;rw [oh oq,oh oq]
theorem vD {k w k1 wr W':World}{vs:Nat→Value}{XS:Nat→Array Value}{ys:Array Value}{n y j:Nat}{f:Nat→Nat→Nat}{N:Nat}{P:Nat→Prop}(hys:ys=cel24 vs) (G:Grid k w k1 wr (w.heap.size+1) w.heap.size vs XS) (hW:W'=Sy.World.putBlk wr w.heap.size 218 ys)
 (hv:∀p,p<24→∃A c,vs p=.slice A ((N-p) / 24) c∧P p) (hz:decide (((y:Nat):Int)<0)=false) (hz':decide (2<((y:Nat):Int))=false) (h1:(((n:Nat):Int) == 0)=false) (h2:(((n:Nat):Int) % 24 != 0)=false) (h3:((n:Nat):Int)≤1536)
 (hj:j<n) (q:Nat) (hq:q<3) (c:¬ cO (f j q)<255):(∃v,Ending.returned (.tuple #[.agg ys,.int .i64 1])=.returned v∧RdF k W' n (y:Nat) f v)∧Below w.heap.size w W':=by
 have e:dR n (y:Nat) f=1:=by
  rw [aKz hz hz' h1 h2 h3,oh];intro h;have:=h j hj;unfold fin3 at this;rcases (show q=0∨q=1∨q=2 by omega) with rfl|rfl|rfl <;> simp_all
 refine⟨⟨_,rfl,vs,by rw [e,hys],fun p hp=>?_,fun c=>by rw [e]at c;cases c⟩,nX G hW⟩;obtain⟨A,c,h1,_⟩:=hv p hp;exact⟨A,_,c,h1⟩
theorem aSy {k w k1 wr W':World}{vs:Nat→Value}{XS:Nat→Array Value}{ys:Array Value}{n y:Nat}{f:Nat→Nat→Nat}(hys:ys=cel24 vs) (G:Grid k w k1 wr (w.heap.size+1) w.heap.size vs XS) (hW:W'=Sy.World.putBlk wr w.heap.size 218 ys)
 (hv:∀p,p<24→∃A c,vs p=.slice A ((n+23-p) / 24) c∧ArrV ((n+23-p) / 24) 3 (fun a v=>RatV k1 a v 1200) (XS p) (rdV f y p)) (hf:∀i,i<n→fin3 (f i)=true)
 (hz:decide (((y:Nat):Int)<0)=false) (hz':decide (2<((y:Nat):Int))=false) (h1:(((n:Nat):Int) == 0)=false) (h2:(((n:Nat):Int) % 24 != 0)=false) (h3:((n:Nat):Int)≤1536) :
 (∃v,Ending.returned (.tuple #[.agg ys,.int .i64 0])=.returned v∧RdF k W' n (y:Nat) f v)∧Below w.heap.size w W':=by
 have e:dR n (y:Nat) f=0:=by rw [aKz hz hz' h1 h2 h3,og hf]
 have g4:((n:Nat):Int) % 24=0:=by simpa using h2
 have en:∀p,p<24→(n+23-p) / 24=n/24:=fun p hp=>by omega
 refine⟨⟨_,rfl,vs,by rw [e,hys],fun p hp=>?_,fun _=>⟨k1,XS,G.core.kb,?_,fun p hp=>?_⟩⟩,nX G hW⟩
 ·obtain⟨A,c,h1,_⟩:=hv p hp;exact⟨A,_,c,h1⟩
 ·have hnw:∀u∈ys.toList,u.noWord=true:=by
   rw [hys];intro u hu;unfold cel24 at hu;simp only [vk,xh]at hu;obtain⟨p,hp,rfl⟩:=hu;obtain⟨A,c,h1,_⟩:=hv p hp;rw [h1];rfl
  have:=Sy.store_world G.core.sees G.res G.rd hnw;rw [zj]at this;rw [hW];exact this
 ·obtain⟨A,c,q1,q2⟩:=hv p hp;rw [en p hp]at q1 q2;obtain⟨A',n',c',xs,r1,r2,_,_,r5,r6,r7,r8⟩:=G.core.rows.ok (rI p) (eH.2 ⟨p,hp,rfl⟩);rw [pO hp,q1]at r1;rw [uT hp]at r2;injection r1 with r1;injection r1 with e1 e2 e3;injection r2 with r2;injection r2 with r2;subst e1 e2 e3 r2;refine⟨A,c,q1,r7,by rw [vt];exact q2,G.rowC p hp,fun q u hu=>?_⟩;rcases r8 with ⟨rfl,rfl⟩|⟨g,cs,rfl,r9,r10,r11,r12,r13,r14,r15⟩
  ·have h0:n/24=0:=oq
   rw [h0]at r6;have:=(jr.1 hu).1;have hz3:(rI p).s=3:=rfl;omega
  ·refine⟨g,rfl,r9,?_⟩;have:Sy.Blk W' g 88 cs:=by rw [hW];exact (Sy.put_oth fun e=>r15 1 (congrArg some e.symm)).trans r10
   rw [this.cell];exact r12 q u hu
theorem aQd {k w:World}{A:Option Addr}{n c y:Nat}{f:Nat→Nat→Nat}(hs:Sees k w) (hl:Els k A n 3 SmpV f) (hn:n<1000000) (hy:y<3) (hz:decide (((y:Nat):Int)<0)=false) (hz':decide (2<((y:Nat):Int))=false) :
 Calls Tryz.prog 85 #[.slice A n c,.int .i64 ((y:Nat):Int)] w fun e w'=>
  (∃v,e=.returned v∧RdF k w' n (y:Nat) f v)∧Below w.heap.size w w':=by
 go_enter Tryz.func85,Tryz.ntmps85
 go_upto_region 2 with (fail)
 obtain⟨W,hW⟩:∃W,W=(w.alloc (.cells #[.slice none 0 0,.slice none 0 0,.slice none 0 0,.slice none 0 0,.slice none 0 0,.slice none 0 0,.slice none 0 0,.slice none 0 0,.slice none 0 0,.slice none 0 0,.slice none 0 0,.slice none 0 0,.slice none 0 0,.slice none 0 0,.slice none 0 0,.slice none 0 0,.slice none 0 0,.slice none 0 0,.slice none 0 0,.slice none 0 0,.slice none 0 0,.slice none 0 0,.slice none 0 0,.slice none 0 0] 218)).alloc (.cells #[.slice none 0 0,.slice none 0 0,.slice none 0 0,.slice none 0 0,.slice none 0 0,.slice none 0 0,.slice none 0 0,.slice none 0 0,.slice none 0 0,.slice none 0 0,.slice none 0 0,.slice none 0 0,.slice none 0 0,.slice none 0 0,.slice none 0 0,.slice none 0 0,.slice none 0 0,.slice none 0 0,.slice none 0 0,.slice none 0 0,.slice none 0 0,.slice none 0 0,.slice none 0 0,.slice none 0 0] 218):=⟨_,rfl⟩;rw [←hW];obtain⟨b1,b2,b3,hW2⟩:=zE hW;clear hW;have hu:=Tryz.underlying218;obtain⟨zs,hzs⟩:∃zs,zs=cel24 fun _=>.slice none 0 0:=⟨_,rfl⟩;have hz24:zs.size=24:=by rw [hzs];simp [cel24]
 have hi:(Tryz.prog.info? 218).map (·.size)=some zs.size:=by rw [hz24];exact lM
 have h1:zs.all (·.oneCell')=true:=by rw [hzs];exact iP fun _ _=>rfl
 rw [←hzs]at b1 b2;replace b1:=ou (show W.heap[w.heap.size+1]?=some (.cells zs 218 (0,0)) from b1);replace b2:=ou (show W.heap[w.heap.size]?=some (.cells zs 218 (0,0)) from b2);replace b3:=ou b3;replace hu:=ou hu;replace hi:=ou hi;replace h1:=ou h1;replace hzs:=ou hzs;replace hW2:=ou hW2;replace hs:=ou hs;replace hl:=ou hl;clear hz24
 go_upto_region 7 with (fail)
 rotate_left 3
 rotate_right 3
 iterate 3
  ·obtain⟨k1,u1,GX⟩:=rJ hs.out zero24;rw [←hW2.out]at GX;obtain⟨vs,evs⟩:∃vs:Nat→Value,vs=fun _=>.slice none 0 0:=⟨_,rfl⟩;rw [←evs]at GX;have hv:∀p,p<24→∃A c,vs p=.slice A 0 c∧True:=fun p _=>⟨none,0,by rw [evs],trivial⟩;replace hv:=ou hv;clear evs;have o1:W.heap[w.heap.size+1]?=some (.cells (cel24 vs) 218 (0,0)):=GX.out;have o2:W.heap[w.heap.size]?=some (.cells (cel24 fun _=>.slice none 0 0) 218 (0,0)):=GX.res;obtain⟨ys,hys⟩:∃ys,ys=cel24 vs:=⟨_,rfl⟩;obtain⟨zs',hzs'⟩:∃zs',zs'=cel24 fun _=>Value.slice none 0 0:=⟨_,rfl⟩;have hy24:ys.size=24∧zs'.size=24:=by rw [hys,hzs'];simp [cel24]
   have hi2:(Tryz.prog.info? 218).map (·.size)=some ys.size:=by rw [hy24.1];exact lM
   have ho:zs'.size=ys.size:=by rw [hy24.1,hy24.2]
   have h12:ys.all (·.oneCell')=true:=by rw [hys];exact iP fun p hp=>by obtain⟨_,_,e1,_⟩:=hv.out p hp;rw [e1];rfl
   rw [←hys]at o1;rw [←hzs']at o2;replace o1:=ou o1;replace o2:=ou o2;replace hi2:=ou hi2;replace h12:=ou h12;replace hys:=ou hys;clear hy24 hzs';refine wp_region_list (wpList_load_row rfl 218 (.tmp 6) rfl _ rfl 218 ys (0,0) _ o1.out hu.out rfl hi2.out (wpList_store_row rfl 218 (.tmp 4) (.tmp 32) rfl _ ys rfl rfl 218 zs' o2.out hi2.out ho h12.out ?_));obtain⟨W',hW'⟩:∃W',W'=W.setRow w.heap.size ys:=⟨_,rfl⟩;rw [←hW'];have hr:W'.heap[w.heap.size]?=some (.cells ys 218 (0,0)):=by
    rw [hW',Sy.setRow_putBlk o2.out];exact Sy.Blk.put o2.out _
   have hl2:(loadVar 218 ⟨w.heap.size,0,none⟩).run Tryz.prog W'=.ok (.agg ys) W':=run_loadVar_row W' _ _ _ _ (0,0) _ hr hu.out rfl hi2.out;replace hW':=ou (hW'.trans (Sy.setRow_putBlk o2.out));replace hr:=ou hr;replace hl2:=ou hl2;clear ho
   go_wp2
   exact kJ rfl rfl hl2.out (aIr hys.out GX hW'.out hv.out hz hz' (by first|exact .inl ‹_›|exact .inr (.inl ‹_›)|exact .inr (.inr ‹_›)))
 go_loopw [35] (fun i wr=>∃j:Nat,j≤n∧i=.int .i64 j∧AtR k w wr f y j) (fun i _=>n-(intOf i).toNat)
 case atStart=>
  obtain⟨k1,u1,GX⟩:=rJ hs.out zero24;rw [←hW2.out]at GX;exact⟨0,jw _,rfl,k1,_,_,u1,GX,fun p hp=>⟨none,0,by rw [show (0+23-p) / 24=0 by omega],by rw [show (0+23-p) / 24=0 by omega];exact ArrV.empty⟩,fun i hi=>absurd hi (yq _)⟩
 case round=>
  obtain⟨j,hj,rfl,k1,vs,XS,u1,G,hv,hf⟩:=hrel
  by_cases hlt:j<n
  ·obtain⟨b,o,rfl,⟨d0,d1,d2⟩,g0,g1,g2⟩:=aLt hl.out hlt;replace d0:=G.core.sees.cell (u1.cell d0);replace d1:=G.core.sees.cell (u1.cell d1);replace d2:=G.core.sees.cell (u1.cell d2);replace G:=ou G;replace u1:=ou u1;replace hv:=ou hv;replace hf:=ou hf
   go_wp2
   obtain⟨B,hB⟩:∃B,B=wr.heap.size:=⟨_,rfl⟩;obtain⟨W1,hW1⟩:∃W1,W1=wr.alloc (.cells #[.float .f32 (f j 0),.float .f32 (f j 1),.float .f32 (f j 2)] 227):=⟨_,rfl⟩;rw [←hW1,←hB];obtain⟨k2,u2,G2⟩:=G.out.alloc (us:=[.float .f32 (f j 0),.float .f32 (f j 1),.float .f32 (f j 2)]) (by simp [Value.noWord]) 227;have B8:Sy.Blk W1 B 227 #[.float .f32 (f j 0),.float .f32 (f j 1),.float .f32 (f j 2)]:=by rw [hW1,hB];exact heap_alloc_new wr _
   have G2':Grid k w k2 W1 (w.heap.size+1) w.heap.size vs XS:=by rw [hW1];exact G2
   have hsB:W1.heap.size=B+1:=by rw [hW1,hB];simp
   clear G2 hW1 d0 d1 d2;replace hB:=ou hB;replace hsB:=ou hsB
   go_loopw [41] (fun i wi=>∃q:Nat,q≤3∧i=.int .i64 q∧(∃k3,Up k2 k3∧Grid k w k3 wi (w.heap.size+1) w.heap.size vs XS)∧Sy.Blk wi B 227 #[.float .f32 (f j 0),.float .f32 (f j 1),.float .f32 (f j 2)]∧∀p,p<q→cO (f j p)<255) (fun i _=>3-(intOf i).toNat)
   case atStart=>exact⟨0,oq,rfl,⟨k2,Up.refl _,G2'⟩,B8,fun p hp=>absurd hp (yq _)⟩
   case round=>
    obtain⟨q,hq,rfl,⟨k3,u3,G3⟩,B8',hfin⟩:=hrel;rcases (show q=0∨q=1∨q=2∨q=3 by omega) with rfl|rfl|rfl|rfl
    ·by_cases c:cO (f j 0)<255
     ·go_upto_region 13 with (fail)
      refine wp_region_list (Great.wpList_readTo rfl (some 43) rfl (.float .f32 (f j 0)) ox ?_)
      go_wp2_with (go_at_call 170;refine ((gB (k:=k3) (R:=fun _ v=>v=.bool true) g0 (fun _ _=>by rw [decide_eq_true c])) k3 (Up.refl _) _ G3.core.sees).mono ?_;rintro e w3 ⟨v,k4,rfl,s3,b4,b5,rfl⟩)
      go_roundw
      case rel=>exact⟨1,oq,by go_num,⟨k4,u3.trans (Up.of_below b4),G3.step s3 b4 b5⟩,(b5.block B B8'.lt).trans B8',more hfin c⟩
      case measure=>simp [intOf]
     ·go_upto_region 13 with (fail)
      refine wp_region_list (Great.wpList_readTo rfl (some 43) rfl (.float .f32 (f j 0)) ox ?_)
      go_upto_region 15 with (go_at_call 170;refine ((gB (k:=k3) (R:=fun _ v=>v=.bool false) g0 (fun _ _=>by rw [decide_eq_false c])) k3 (Up.refl _) _ G3.core.sees).mono ?_;rintro e w3 ⟨v,k4,rfl,s3,b4,b5,rfl⟩)
      have GE:=G3.step s3 b4 b5;have o1:w3.heap[w.heap.size+1]?=some (.cells (cel24 vs) 218 (0,0)):=GE.out;have o2:w3.heap[w.heap.size]?=some (.cells (cel24 fun _=>.slice none 0 0) 218 (0,0)):=GE.res;obtain⟨ys,hys⟩:∃ys,ys=cel24 vs:=⟨_,rfl⟩;obtain⟨zs',hzs'⟩:∃zs',zs'=cel24 fun _=>Value.slice none 0 0:=⟨_,rfl⟩;have hy24:ys.size=24∧zs'.size=24:=by rw [hys,hzs'];simp [cel24]
      have hi2:(Tryz.prog.info? 218).map (·.size)=some ys.size:=by rw [hy24.1];exact lM
      have ho:zs'.size=ys.size:=by rw [hy24.1,hy24.2]
      have h12:ys.all (·.oneCell')=true:=by rw [hys];exact iP fun p hp=>by obtain⟨_,_,e1,_⟩:=hv.out p hp;rw [e1];rfl
      rw [←hys]at o1;rw [←hzs']at o2;replace o1:=ou o1;replace o2:=ou o2;replace hi2:=ou hi2;replace h12:=ou h12;replace hys:=ou hys;clear hy24 hzs';refine wp_region_list (wpList_load_row rfl 218 (.tmp 6) rfl _ rfl 218 ys (0,0) _ o1.out hu.out rfl hi2.out (wpList_store_row rfl 218 (.tmp 4) (.tmp 47) rfl _ ys rfl rfl 218 zs' o2.out hi2.out ho h12.out ?_));obtain⟨W',hW'⟩:∃W',W'=w3.setRow w.heap.size ys:=⟨_,rfl⟩;rw [←hW'];have hr:W'.heap[w.heap.size]?=some (.cells ys 218 (0,0)):=by
       rw [hW',Sy.setRow_putBlk o2.out];exact Sy.Blk.put o2.out _
      have hl2:(loadVar 218 ⟨w.heap.size,0,none⟩).run Tryz.prog W'=.ok (.agg ys) W':=run_loadVar_row W' _ _ _ _ (0,0) _ hr hu.out rfl hi2.out;replace hW':=ou (hW'.trans (Sy.setRow_putBlk o2.out));replace hr:=ou hr;replace hl2:=ou hl2;clear ho
      go_wp2
      exact kJ rfl rfl hl2.out (vD hys.out GE hW'.out hv.out hz hz' ‹_› ‹_› ‹_› hlt 0 oz c)
    ·by_cases c:cO (f j 1)<255
     ·go_upto_region 13 with (fail)
      refine wp_region_list (Great.wpList_readTo rfl (some 43) rfl (.float .f32 (f j 1)) ox ?_)
      go_wp2_with (go_at_call 170;refine ((gB (k:=k3) (R:=fun _ v=>v=.bool true) g1 (fun _ _=>by rw [decide_eq_true c])) k3 (Up.refl _) _ G3.core.sees).mono ?_;rintro e w3 ⟨v,k4,rfl,s3,b4,b5,rfl⟩)
      go_roundw
      case rel=>exact⟨2,oq,by go_num,⟨k4,u3.trans (Up.of_below b4),G3.step s3 b4 b5⟩,(b5.block B B8'.lt).trans B8',more hfin c⟩
      case measure=>simp [intOf]
     ·go_upto_region 13 with (fail)
      refine wp_region_list (Great.wpList_readTo rfl (some 43) rfl (.float .f32 (f j 1)) ox ?_)
      go_upto_region 15 with (go_at_call 170;refine ((gB (k:=k3) (R:=fun _ v=>v=.bool false) g1 (fun _ _=>by rw [decide_eq_false c])) k3 (Up.refl _) _ G3.core.sees).mono ?_;rintro e w3 ⟨v,k4,rfl,s3,b4,b5,rfl⟩)
      have GE:=G3.step s3 b4 b5;have o1:w3.heap[w.heap.size+1]?=some (.cells (cel24 vs) 218 (0,0)):=GE.out;have o2:w3.heap[w.heap.size]?=some (.cells (cel24 fun _=>.slice none 0 0) 218 (0,0)):=GE.res;obtain⟨ys,hys⟩:∃ys,ys=cel24 vs:=⟨_,rfl⟩;obtain⟨zs',hzs'⟩:∃zs',zs'=cel24 fun _=>Value.slice none 0 0:=⟨_,rfl⟩;have hy24:ys.size=24∧zs'.size=24:=by rw [hys,hzs'];simp [cel24]
      have hi2:(Tryz.prog.info? 218).map (·.size)=some ys.size:=by rw [hy24.1];exact lM
      have ho:zs'.size=ys.size:=by rw [hy24.1,hy24.2]
      have h12:ys.all (·.oneCell')=true:=by rw [hys];exact iP fun p hp=>by obtain⟨_,_,e1,_⟩:=hv.out p hp;rw [e1];rfl
      rw [←hys]at o1;rw [←hzs']at o2;replace o1:=ou o1;replace o2:=ou o2;replace hi2:=ou hi2;replace h12:=ou h12;replace hys:=ou hys;clear hy24 hzs';refine wp_region_list (wpList_load_row rfl 218 (.tmp 6) rfl _ rfl 218 ys (0,0) _ o1.out hu.out rfl hi2.out (wpList_store_row rfl 218 (.tmp 4) (.tmp 47) rfl _ ys rfl rfl 218 zs' o2.out hi2.out ho h12.out ?_));obtain⟨W',hW'⟩:∃W',W'=w3.setRow w.heap.size ys:=⟨_,rfl⟩;rw [←hW'];have hr:W'.heap[w.heap.size]?=some (.cells ys 218 (0,0)):=by
       rw [hW',Sy.setRow_putBlk o2.out];exact Sy.Blk.put o2.out _
      have hl2:(loadVar 218 ⟨w.heap.size,0,none⟩).run Tryz.prog W'=.ok (.agg ys) W':=run_loadVar_row W' _ _ _ _ (0,0) _ hr hu.out rfl hi2.out;replace hW':=ou (hW'.trans (Sy.setRow_putBlk o2.out));replace hr:=ou hr;replace hl2:=ou hl2;clear ho
      go_wp2
      exact kJ rfl rfl hl2.out (vD hys.out GE hW'.out hv.out hz hz' ‹_› ‹_› ‹_› hlt 1 oz c)
    ·by_cases c:cO (f j 2)<255
     ·go_upto_region 13 with (fail)
      refine wp_region_list (Great.wpList_readTo rfl (some 43) rfl (.float .f32 (f j 2)) ox ?_)
      go_wp2_with (go_at_call 170;refine ((gB (k:=k3) (R:=fun _ v=>v=.bool true) g2 (fun _ _=>by rw [decide_eq_true c])) k3 (Up.refl _) _ G3.core.sees).mono ?_;rintro e w3 ⟨v,k4,rfl,s3,b4,b5,rfl⟩)
      go_roundw
      case rel=>exact⟨3,oq,by go_num,⟨k4,u3.trans (Up.of_below b4),G3.step s3 b4 b5⟩,(b5.block B B8'.lt).trans B8',more hfin c⟩
      case measure=>simp [intOf]
     ·go_upto_region 13 with (fail)
      refine wp_region_list (Great.wpList_readTo rfl (some 43) rfl (.float .f32 (f j 2)) ox ?_)
      go_upto_region 15 with (go_at_call 170;refine ((gB (k:=k3) (R:=fun _ v=>v=.bool false) g2 (fun _ _=>by rw [decide_eq_false c])) k3 (Up.refl _) _ G3.core.sees).mono ?_;rintro e w3 ⟨v,k4,rfl,s3,b4,b5,rfl⟩)
      have GE:=G3.step s3 b4 b5;have o1:w3.heap[w.heap.size+1]?=some (.cells (cel24 vs) 218 (0,0)):=GE.out;have o2:w3.heap[w.heap.size]?=some (.cells (cel24 fun _=>.slice none 0 0) 218 (0,0)):=GE.res;obtain⟨ys,hys⟩:∃ys,ys=cel24 vs:=⟨_,rfl⟩;obtain⟨zs',hzs'⟩:∃zs',zs'=cel24 fun _=>Value.slice none 0 0:=⟨_,rfl⟩;have hy24:ys.size=24∧zs'.size=24:=by rw [hys,hzs'];simp [cel24]
      have hi2:(Tryz.prog.info? 218).map (·.size)=some ys.size:=by rw [hy24.1];exact lM
      have ho:zs'.size=ys.size:=by rw [hy24.1,hy24.2]
      have h12:ys.all (·.oneCell')=true:=by rw [hys];exact iP fun p hp=>by obtain⟨_,_,e1,_⟩:=hv.out p hp;rw [e1];rfl
      rw [←hys]at o1;rw [←hzs']at o2;replace o1:=ou o1;replace o2:=ou o2;replace hi2:=ou hi2;replace h12:=ou h12;replace hys:=ou hys;clear hy24 hzs';refine wp_region_list (wpList_load_row rfl 218 (.tmp 6) rfl _ rfl 218 ys (0,0) _ o1.out hu.out rfl hi2.out (wpList_store_row rfl 218 (.tmp 4) (.tmp 47) rfl _ ys rfl rfl 218 zs' o2.out hi2.out ho h12.out ?_));obtain⟨W',hW'⟩:∃W',W'=w3.setRow w.heap.size ys:=⟨_,rfl⟩;rw [←hW'];have hr:W'.heap[w.heap.size]?=some (.cells ys 218 (0,0)):=by
       rw [hW',Sy.setRow_putBlk o2.out];exact Sy.Blk.put o2.out _
      have hl2:(loadVar 218 ⟨w.heap.size,0,none⟩).run Tryz.prog W'=.ok (.agg ys) W':=run_loadVar_row W' _ _ _ _ (0,0) _ hr hu.out rfl hi2.out;replace hW':=ou (hW'.trans (Sy.setRow_putBlk o2.out));replace hr:=ou hr;replace hl2:=ou hl2;clear ho
      go_wp2
      exact kJ rfl rfl hl2.out (vD hys.out GE hW'.out hv.out hz hz' ‹_› ‹_› ‹_› hlt 2 oz c)
    ·have c8:wr.cell? ⟨B,y,none⟩=some (.float .f32 (f j y)):=by
      rcases (show y=0∨y=1∨y=2 by omega) with rfl|rfl|rfl
      ·exact B8'.cell 0
      ·exact B8'.cell 1
      ·exact B8'.cell 2
     have hyv:f j y<2^32∧cO (f j y)<255:=by
      rcases (show y=0∨y=1∨y=2 by omega) with rfl|rfl|rfl
      ·exact⟨g0,hfin 0 oq⟩
      ·exact⟨g1,hfin 1 oq⟩
      ·exact⟨g2,hfin 2 oq⟩
     replace B8':=ou B8'
     go_wp2_with (go_at_call 61;refine ((aCi (k:=k3) (R:=fun k' v=>∃a0 A n c D d e,v=.tuple #[.agg #[.bool a0,.slice A n c,.slice D d e],.int .i64 0]∧RatV k' #[.bool a0,.slice A n c,.slice D d e] (lP (f j y)) 1200) hyv.1 (fun k' ds _ hd=>by rw [og hyv.2];have hd':=hd;obtain⟨a0,A,n,c,D,d,e,rfl,_⟩:=hd';exact⟨a0,A,n,c,D,d,e,rfl,hd⟩)) k3 (Up.refl _) _ G3.core.sees).mono ?_;rintro e w3 ⟨v,k4,rfl,s3,b4,b5,a0,A',n',c',D,d,e,rfl,hq⟩)
     obtain⟨B1,hB1⟩:∃B1,B1=w3.heap.size:=⟨_,rfl⟩;obtain⟨W2,hW2'⟩:∃W2,W2=w3.alloc (.cells #[.bool a0,.slice A' n' c',.slice D d e] 88):=⟨_,rfl⟩;rw [←hW2',←hB1];have hsc:∀u∈[Value.bool a0,.slice A' n' c',.slice D d e],u.scalar=true∧u.noWord=true:=by simp [Value.scalar,Value.noWord]
     obtain⟨k5,u5',G5⟩:=(G3.step s3 b4 b5).alloc (us:=[.bool a0,.slice A' n' c',.slice D d e]) (fun u hu=>(hsc u hu).2) 88;have B11:Sy.Blk W2 B1 88 #[.bool a0,.slice A' n' c',.slice D d e]:=by rw [hW2',hB1];exact heap_alloc_new w3 _
     rw [show w3.alloc (.cells [Value.bool a0,.slice A' n' c',.slice D d e].toArray 88)=W2 from hW2'.symm]at G5;clear hW2' c8;replace hB1:=ou hB1;obtain⟨k6,u6',G6⟩:=G5.alloc (us:=[.bool a0,.slice A' n' c',.slice D d e]) (fun u hu=>(hsc u hu).2) 88;obtain⟨p,hp⟩:∃p,p=j % 24:=⟨_,rfl⟩;have hp24:p<24:=oq
     obtain⟨Av,cv,ev,hav⟩:=hv.out p hp24;have hnew:=heap_alloc_new W2 (.cells #[.bool a0,.slice A' n' c',.slice D d e] 88);have G7:Grid k w k6 (W2.alloc (.cells #[.bool a0,.slice A' n' c',.slice D d e] 88)).drew (w.heap.size+1) w.heap.size vs XS:=G6.drew _;have G5':Grid k w k5 W2.drew (w.heap.size+1) w.heap.size vs XS:=G5.drew _;have hnews:∀(j:Nat) u,[Value.bool a0,.slice A' n' c',.slice D d e][j]?=some u→(W2.alloc (.cells #[.bool a0,.slice A' n' c',.slice D d e] 88)).drew.cell? ((⟨W2.heap.size,0,none⟩:Addr).add j)=some u:=World.news_of_block (cs:=#[.bool a0,.slice A' n' c',.slice D d e]) (heap_alloc_new W2 _);obtain⟨i0,hi0,hz0,hz1,hz2⟩:=info_parts aTk;obtain⟨A2,c2,w1,k7,hrun,u7,Bo,hsz,G8⟩:=G7.app (P:=Tryz.prog) (ty:=145) hp24 Tryz.underlying145 hi0 hz0 hz1 rfl (by rw [hz2];decide) (fun u hu=>by simp [Value.cells]at hu;rcases hu with rfl|rfl|rfl <;> rfl) ev rfl oq hnews hsc;have co1:W2.drew.cell? ⟨w.heap.size+1,p,none⟩=some (.slice Av ((j+23-p) / 24) cv):=by rw [G5'.out.cell,lI hp24,ev]
     have co2:(W2.alloc (.cells #[.bool a0,.slice A' n' c',.slice D d e] 88)).drew.cell? ⟨w.heap.size+1,p,none⟩=some (.slice Av ((j+23-p) / 24) cv):=by rw [G7.out.cell,lI hp24,ev]
     have co3:w1.cell? ⟨w.heap.size+1,p,none⟩=some (.slice Av ((j+23-p) / 24) cv):=by rw [Bo.cell,lI hp24,ev]
     have fz3:w1.frozen? ⟨w.heap.size+1,p,none⟩=false:=Bo.frozen p;have kb1:Sy.Blk W2.drew B1 88 #[.bool a0,.slice A' n' c',.slice D d e]:=B11;have kb2:Sy.Blk (W2.alloc (.cells #[.bool a0,.slice A' n' c',.slice D d e] 88)).drew B1 88 #[.bool a0,.slice A' n' c',.slice D d e]:=(Below.heap_alloc _ _ _ B11.lt).trans B11;subst hp;replace hrun:=ou hrun;replace G8:=ou G8;replace Bo:=ou Bo;replace hsz:=ou hsz;replace hq:=ou hq;replace ev:=ou ev;clear G7 G6 G5 G5' hnews hnew;have hm0:(0:Int)≤(j:Int) % 24:=oq
     have hm1:(j:Int) % 24<24:=oq
     have hm2:((j:Int) % 24).toNat=j % 24:=oq
     have hm3:Int.tmod (j:Int) 24=((j % 24:Nat):Int):=(Int.ofNat_tmod j 24).symm;have hm4:(0:Int)≤((j % 24:Nat):Int):=oq
     have hm5:((j % 24:Nat):Int)<24:=oq
     have hm6:j % 24<24:=oq
     have ka0:=kb1.cell 0;have ka1:=kb1.cell 1;have ka2:=kb1.cell 2;have kc0:=kb2.cell 0;have kc1:=kb2.cell 1;have kc2:=kb2.cell 2;clear kb1 kb2
     go_region_law (refine aLu rfl (.tmp 61) (.tmp 63) 145 rfl rfl rfl hrun.out ?_)
     all_goals
      go_wp2
      go_roundw
      case rel=>exact⟨j+1,oq,by go_num,aAw hn hlt (u1.out.trans (u2.trans (u3.trans ((Up.of_below b4).trans (u5'.trans (u6'.trans u7)))))) G8.out ((u2.trans (u3.trans ((Up.of_below b4).trans (u5'.trans (u6'.trans u7))))) ) ((u5'.trans (u6'.trans u7))) hv.out hf.out hfin hq.out⟩
      case measure=>simp [intOf];omega
  ·have ej:j=n:=oq
   subst ej;replace hv:=ou hv
   go_upto_region 20 with (fail)
   have o1:wr.heap[w.heap.size+1]?=some (.cells (cel24 vs) 218 (0,0)):=G.out;have o2:wr.heap[w.heap.size]?=some (.cells (cel24 fun _=>.slice none 0 0) 218 (0,0)):=G.res;obtain⟨ys,hys⟩:∃ys,ys=cel24 vs:=⟨_,rfl⟩;obtain⟨zs',hzs'⟩:∃zs',zs'=cel24 fun _=>Value.slice none 0 0:=⟨_,rfl⟩;have hy24:ys.size=24∧zs'.size=24:=by rw [hys,hzs'];simp [cel24]
   have hi2:(Tryz.prog.info? 218).map (·.size)=some ys.size:=by rw [hy24.1];exact lM
   have ho:zs'.size=ys.size:=by rw [hy24.1,hy24.2]
   have h12:ys.all (·.oneCell')=true:=by rw [hys];exact iP fun p hp=>by obtain⟨_,_,e1,_⟩:=hv.out p hp;rw [e1];rfl
   rw [←hys]at o1;rw [←hzs']at o2;replace o1:=ou o1;replace o2:=ou o2;replace hi2:=ou hi2;replace h12:=ou h12;replace hys:=ou hys;clear hy24 hzs';refine wp_region_list (wpList_load_row rfl 218 (.tmp 6) rfl _ rfl 218 ys (0,0) _ o1.out hu.out rfl hi2.out (wpList_store_row rfl 218 (.tmp 4) (.tmp 67) rfl _ ys rfl rfl 218 zs' o2.out hi2.out ho h12.out ?_));obtain⟨W',hW'⟩:∃W',W'=wr.setRow w.heap.size ys:=⟨_,rfl⟩;rw [←hW'];have hr:W'.heap[w.heap.size]?=some (.cells ys 218 (0,0)):=by
    rw [hW',Sy.setRow_putBlk o2.out];exact Sy.Blk.put o2.out _
   have hl2:(loadVar 218 ⟨w.heap.size,0,none⟩).run Tryz.prog W'=.ok (.agg ys) W':=run_loadVar_row W' _ _ _ _ (0,0) _ hr hu.out rfl hi2.out;replace hW':=ou (hW'.trans (Sy.setRow_putBlk o2.out));replace hr:=ou hr;replace hl2:=ou hl2;clear ho
   go_wp2
   exact kJ rfl rfl hl2.out (aSy hys.out G hW'.out hv.out hf hz hz' ‹_› ‹_› ‹_›)
end Go.Proofs.YtifcjpacobpdmaaGreat

namespace Go.Proofs.YtifcjpacobpdmaaGreat
open Go.RowKit Num Plain W32 FT
open Sy (Up Sees CallsG Seg RowC ReadAt cellAt)
open Rd
theorem aKa {P:Program}{f:FuncId}{args:Array Value}{k:World}{F:World→World→Value→Prop}{G:World→Value→Prop}
 (hF:∀w w' k' v,Sees k w→F w w' v→Up k k'→k'.heap.size=w'.heap.size→(∀g,k.heap.size≤g→k'.heap[g]?=w'.heap[g]?)→G k' v)
 (h:∀w,Sees k w→Calls P f args w fun e w'=>(∃v,e=.returned v∧F w w' v)∧Below w.heap.size w w'):CallsG P f args k G:=by
 classical
 intro w hs;refine (h w hs).mono ?_;rintro e w' ⟨⟨v,rfl,hv⟩,hb⟩
 let k':World:={ w' with heap:=w'.heap.mapIdx fun i o=>if k.heap[i]?=some Sy.dead then Sy.dead else o }
 have hk:∀(g:Nat),k'.heap[g]?=(w'.heap[g]?).map fun o=>if k.heap[g]?=some Sy.dead then Sy.dead else o:=fun g=>by
  show (w'.heap.mapIdx _)[g]?=_;rw [Array.getElem?_mapIdx]
 have hsize:k'.heap.size=w'.heap.size:=by simp [k']
 have hbel:Below k.heap.size k k':=by
  refine⟨hb.os.trans hs.os,hb.tape.trans hs.tape,hb.output.trans hs.output,by rw [hsize,←hs.size];exact hb.size,fun g hg=>?_⟩;rw [hk];have hlt:g<w.heap.size:=by rw [hs.size];exact hg
  rw [hb.block g hlt]
  by_cases hd:k.heap[g]?=some Sy.dead
  ·rw [ot hlt];simp [hd]
  ·rw [ot hg]at hd ⊢;have:=hs.live g _ (ot hg) (fun e=>hd (by rw [e]));rw [this];simp [hd]
 refine⟨v,k',rfl,?_,hbel,hb,hF w w' k' v hs hv (Up.of_below hbel) hsize fun g hg=>?_⟩
 ·refine⟨rfl,rfl,rfl,hsize.symm,fun g o hg hd=>?_,fun g hg=>?_⟩
  ·rw [hk]at hg;cases hw:w'.heap[g]? with
   | none=>rw [hw]at hg;cases hg
   | some o'=>
    rw [hw]at hg;simp only [jd,qn]at hg;split at hg
    ·exact absurd hg.symm hd
    ·rw [hg]
  ·rw [hk]at hg;cases hw:w'.heap[g]? with
   | none=>rw [hw]at hg;cases hg
   | some o'=>
    rw [hw]at hg;simp only [jd,qn]at hg;split at hg
    ·rename_i hd;obtain⟨cs,t,fr,h1,h2⟩:=hs.dark g hd;refine⟨cs,t,fr,?_,h2⟩;rw [←hw,hb.block g (Sy.heap_lt h1)];exact h1
    ·rw [hg];exact⟨#[],0,(1,0),rfl,by simp⟩
 ·have e:k.heap[g]?=none:=qi hg;rw [hk,e];cases w'.heap[g]? <;> simp
theorem aOn {k w:World}{g q:Nat}(h:k.heap[g]?=w.heap[g]?):k.cell? ⟨g,q,none⟩=w.cell? ⟨g,q,none⟩:=by
 unfold World.cell?;rw [h]
theorem aCt {vs:Nat→Value}(h:∀j,j<24→∃A m c,vs j=.slice A m c):Seg 24 (cel24 vs):=by
 refine⟨by simp [cel24],fun u hu=>?_⟩;unfold cel24 at hu;simp only [List.mem_map,List.mem_range]at hu;obtain⟨j,hj,rfl⟩:=hu;obtain⟨A,m,c,e⟩:=h j hj;rw [e];exact⟨rfl,rfl⟩
theorem aQg {k k' w':World}{n:Nat}{z:Int}{f:Nat→Nat→Nat}{vs:Nat→Value}(hok:∃(k1:World) (XS:Nat→Array Value),Below k.heap.size k k1∧Sees k1 w'∧∀p,p<24→∃A c,vs p=.slice A (n/24) c∧n/24≤c∧ArrV (n/24) 3 (fun a v=>RatV k1 a v 1200) (XS p) (rdV f z.toNat p)∧RowC (XS p)∧
 ∀(q:Nat) u,(XS p)[q]?=some u→∃g,A=some ⟨g,0,none⟩∧k.heap.size≤g∧w'.cell? ⟨g,q,none⟩=some u) (u:Up k k') (hsz:k'.heap.size=w'.heap.size) (hk:∀g:Nat,k.heap.size≤g→k'.heap[g]?=w'.heap[g]?):RowsV k' (cel24 vs) (n/24) (rdV f z.toNat):=by
 obtain⟨k1,XS,b1,s1,h⟩:=hok;have u1:Up k1 k':=by
  refine⟨?_,?_,?_,by rw [hsz,s1.size];exact oy _,fun g o hg hd=>?_⟩
  ·rw [u.os,b1.os]
  ·rw [u.tape,b1.tape]
  ·rw [u.output,b1.output]
  ·rcases zk g k.heap.size with hlt|hge
   ·exact u.live g o ((b1.block g hlt).symm.trans hg) hd
   ·rw [hk g hge];exact s1.live g o hg hd
 intro j hj;obtain⟨A,c,e1,e2,e3,e4,e5⟩:=h j hj;refine⟨A,c,?_,e2,XS j,fun q v hv=>?_,e4,ArrV.mono e3 fun _ _ h=>h.up u1⟩
 ·rw [vt,zr];unfold Sy.celD;rw [lI hj,e1]
 ·obtain⟨g,rfl,g1,g2⟩:=e5 q v hv;refine⟨g,0,rfl,?_,by rw [qe,aOn (hk g g1)];exact g2⟩;rw [hsz];unfold World.cell? at g2;split at g2
  ·rename_i hb;exact (jr.1 hb).1
  ·cases g2
theorem yX:aAa:=by
 intro k R A n c f z hl hn C k0 u0;replace hl:=hl.up u0;replace C:=fun k' cs u=>C k' cs (u0.trans u)
 by_cases hz:0≤z∧z≤2
 ·obtain⟨y,rfl⟩:∃y:Nat,z=(y:Int):=⟨z.toNat,oq⟩;refine aKa (F:=fun _ w' v=>RdF k0 w' n (y:Nat) f v) ?_ fun w hs=>aQd hs hl hn oq (decide_eq_false oq) (decide_eq_false oq);rintro w w' k' v _ ⟨vs,rfl,hsl,hok⟩ u hsz hk;exact C k' _ u (aCt hsl) fun e=>aQg (hok e) u hsz hk
 ·have e:=aTa (n:=n) (f:=f) hz;rw [e]at C;refine aKa (F:=fun _ _ v=>v=.tuple #[.agg (cel24 fun _=>.slice none 0 0),.int .i64 1]) ?_ fun w hs=>(aUb ?_).mono ?_
  ·rintro w w' k' v _ rfl u _ _;exact C k' _ u (aCt fun _ _=>⟨_,_,_,rfl⟩) fun c=>by cases c
  ·by_cases c:z<0
   ·exact .inl (decide_eq_true c)
   ·exact .inr ⟨decide_eq_false c,decide_eq_true oq⟩
  ·rintro e' w' ⟨rfl,hb⟩;exact⟨⟨_,rfl,rfl⟩,hb⟩
section
variable {k k':World}{R:World→Value→Prop}{A:Option Addr}{n c:Nat}{f:Nat→Nat→Nat}{z:Int}
end
