/- Several texts in one. (Printed by prep.py.) -/
import Derived.Test.YtebaclefnpipfaaGreatTeDL
namespace Go.Proofs.YtebaclefnpipfaaGreat
theorem aOp {l:List PRate}(h:bL l=0) {i:Nat}(hi:i<l.length):0≤(at_ l i).v:=by
 unfold bL at h;split at h
 ·cases h
 ·have:=cY h i hi;unfold gA at this;split at this
  ·cases this
  ·split at this
   ·cases this
   ·rename_i hn;exact zu.1 hn
theorem aSp {l:List PRate}(h:bL l=0) (t:Rat):0≤spd l t:=by
 unfold spd;split
 ·exact wg
 ·have h1:upto l t≤l.length:=(List.takeWhile_sublist _).length_le;exact aOp h oq
section
variable {s:PSec}{x:PState}{u v:Rat}
theorem aUv (h:aF s=0) {i:Nat}(hi:i<s.mats.length):bL (at_ s.mats i).cure=0∧bL (at_ s.mats i).spoil=0:=by
 have:=cY (lK h) i hi;unfold nU at this
 by_cases c1:bL (at_ s.mats i).cure=0
 ·rw [oh (by simp [c1])]at this
  by_cases c2:bL (at_ s.mats i).spoil=0
  ·exact⟨c1,c2⟩
  ·rw [og c2]at this;exact absurd this c2
 ·rw [og c1]at this;exact absurd this c1
theorem sT {B t:Rat}{T:PLink→Rat}:∀(ls:List PLink) (a c:Rat),a≤c*(B-t)→(∀l∈ls,0≤l.v∧T l≤B)→ls.foldl (fun a l=>a+l.v*(T l-t)) a≤ls.foldl (fun c l=>c+l.v) c*(B-t)
 | [],a,c,h,_=>h
 | l :: ls,a,c,h,hl=>by
  obtain⟨h0,h1⟩:=hl l (by simp);rw [xj,xj];refine sT ls _ _ ?_ fun y hy=>hl y (by simp [hy]);have:=zp (show T l-t≤B-t by grind) h0
  grind
theorem sS {B t:Rat}{T:PLink→Rat}:∀(ls:List PLink) (a c:Rat),c*(B-t)≤a→(∀l∈ls,0≤l.v∧B≤T l)→ls.foldl (fun c l=>c+l.v) c*(B-t)≤ls.foldl (fun a l=>a+l.v*(T l-t)) a
 | [],a,c,h,_=>h
 | l :: ls,a,c,h,hl=>by
  obtain⟨h0,h1⟩:=hl l (by simp);rw [xj,xj];refine sS ls _ _ ?_ fun y hy=>hl y (by simp [hy]);have:=zp (show B-t≤T l-t by grind) h0
  grind
theorem aNy (h:aF s=0) {i:Nat}(hi:i<s.cells.length):tot s.links i ((at_ s.cells i).steam+(at_ s.cells i).air)≤(at_ s.cells i).cap:=by
 have:=cY (aSe h) i hi;unfold qG at this;split at this
 ·cases this
 ·rename_i hn;exact zu.1 hn
theorem aAp (h:aF s=0) {z:PLink}(hz:z∈s.links):0≤z.v:=by
 obtain⟨j,hj,e⟩:=yz hz;rw [←e,←cH hj];exact (aSd h hj).2.2.2
theorem mO (h:aF s=0) {i:Nat}(_hi:i<s.cells.length) {z:PLink}(hz:z∈nbm s.links i):(z.a+z.b-(i:Int)).toNat<s.cells.length:=by
 obtain⟨h1,h2⟩:=lH hz;have:=eK (dP h) z h1;omega
structure Btw (s:PSec) (x:PState) (u v:Rat) (lo hi:Rat):Prop where
 temp:∀j,j<s.cells.length→lo≤at_ x.temp j∧at_ x.temp j≤hi
 steam:∀j,j<s.cells.length→(at_ s.cells j).steam≠0→lo≤u∧u≤hi
 air:∀j,j<s.cells.length→(at_ s.cells j).air≠0→lo≤v∧v≤hi
theorem tO {w T B t:Rat}(hw:0≤w) (h:w≠0→T≤B):w*(T-t)≤w*(B-t):=by
 by_cases c:w=0
 ·rw [c];grind
 ·exact zp (by have:=h c;grind) hw
theorem tN {w T B t:Rat}(hw:0≤w) (h:w≠0→B≤T):w*(B-t)≤w*(T-t):=by
 by_cases c:w=0
 ·rw [c];grind
 ·exact zp (by have:=h c;grind) hw
theorem yR {lo hi:Rat}(h:aF s=0) (hb:Btw s x u v lo hi) {i:Nat}(hi':i<s.cells.length):lo≤fQ s x u v i∧fQ s x u v i≤hi:=by
 obtain⟨_,_,hc,hs,ha⟩:=gD h hi';have ht:=aNy h hi';obtain⟨b0,b1⟩:=hb.temp i hi';have hne:(at_ s.cells i).cap≠0:=fun e=>by rw [e]at hc;exact absurd hc oz
 have hd:flow s x u v i/(at_ s.cells i).cap*(at_ s.cells i).cap=flow s x u v i:=ke hne;have nb:∀l∈nbm s.links (i:Int),0≤l.v∧(lo≤at_ x.temp (l.a+l.b-(i:Int)).toNat∧at_ x.temp (l.a+l.b-(i:Int)).toNat≤hi):=fun l hl=>⟨aAp h (lH hl).1,hb.temp _ (mO h hi' hl)⟩;have up:flow s x u v i≤tot s.links i ((at_ s.cells i).steam+(at_ s.cells i).air)*(hi-at_ x.temp i):=by
  refine sT _ _ _ ?_ fun l hl=>⟨(nb l hl).1,(nb l hl).2.2⟩;have p:=tO (T:=u) (B:=hi) (t:=at_ x.temp i) hs fun e=>(hb.steam i hi' e).2;have q:=tO (T:=v) (B:=hi) (t:=at_ x.temp i) ha fun e=>(hb.air i hi' e).2
  grind
 have dn:tot s.links i ((at_ s.cells i).steam+(at_ s.cells i).air)*(lo-at_ x.temp i)≤flow s x u v i:=by
  refine sS _ _ _ ?_ fun l hl=>⟨(nb l hl).1,(nb l hl).2.1⟩;have p:=tN (T:=u) (B:=lo) (t:=at_ x.temp i) hs fun e=>(hb.steam i hi' e).1;have q:=tN (T:=v) (B:=lo) (t:=at_ x.temp i) ha fun e=>(hb.air i hi' e).1
  grind
 have up2:=vz ht (show 0≤hi-at_ x.temp i by grind);have dn2:=vz ht (show 0≤at_ x.temp i-lo by grind);unfold fQ;constructor
 ·by_cases c:lo≤at_ x.temp i+flow s x u v i/(at_ s.cells i).cap
  ·exact c
  ·have hp:0<((lo-at_ x.temp i)-flow s x u v i/(at_ s.cells i).cap)*(at_ s.cells i).cap:=Rat.mul_pos (by grind) hc
   grind
 ·by_cases c:at_ x.temp i+flow s x u v i/(at_ s.cells i).cap≤hi
  ·exact c
  ·have hp:0<(flow s x u v i/(at_ s.cells i).cap-(hi-at_ x.temp i))*(at_ s.cells i).cap:=Rat.mul_pos (by grind) hc
   grind
end
open Go.RowKit Num W32
open Sy (Up Sees CallsG Seg)
def MM:Int:=9223372036854775808
def Mag (q:Rat):Prop:=((-MM:Int):Rat)≤q∧q≤((MM:Int):Rat)
def Sm (q:Rat):Prop:=∃a:Int,q=mkRat a (2^40)∧-(MM*2^40)≤a∧a≤MM*2^40
theorem aNc {q:Rat}{m:Int}:(m:Rat)≤q↔m*q.den≤q.num:=by
 rw [Rat.le_iff];simp
theorem aMu {q:Rat}{m:Int}:q≤(m:Rat)↔q.num≤m*q.den:=by
 rw [Rat.le_iff];simp
theorem Mag.neg {q:Rat}(h:Mag q):Mag (-q):=by
 obtain⟨h1,h2⟩:=h;constructor
 ·have:=Rat.neg_le_neg h2
  rwa [←ww]at this
 ·have:=Rat.neg_le_neg h1
  rwa [←ww,Int.neg_neg]at this
theorem Sm.neg {q:Rat}(h:Sm q):Sm (-q):=by
 obtain⟨a,rfl,h1,h2⟩:=h;exact⟨-a,(tF _ _).symm,oq,oq⟩
theorem Sm.mag {q:Rat}(h:Sm q):Mag q:=by
 obtain⟨a,rfl,h1,h2⟩:=h;have e:∀m:Int,(m:Rat)=mkRat (m*2^40) (2^40):=fun m=>by
  rw [kR];have:(((2^40:Nat):Int):Rat)≠0:=by decide +kernel
  rw [show ((m*2^40:Int):Rat)=(m:Rat)*(((2^40:Nat):Int):Rat) from zy m ((2^40:Nat):Int)];exact (Rat.mul_div_cancel this).symm
 have le:∀x y:Int,x≤y→mkRat x (2^40)≤mkRat y (2^40):=fun x y h=>by
  rw [kR,kR,uj,uj];exact vz (vv.2 h) (by decide +kernel)
 exact⟨by rw [e];exact le _ _ (by rw [Int.neg_mul];exact h1),by rw [e];exact le _ _ h2⟩
theorem aAh {q:Rat}(h:Mag q):Sm (jO q):=by
 obtain⟨h1,h2⟩:=h;rw [aNc]at h1;rw [aMu]at h2;have hd:(0:Int)<q.den:=by have:=q.den_pos;omega
 refine⟨q.num*((2^40:Nat):Int) / (q.den:Int),rfl,?_,?_⟩
 ·rw [Int.le_ediv_iff_mul_le hd];have:=Int.mul_le_mul_of_nonneg_right h1 (show (0:Int)≤2^40 by decide);rw [show -(MM*2^40)*(q.den:Int)=-MM*q.den*2^40 by rw [←Int.neg_mul,Int.mul_right_comm]];exact this
 ·refine Int.ediv_le_of_le_mul hd ?_;have:=Int.mul_le_mul_of_nonneg_right h2 (show (0:Int)≤2^40 by decide);rw [show MM*2^40*(q.den:Int)=MM*q.den*2^40 by rw [Int.mul_right_comm]];exact this
theorem aQl {q:Rat}(h:Mag q):Sm (pU q):=(aAh h.neg).neg
theorem Sm.wd {q:Rat}(h:Sm q):Wd q 2:=by
 obtain⟨a,e,h1,h2⟩:=h;refine⟨a,2^40,oz,e,?_,oz⟩;unfold MM at h1 h2;have:B64^2=340282366920938463463374607431768211456:=oz
 rw [this];omega
theorem Lst.monoI {α:Type}[Inhabited α] {k:World}{A:Option Addr}{n s:Nat}{P Q:Array Value→α→Prop}{l:List α}(h:Lst k A n s P l) (hP:∀i a,i<l.length→P a (at_ l i)→Q a (at_ l i)):Lst k A n s Q l:=by
 obtain⟨e,xs,h1,h2,h3⟩:=h;exact⟨e,xs,h1,h2,Arr.mono h3 fun i a hi h=>hP i a oq h⟩
theorem StateW.tightP {k:World}{A B C:Option Addr}{n n' n'' W T:Nat}{x:PState}(h:StateW (NP W) (NP T) k A n B n' C n'' x) (hs:∀i,i<x.temp.length→Sm (at_ x.temp i)) (hT:2≤T):StateV (NP T) k A n B n' C n'' x:=
 ⟨h.temp.monoI fun i _ hi g=>(g.cut (hs i hi).wd).mono hT,h.cure,h.spoil⟩
def rY (x:PState):Prop:=∀i,i<x.temp.length→Mag (at_ x.temp i)
structure MagR (r:PRange):Prop where
 s0:Mag r.s0
 s1:Mag r.s1
 a0:Mag r.a0
 a1:Mag r.a1
theorem uM {s:PSec}{x:PState}{u v:Rat}(hE:aF s=0) (hz:sized s x) (h:rY x) (hu:Mag u) (hv:Mag v) {i:Nat}(hi:i<s.cells.length):Mag (fQ s x u v i):=
 yR hE ⟨fun j hj=>h j (by rw [hz.1];exact hj),fun _ _ _=>hu,fun _ _ _=>hv⟩ hi
theorem aCg {s:PSec}{b:PBand}{r:PRange}(hE:aF s=0) (hz:sized s b.lo) (hz':sized s b.hi) (h:rY b.lo) (h':rY b.hi) (hr:MagR r) :
 (∀i,i<(jJ s b r).lo.temp.length→Sm (at_ (jJ s b r).lo.temp i))∧∀i,i<(jJ s b r).hi.temp.length→Sm (at_ (jJ s b r).hi.temp i):=by
 constructor
 ·intro i hi;have hi:i<s.cells.length:=by simpa [jJ,dH] using hi
  rw [show at_ (jJ s b r).lo.temp i=jO (fQ s b.lo r.s0 r.a0 i) from aM hi];exact aAh (uM hE hz h hr.s0 hr.a0 hi)
 ·intro i hi;have hi:i<s.cells.length:=by simpa [jJ,dH] using hi
  rw [show at_ (jJ s b r).hi.temp i=pU (fQ s b.hi r.s1 r.a1 i) from aM hi];exact aQl (uM hE hz' h' hr.s1 hr.a1 hi)
def advN (s:PSec) (r:PRange):Nat→PBand→PBand
 | 0,b=>b
 | k+1,b=>jJ s (advN s r k b) r
structure OkB (s:PSec) (b:PBand):Prop where
 lo:sized s b.lo
 hi:sized s b.hi
 magl:rY b.lo
 magh:rY b.hi
theorem OkB.adv {s:PSec}{b:PBand}{r:PRange}(hE:aF s=0) (hr:MagR r) (h:OkB s b):OkB s (jJ s b r):=by
 obtain⟨h1,h2⟩:=aCg hE h.lo h.hi h.magl h.magh hr;exact⟨qW,qW,fun i hi=>(h1 i hi).mag,fun i hi=>(h2 i hi).mag⟩
theorem OkB.advN {s:PSec}{b:PBand}{r:PRange}(hE:aF s=0) (hr:MagR r) (h:OkB s b):∀k,OkB s (advN s r k b)
 | 0=>h
 | k+1=>(OkB.advN hE hr h k).adv hE hr
def dS (p:Nat→Bool):Nat→Nat
 | 0=>0
 | n+1=>if dS p n<n then dS p n else if p n=true then n else n+1
theorem iB {p:Nat→Bool}:∀ {n:Nat},(∀i,i<n→p i=false)→dS p n=n
 | 0,_=>rfl
 | n+1,h=>by
  unfold dS;rw [iB fun i hi=>h i oq,oh oq,oh (by rw [h n oq];decide)]
theorem iC {p:Nat→Bool}{j:Nat}(h:∀i,i<j→p i=false) (hj:p j=true):∀ {n:Nat},j<n→dS p n=j
 | 0,hn=>by omega
 | n+1,hn=>by
  unfold dS
  by_cases e:j=n
  ·subst e;rw [iB h,oh oq,og hj]
  ·rw [iC h hj oq,og oq]
def kH (s:PSec) (b:PBand) (r:PRange) (most:Int):Int:=if jZ s b r≠0 then jZ s b r else if most<0∨2000<most then 1 else 0
def rG (s:PSec) (b:PBand) (r:PRange) (most:Nat):Nat:=dS (fun k=>decide (iU s (advN s r k b).lo)) (most+1)
def aGe (s:PSec) (b:PBand) (r:PRange):Nat→Int
 | 0=>-1
 | k+1=>fA s (advN s r k b).lo
structure Cyc where
 (steps slow fast:Int) (fin:PBand) (e:Int)
def aFz (e:Int):Cyc:=⟨0,0,0,⟨rP,rP⟩,e⟩
def oY (s:PSec) (b:PBand) (r:PRange) (most:Int):Cyc:=
 if kH s b r most≠0 then aFz (kH s b r most)
 else if most<rG s b r most.toNat then aFz 5
 else ⟨rG s b r most.toNat,aGe s b r (rG s b r most.toNat),aAe s (advN s r (rG s b r most.toNat) b).hi,advN s r (rG s b r most.toNat) b,if bU s (advN s r (rG s b r most.toNat) b).hi then 61 else 0⟩
def aWk (s:PSec) (b:PBand) (r:PRange) (most:Nat):Nat:=dS (fun k=>decide (bU s (advN s r (k+1) b).hi)) most
def aXi (s:PSec) (b:PBand) (r:PRange) (most:Int):Int×Int:=
 if kH s b r most≠0 then (0,kH s b r most) else if bU s b.hi then (0,61) else (aWk s b r most.toNat,0)
theorem uJ {K d T T':Nat}(h:T≤T'):aU K d T≤aU K d T':=by
 unfold aU;have:=qr d (show K+2*T+2≤K+2*T'+2 by omega);omega
theorem aUg {s:PSec}{b:PBand}{r:PRange}{most:Int}(h:kH s b r most=0):jZ s b r=0∧0≤most∧most≤2000:=by
 unfold kH at h;split at h
 ·rename_i g;exact absurd h g
 ·rename_i g;split at h
  ·cases h
  ·rename_i g';exact⟨zt.1 g,oq,oq⟩
theorem eT {s:PSec}{x:PState}(hz:sized s x) (h:s.cells.length≤24):uG x:=by
 obtain⟨z1,z2,z3⟩:=hz;exact⟨oq,oq,oq⟩
section
variable {k k':World}{R:World→Value→Prop}{c0 c1 c2 c3:Array Value}{s:PSec}{b:PBand}{r:PRange}{K L T W d n0 n1 n2 d0 d1 d2 n3 n4 n5 d3 d4 d5 n6 d6 n7 d7 n8 d8:Nat}{A0 A1 A2 A3 A4 A5 A6 A7 A8:Option Addr}{most:Int}
theorem zH (hl:StateV (NP T) k A3 n3 A4 n4 A5 n5 b.lo) (hh:StateV (NP T) k A6 n6 A7 n7 A8 n8 b.hi) (hn:uG b.lo) (hn':uG b.hi)
 (C:∀k' B0 m0 e0 B1 m1 e1 B2 m2 e2 B3 m3 e3 B4 m4 e4 B5 m5 e5,Up k k'→StateV (NP T) k' B0 m0 B1 m1 B2 m2 b.lo→StateV (NP T) k' B3 m3 B4 m4 B5 m5 b.hi→R k' (S6 B0 m0 e0 B1 m1 e1 B2 m2 e2 B3 m3 e3 B4 m4 e4 B5 m5 e5)) :
 Cl k 38 #[S6 A3 n3 d3 A4 n4 d4 A5 n5 d5 A6 n6 d6 A7 n7 d7 A8 n8 d8] R:=by
 intro k0 u0;have hM:=aD T;refine aGv (oR (StateV.up hM hl u0) (by rw [hl.temp.1];exact hn.1) (by rw [hl.cure.1];exact hn.2.1) (by rw [hl.spoil.1];exact hn.2.2) fun k1 B0 e0 B1 e1 B2 e2 u1 h1=>⟨_,_,_,_,_,_,_,_,_,rfl,?_⟩);refine oR (StateV.up hM hh (u0.trans u1)) (by rw [hh.temp.1];exact hn'.1) (by rw [hh.cure.1];exact hn'.2.1) (by rw [hh.spoil.1];exact hn'.2.2) fun k3 B3 e3 B4 e4 B5 e5 u3 h3=>⟨_,_,_,_,_,_,_,_,_,rfl,fun k4 u4=>?_⟩;exact C k4 _ _ _ _ _ _ _ _ _ _ _ _ _ _ _ _ _ _ ((u0.trans u1).trans (u3.trans u4)) (StateV.up hM h1 (u3.trans u4)) (StateV.up hM h3 u4)
theorem aLp (hs:SecV (NP K) k A0 n0 A1 n1 A2 n2 s) (hl:StateV (NP T) k A3 n3 A4 n4 A5 n5 b.lo) (hh:StateV (NP T) k A6 n6 A7 n7 A8 n8 b.hi) (hr:RangeV (NP K) k c0 c1 c2 c3 r) (hK1:1≤K) (hT1:1≤T) (hK:K≤1000000) (hT:T≤100000000) (C:∀k',Up k k'→R k' (.int .i64 (kH s b r most))) :
 Cl k 47 #[S3 A0 n0 d0 A1 n1 d1 A2 n2 d2,S6 A3 n3 d3 A4 n4 d4 A5 n5 d5 A6 n6 d6 A7 n7 d7 A8 n8 d8,Rg c0 c1 c2 c3,.int .i64 most] R:=by
 intro k0 u0;have hN:=aD K;have hNT:=aD T;replace hs:=SecV.up hN hs u0;replace hl:=StateV.up hNT hl u0;replace hh:=StateV.up hNT hh u0;replace hr:=RangeV.up hN hr u0;replace C:=fun k' u=>C k' (u0.trans u);have hT:T≤300000000:=oq
 refine aGx hr.s0.seg hr.s1.seg hr.a0.seg hr.a1.seg (aFg hs hl hh hK1 hK hT1 hT fun k1 u1=>⟨_,rfl,fun f k2 u2=>?_,fun f=>zO (RangeV.up hN hr u1) hK1 oq fun k4 u4=>⟨_,rfl,fun g k5 u5=>?_,fun g=>⟨fun h k6 u6=>?_,fun h=>⟨fun h' k7 u7=>?_,fun h' k8 u8=>?_⟩⟩⟩⟩)
 ·have:=C k2 (u1.trans u2);have hA:jZ s b r=fY s b:=by unfold jZ;rw [og (dW f)]
  unfold kH at this
  rwa [hA,og (dW f)]at this
 ·have:=C k5 (u1.trans (u4.trans u5));have hA:jZ s b r=cZ r:=by unfold jZ;rw [oh (by simp [cO f])]
  unfold kH at this
  rwa [hA,og (dW g)]at this
 all_goals have hA:jZ s b r=0:=by unfold jZ;rw [oh (by simp [cO f]),cO g]
 ·have:=C k6 (u1.trans (u4.trans u6));unfold kH at this
  rwa [hA,oh (by simp),og (Or.inl (ow h))]at this
 ·have:=C k7 (u1.trans (u4.trans u7));unfold kH at this
  rwa [hA,oh (by simp),og (Or.inr (ow h'))]at this
 ·have:=C k8 (u1.trans (u4.trans u8));have h:=ov h;have h':=ov h';unfold kH at this
  rwa [hA,oh (by simp),oh oq]at this
set_option maxHeartbeats 1000000 in
theorem aMc (hs:SecV (NP K) k A0 n0 A1 n1 A2 n2 s) (hl:StateV (NP T) k A3 n3 A4 n4 A5 n5 b.lo) (hh:StateV (NP T) k A6 n6 A7 n7 A8 n8 b.hi) (hr:RangeV (NP K) k c0 c1 c2 c3 r) (hd:aF s=0→∀i,i<s.cells.length→(nbm s.links (i:Nat)).length≤d) (hml:rY b.lo) (hmh:rY b.hi) (hmr:MagR r) (hK1:1≤K) (hT1:1≤T) (hK:K≤1000000) (hd2:d≤128) (hm:kH s b r most=0→aU K d (T+most.toNat*(K+1))≤90000) (hTT:T≤100000000) (hfin:kH s b r most=0→T+most.toNat*(K+1)≤W)
 (C:∀k' B0 m0 e0 B1 m1 e1 B2 m2 e2 B3 m3 e3 B4 m4 e4 B5 m5 e5,Up k k'→StateV (NP W) k' B0 m0 B1 m1 B2 m2 (oY s b r most).fin.lo→StateV (NP W) k' B3 m3 B4 m4 B5 m5 (oY s b r most).fin.hi→
   R k' (.tuple #[.agg #[.int .i64 (oY s b r most).steps,.int .i64 (oY s b r most).slow,.int .i64 (oY s b r most).fast,.slice B0 m0 e0,.slice B1 m1 e1,.slice B2 m2 e2,.slice B3 m3 e3,.slice B4 m4 e4,.slice B5 m5 e5],.int .i64 (oY s b r most).e])) :
 Cl k 17 #[S3 A0 n0 d0 A1 n1 d1 A2 n2 d2,S6 A3 n3 d3 A4 n4 d4 A5 n5 d5 A6 n6 d6 A7 n7 d7 A8 n8 d8,Rg c0 c1 c2 c3,.int .i64 most] R:=by
 intro k0 u0;have hN:=aD K;have hNT:=aD T;replace hs:=SecV.up hN hs u0;replace hl:=StateV.up hNT hl u0;replace hh:=StateV.up hNT hh u0;replace hr:=RangeV.up hN hr u0;replace C:=fun k' B0 m0 e0 B1 m1 e1 B2 m2 e2 B3 m3 e3 B4 m4 e4 B5 m5 e5 u=>C k' B0 m0 e0 B1 m1 e1 B2 m2 e2 B3 m3 e3 B4 m4 e4 B5 m5 e5 (u0.trans u);have bad:∀e:Int,oY s b r most=aFz e→∀k',Up k0 k'→R k' (.tuple #[.agg #[.int .i64 0,.int .i64 0,.int .i64 0,.slice none 0 0,.slice none 0 0,.slice none 0 0,.slice none 0 0,.slice none 0 0,.slice none 0 0],.int .i64 e]):=fun e he k' u=>by
  have:=C k' none 0 0 none 0 0 none 0 0 none 0 0 none 0 0 none 0 0 u (by rw [he];exact⟨.nil,.nil,.nil⟩) (by rw [he];exact⟨.nil,.nil,.nil⟩);rw [he]at this;exact this
 refine aHl hr.s0.seg hr.s1.seg hr.a0.seg hr.a1.seg (aLp hs hl hh hr hK1 hT1 hK hTT fun k1 u1=>⟨_,rfl,fun f k2 u2=>bad _ (by unfold oY;rw [og (dW f)]) k2 (u1.trans u2),fun f=>?_⟩);have f:=cO f;obtain⟨hA,hm0,hm2⟩:=aUg f;obtain⟨mN,rfl⟩:∃mN:Nat,most=mN:=⟨most.toNat,oq⟩;have hm:=hm f;rw [xq]at hm;have hfin:=hfin f;rw [xq]at hfin;obtain⟨hE,hz,hz',_⟩:=aFd (aKz hA);have hOK:OkB s b:=⟨hz,hz',hml,hmh⟩;have hc24:s.cells.length≤24:=by have:=bF hE;unfold bW at this;omega
 have hd:=hd hE;have hW:∀j,j≤mN→aU K d (T+j*(K+1))≤90000∧T+j*(K+1)≤90000:=fun j hj=>by
  have h1:T+j*(K+1)≤T+mN*(K+1):=Nat.add_le_add_left (ob _ hj) _;have h2:=qg (uJ h1) hm;exact⟨h2,qg aBv h2⟩
 have hsucc:∀j:Nat,T+(j+1)*(K+1)=T+j*(K+1)+K+1:=fun j=>by rw [jr];omega
 refine xO (SecV.up hN hs u1).links (by have:=bF hE;unfold bW at this;have:=hs.links.1;omega) (fun z hz=>by
  obtain⟨h1,h2⟩:=eK (dP hE) z hz
  omega) fun k4 M u4 hM=>⟨_,_,_,_,_,_,_,_,_,_,rfl,?_⟩
 have v4:=u1.trans u4;refine zH (StateV.up hNT hl v4) (StateV.up hNT hh v4) (eT hz hc24) (eT hz' hc24) fun k6 B0 m0 e0 B1 m1 e1 B2 m2 e2 B3 m3 e3 B4 m4 e4 B5 m5 e5 u6 gl gh=>⟨_,_,_,_,_,_,_,_,_,_,_,_,_,_,_,_,_,_,rfl,?_⟩;have v6:=v4.trans u6
 refine⟨fun m k vs=>∃(j:Nat) (B0:Option Addr) (m0 e0:Nat) (B1:Option Addr) (m1 e1:Nat) (B2:Option Addr) (m2 e2:Nat) (B3:Option Addr) (m3 e3:Nat) (B4:Option Addr) (m4 e4:Nat) (B5:Option Addr) (m5 e5:Nat),j+m=mN∧vs=[.int .i64 (aGe s b r j),.int .i64 j,S6 B0 m0 e0 B1 m1 e1 B2 m2 e2 B3 m3 e3 B4 m4 e4 B5 m5 e5]∧
  StateV (NP (T+j*(K+1))) k B0 m0 B1 m1 B2 m2 (advN s r j b).lo∧StateV (NP (T+j*(K+1))) k B3 m3 B4 m4 B5 m5 (advN s r j b).hi∧∀i,i<j→¬ iU s (advN s r i b).lo,
  ⟨mN,fun k7 u7=>⟨0,_,_,_,_,_,_,_,_,_,_,_,_,_,_,_,_,_,_,oq,rfl,StateV.up (aD _) (gl.mono fun _ _ h=>h.mono oq) u7,StateV.up (aD _) (gh.mono fun _ _ h=>h.mono oq) u7,fun i hi=>oq⟩⟩,?_⟩
 rintro m k7 vs u7 ⟨j,B0,m0,e0,B1,m1,e1,B2,m2,e2,B3,m3,e3,B4,m4,e4,B5,m5,e5,hj,rfl,gl,gh,hno⟩;have v7:=v6.trans u7;have hj0:=hOK.advN hE hmr j;have hWj:=hW j oq;refine⟨_,_,_,_,_,_,_,_,_,_,_,_,_,_,_,_,_,_,_,_,rfl,aQk (SecV.up hN hs v7) gl hE hj0.lo hK1 oq oq oq fun k9 u9=>⟨_,rfl,fun g=>?_,fun g=>⟨fun e k16 u16=>?_,fun e=>?_⟩⟩⟩
 ·
  have hNN:rG s b r (mN:Int).toNat=j:=by
   rw [xq];exact iC (fun i hi=>decide_eq_false (hno i hi)) g oq
  have hle:¬ (mN:Int)<rG s b r (mN:Int).toNat:=by rw [hNN];omega
  have hmm:j*(K+1)≤mN*(K+1):=ob _ oq;unfold oY at C;rw [oh (by simp [f]),if_neg hle,hNN]at C;refine aQm (b:=advN s r j b) (SecV.up hN hs (v7.trans u9)) (StateV.up (aD _) gh u9) hE hj0.hi hK1 oq oq oq fun k11 u11=>⟨_,rfl,?_⟩;refine aHn (SecV.up hN hs (v7.trans (u9.trans u11))) (StateV.up (aD _) gh (u9.trans u11)) hE hj0.hi hK1 oq oq oq fun k13 u13=>⟨_,rfl,fun h k14 u14=>?_,fun h k15 u15=>?_⟩
  ·rw [og (ow h)]at C;exact C k14 _ _ _ _ _ _ _ _ _ _ _ _ _ _ _ _ _ _ (v7.trans ((u9.trans u11).trans (u13.trans u14))) ((StateV.up (aD _) gl ((u9.trans u11).trans (u13.trans u14))).mono fun _ _ h=>h.mono oq) ((StateV.up (aD _) gh ((u9.trans u11).trans (u13.trans u14))).mono fun _ _ h=>h.mono oq)
  ·rw [oh (ov h)]at C;exact C k15 _ _ _ _ _ _ _ _ _ _ _ _ _ _ _ _ _ _ (v7.trans ((u9.trans u11).trans (u13.trans u15))) ((StateV.up (aD _) gl ((u9.trans u11).trans (u13.trans u15))).mono fun _ _ h=>h.mono oq) ((StateV.up (aD _) gh ((u9.trans u11).trans (u13.trans u15))).mono fun _ _ h=>h.mono oq)
 ·have e:j=mN:=by simp at e;omega
  refine bad 5 ?_ _ (v7.trans (u9.trans u16));have hNN:rG s b r (mN:Int).toNat=mN+1:=by
   rw [xq];exact iB fun i hi=>decide_eq_false (fun hq=>by rcases zn i j with h|h;exact hno i h hq;rw [show i=j by omega]at hq;exact ov g hq)
  unfold oY;rw [oh (by simp [f]),if_pos (by rw [hNN];omega)]
 ·have e:j≠mN:=by simp at e;omega
  refine aQy (b:=advN s r j b) (SecV.up hN hs (v7.trans u9)) (StateV.up (aD _) gl u9) hE hj0.lo hK1 oq oq oq fun k18 u18=>⟨_,rfl,?_⟩;refine aLf (b:=advN s r j b) (SecV.up hN hs (v7.trans (u9.trans u18))) (StateV.up (aD _) gl (u9.trans u18)) (StateV.up (aD _) gh (u9.trans u18)) (NbV.up hN hM ((u6.trans u7).trans (u9.trans u18))) (RangeV.up hN hr (v7.trans (u9.trans u18))) hE hj0.lo hj0.hi hd hK1 oq hWj.1 hd2 fun k20 B0 m0 e0 B1 m1 e1 B2 m2 e2 B3 m3 e3 B4 m4 e4 B5 m5 e5 u20 g1 g2=>⟨_,_,_,_,_,_,_,_,_,_,_,_,_,_,_,_,_,_,rfl,fun k21 u21=>?_⟩;obtain⟨q1,q2⟩:=aCg hE hj0.lo hj0.hi hj0.magl hj0.magh hmr;refine⟨m-1,oq,j+1,_,_,_,_,_,_,_,_,_,_,_,_,_,_,_,_,_,_,oq,by rw [aH oq];rfl,?_,?_,eA hno (ov g)⟩
  ·rw [hsucc];exact StateV.up (aD _) (g1.tightP q1 oq) u21
  ·rw [hsucc];exact StateV.up (aD _) (g2.tightP q2 oq) u21
end
open IntKind (wrap)
open Sy (Up Sees CallsG Seg ReadAt)
structure PPhase where
 (steps:Int) (r:PRange)
instance:Inhabited PPhase:=⟨⟨0,⟨0,0,0,0⟩⟩⟩
def phE (p:PPhase):Int:=if p.steps<0 then 1 else cZ p.r
def dM:List PPhase→Int
 | []=>0
 | p :: l=>p.steps+dM l
def yF (l:List PPhase):Int:=if 16<l.length then 4 else if gC (fun i=>phE (at_ l i)) l.length≠0 then gC (fun i=>phE (at_ l i)) l.length else if 2000<dM l then 4 else 0
def advL (s:PSec) (rs:List PRange) (b:PBand):PBand:=rs.foldl (jJ s) b
def iW:List PPhase→List PRange
 | []=>[]
 | p :: l=>List.replicate p.steps.toNat p.r++iW l
def mM (s:PSec) (b:PBand) (l:List PPhase):Int:=if fY s b≠0 then fY s b else yF l
def aIg (s:PSec) (b:PBand) (l:List PPhase):PBand:=uV (mM s b l) (advL s (iW l) b)
theorem aBx (l m:List PPhase):dM (l++m)=dM l+dM m:=by
 induction l with
 | nil=>simp [dM]
 | cons p l ih=>simp only [ko,dM,ih];omega
theorem aIe (l m:List PPhase):iW (l++m)=iW l++iW m:=by
 induction l with
 | nil=>rfl
 | cons p l ih=>simp [iW,ih]
theorem aGf {α:Type}[Inhabited α] {l:List α}{j:Nat}(h:j<l.length):l.take (j+1)=l.take j++[at_ l j]:=by
 rw [jm h,cH h]
theorem xA {l:List PPhase}{j:Nat}(h:j<l.length):dM (l.take (j+1))=dM (l.take j)+(at_ l j).steps:=by
 rw [aGf h,aBx];simp [dM]
theorem aBy {l:List PPhase}(h:∀p∈l,0≤p.steps):0≤dM l:=by
 induction l with
 | nil=>exact Int.le_refl 0
 | cons p l ih=>have:=h p (by simp);have:=ih fun q hq=>h q (by simp [hq]);simp only [dM];omega
theorem rU {l:List PPhase}(h:∀j,j<l.length→0≤(at_ l j).steps) (i:Nat):0≤dM (l.take i)∧dM (l.take i)≤dM l:=by
 have hm:∀p∈l,0≤p.steps:=fun p hp=>by
  obtain⟨j,hj,rfl⟩:=yz hp;rw [←cH hj];exact h j hj
 have h1:=aBy fun p (hp:p∈l.take i)=>hm p (List.mem_of_mem_take hp);have h2:=aBy fun p (hp:p∈l.drop i)=>hm p (List.mem_of_mem_drop hp);have h3:=aBx (l.take i) (l.drop i);rw [List.take_append_drop]at h3;omega
theorem aIf {l:List PPhase}(h:∀j,j<l.length→0≤(at_ l j).steps):((iW l).length:Int)=dM l:=by
 induction l with
 | nil=>rfl
 | cons p l ih=>
  have h0:=h 0 (by simp);have:=ih fun j hj=>h (j+1) (by simpa using hj);simp only [iW,dM,qf,ze];have e:(at_ (p :: l) 0)=p:=rfl;rw [e]at h0;omega
theorem aTm {p:PPhase}(h:phE p=0):0≤p.steps∧cZ p.r=0:=by
 unfold phE at h;split at h
 ·cases h
 ·exact⟨oq,h⟩
theorem aUx {l:List PPhase}(h:yF l=0):l.length≤16∧(∀j,j<l.length→phE (at_ l j)=0)∧dM l≤2000:=by
 unfold yF at h;split at h
 ·cases h
 ·split at h
  ·rename_i h1;exact absurd h h1
  ·rename_i h0 h1;split at h
   ·cases h
   ·exact⟨oq,cY (zt.1 h1),oq⟩
theorem aUi {s:PSec}{b:PBand}{l:List PPhase}(h:mM s b l=0):fY s b=0∧yF l=0:=by
 unfold mM at h;split at h
 ·rename_i h1;exact absurd h h1
 ·rename_i h1;exact⟨zt.1 h1,h⟩
theorem OkB.advL {s:PSec}(hE:aF s=0):∀ {rs:List PRange}{b:PBand},(∀r∈rs,MagR r)→OkB s b→OkB s (advL s rs b)
 | [],_,_,h=>h
 | r :: rs,_,hr,h=>OkB.advL hE (rs:=rs) (fun q hq=>hr q (by simp [hq])) (h.adv hE (hr r (by simp)))
theorem vB {s:PSec}{rs:List PRange}{r:PRange}{b:PBand}:advL s (rs++[r]) b=jJ s (advL s rs b) r:=by simp [_root_.Go.Proofs.YtebaclefnpipfaaGreat.advL]
def PhV (N:World→Array Value→Rat→Prop) (k:World) (a:Array Value) (p:PPhase):Prop:=∃c0 c1 c2 c3,a=((Value.int .i64 p.steps) :: (c0.toList++(c1.toList++(c2.toList++(c3.toList++[]))))).toArray∧RangeV N k c0 c1 c2 c3 p.r
theorem PhV.seg {N:World→Array Value→Rat→Prop}(hN:Num3 N) {k:World}{a:Array Value}{p:PPhase}(h:PhV N k a p):Seg 13 a:=by
 obtain⟨c0,c1,c2,c3,rfl,h⟩:=h;have s0:=hN.seg h.s0;have s1:=hN.seg h.s1;have s2:=hN.seg h.a0;have s3:=hN.seg h.a1;refine⟨by simp [s0.1,s1.1,s2.1,s3.1],fun u hu=>?_⟩;simp only [List.append_nil,List.mem_cons,List.mem_append]at hu;rcases hu with rfl|hu|hu|hu|hu
 ·exact⟨rfl,rfl⟩
 ·exact s0.2 u hu
 ·exact s1.2 u hu
 ·exact s2.2 u hu
 ·exact s3.2 u hu
theorem PhV.up {N:World→Array Value→Rat→Prop}(hN:Num3 N) {k k':World}{a:Array Value}{p:PPhase}(h:PhV N k a p) (u:Up k k'):PhV N k' a p:=by
 obtain⟨c0,c1,c2,c3,e,h⟩:=h;exact⟨c0,c1,c2,c3,e,RangeV.up hN h u⟩
section
variable {k k':World}{R:World→Value→Prop}{l:List PPhase}{s:PSec}{b:PBand}{K T n0 n1 n2 n3 n4 n5 n6 n7 n8 n9 d0 d1 d2 d3 d4 d5 d6 d7 d8 d9:Nat}{A0 A1 A2 A3 A4 A5 A6 A7 A8 A9:Option Addr}
theorem tP {N:World→Array Value→Rat→Prop}(hN:Num3 N) (h:Lst k A9 n9 13 (PhV N k) l) (u:Up k k'):Lst k' A9 n9 13 (PhV N k') l:=h.up u fun _ _ h=>PhV.up hN h u
theorem aUe (hl:Lst k A9 n9 13 (PhV (NP K) k) l) (hK1:1≤K) (hK:K≤300000000) (C:∀k',Up k k'→R k' (.int .i64 (yF l))) :
 Cl k 71 #[.slice A9 n9 d9] R:=by
 intro k0 u0;have hN:=aD K;replace hl:=tP hN hl u0;replace C:=fun k' u=>C k' (u0.trans u);have hn:=hl.1;refine aQr ⟨rfl,fun h k1 u1=>?_,fun h=>⟨rfl,?_⟩⟩
 ·have:=C k1 u1;unfold yF at this
  rwa [og (by have:=ow h;omega)]at this
 have h:=ov h;have h16:¬ 16<l.length:=oq
 refine⟨fun m k vs=>∃j:Nat,j+m=n9∧vs=[.int .i64 j]∧∀i,i<j→phE (at_ l i)=0,⟨n9,fun k1 u1=>⟨0,oq,rfl,fun i hi=>oq⟩⟩,?_⟩;rintro m k1 vs u1 ⟨j,hj,rfl,hz⟩;have hl1:=tP hN hl u1;refine⟨j,rfl,fun hlt=>?_,fun hge=>?_⟩
 ·have hlt:=aL hlt;obtain⟨a,_,⟨c0,c1,c2,c3,rfl,hr⟩,ha,hb,hrd,_⟩:=hl1.el (i:=j) oq oz;have stop:∀(e:Int),e≠0→phE (at_ l j)=e→∀k',Up k1 k'→R k' (.int .i64 e):=fun e he h k' u=>by
   have:=C k' (u1.trans u);unfold yF at this;have hf:gC (fun i=>phE (at_ l i)) l.length=e:=jP hz h he oq
   rwa [oh h16,og (by rw [hf];exact he),hf]at this
  refine⟨ha,hb,_,c0,hr.s0.seg,c1,hr.s1.seg,c2,hr.a0.seg,c3,hr.a1.seg,hrd k1 (Up.refl _),fun hp k2 u2=>?_,fun hp=>?_⟩
  ·exact stop 1 oz (by unfold phE;rw [og (ow hp)]) k2 u2
  ·have hp:=ov hp;refine zO hr hK1 hK fun k4 u4=>⟨_,rfl,fun f k5 u5=>?_,fun f k6 u6=>?_⟩
   ·exact stop _ (dW f) (by unfold phE;rw [oh hp]) k5 (u4.trans u5)
   ·exact⟨m-1,oq,j+1,oq,by rw [aH oq],eA hz (by unfold phE;rw [oh hp];exact cO f)⟩
 ·have hge:=aO hge;have hz':∀i,i<l.length→phE (at_ l i)=0:=fun i hi=>hz i oq;have hst:∀i,i<l.length→0≤(at_ l i).steps:=fun i hi=>(aTm (hz' i hi)).1;have hf:¬ gC (fun i=>phE (at_ l i)) l.length≠0:=by rw [dN hz'];simp
  replace C:=fun k' u=>C k' (u1.trans u);unfold yF at C;rw [oh h16,oh hf]at C;refine⟨rfl,fun m k vs=>∃j:Nat,j+m=n9∧vs=[.int .i64 (2000-dM (l.take j)),.int .i64 j]∧dM (l.take j)≤2000,⟨n9,fun k7 u7=>⟨0,oq,rfl,by simp [dM]⟩⟩,?_⟩;rintro m' k7 vs u7 ⟨i,hi,rfl,hle⟩;refine⟨_,_,rfl,fun hlt=>?_,fun hge=>?_⟩
  ·have hlt:=aL hlt;obtain⟨a,_,⟨c0,c1,c2,c3,rfl,hr⟩,ha,hb,hrd,_⟩:=(tP hN hl1 u7).el (i:=i) oq oz;have hs:=xA (l:=l) (j:=i) oq;have h0:=hst i oq;have hall:=rU hst (i+1);have hall0:=rU hst i;refine⟨ha,hb,_,c0,hr.s0.seg,c1,hr.s1.seg,c2,hr.a0.seg,c3,hr.a1.seg,hrd k7 (Up.refl _),fun hp k8 u8=>?_,fun hp k9 u9=>?_⟩
   ·have hp:=ow hp;have:=C k8 (u7.trans u8)
    rwa [og oq]at this
   ·have hp:=ov hp;refine⟨m'-1,oq,i+1,oq,?_,oq⟩;rw [aH oq,show wrap .i64 (2000-dM (l.take i)-(at_ l i).steps)=2000-dM (l.take (i+1)) by rw [jp];omega]
  ·have hge:=aO hge;intro k10 u10;have:=C k10 (u7.trans u10);rw [zm oq]at hle
   rwa [oh oq]at this
theorem aFh (hs:SecV (NP K) k A0 n0 A1 n1 A2 n2 s) (hl:StateV (NP T) k A3 n3 A4 n4 A5 n5 b.lo) (hh:StateV (NP T) k A6 n6 A7 n7 A8 n8 b.hi) (hp:Lst k A9 n9 13 (PhV (NP K) k) l) (hK1:1≤K) (hK:K≤1000000) (hT1:1≤T) (hT:T≤300000000)
 (C:∀k',Up k k'→R k' (.int .i64 (mM s b l))) :
 Cl k 37 #[.agg #[.slice A0 n0 d0,.slice A1 n1 d1,.slice A2 n2 d2],.agg #[.slice A3 n3 d3,.slice A4 n4 d4,.slice A5 n5 d5,.slice A6 n6 d6,.slice A7 n7 d7,.slice A8 n8 d8],.slice A9 n9 d9] R:=by
 intro k0 u0;have hN:=aD K;have hNT:=aD T;replace C:=fun k' u=>C k' (u0.trans u);unfold mM at C;refine aLo (aFg (SecV.up hN hs u0) (StateV.up hNT hl u0) (StateV.up hNT hh u0) hK1 hK hT1 hT fun k1 u1=>⟨_,rfl,fun f k2 u2=>?_,fun f=>?_⟩)
 ·have:=C k2 (u1.trans u2)
  rwa [og (dW f)]at this
 ·refine aUe (tP hN hp (u0.trans u1)) hK1 oq fun k4 u4=>⟨_,rfl,fun k5 u5=>?_⟩;have:=C k5 (u1.trans (u4.trans u5))
  rwa [oh (by rw [cO f];simp)]at this
end
theorem yE {q:Rat}:q*((q.den:Int):Rat)=(q.num:Rat):=by
 have hd:((q.den:Int):Rat)≠0:=fun e=>by have:=q.den_pos;have:=Rat.intCast_eq_zero_iff.1 e;omega
 have:=ke (a:=(q.num:Rat)) hd
 rwa [←kR,ye]at this
theorem pow40:(0:Rat)<(((2^40:Nat):Int):Rat):=by decide +kernel
theorem scaled {m:Int}{q:Rat}:(m:Rat)≤q*(((2^40:Nat):Int):Rat)↔m*(q.den:Int)≤q.num*((2^40:Nat):Int):=by
 have hd:(0:Rat)<((q.den:Int):Rat):=Rat.intCast_pos.2 (by have:=q.den_pos;omega);have e:q*(((2^40:Nat):Int):Rat)*((q.den:Int):Rat)=((q.num*((2^40:Nat):Int):Int):Rat):=by
  rw [show q*(((2^40:Nat):Int):Rat)*((q.den:Int):Rat)=q*((q.den:Int):Rat)*(((2^40:Nat):Int):Rat) by grind,yE,zy]
 constructor
 ·intro h;have:=vz h (Rat.le_of_lt hd);rw [e,←zy]at this;exact vv.1 this
 ·intro h;have h2:((m*(q.den:Int):Int):Rat)≤((q.num*((2^40:Nat):Int):Int):Rat):=vv.2 h;rw [←e,zy]at h2
  by_cases c:(m:Rat)≤q*(((2^40:Nat):Int):Rat)
  ·exact c
  ·have:=Rat.mul_pos (show (0:Rat)<(m:Rat)-q*(((2^40:Nat):Int):Rat) by grind) hd
   grind
theorem mk40 {m:Int}{q:Rat}:mkRat m (2^40)≤q↔(m:Rat)≤q*(((2^40:Nat):Int):Rat):=by
 have hp:=pow40;have e:mkRat m (2^40)*(((2^40:Nat):Int):Rat)=(m:Rat):=by
  rw [kR];exact ke (by decide +kernel)
 constructor
 ·intro h;have:=vz h (Rat.le_of_lt hp)
  rwa [e]at this
 ·intro h
  by_cases c:mkRat m (2^40)≤q
  ·exact c
  ·have:=Rat.mul_pos (show (0:Rat)<mkRat m (2^40)-q by grind) hp
   grind
theorem vX (q:Rat):jO q≤q:=by
 have hd:(0:Int)<q.den:=by have:=q.den_pos;omega
 exact mk40.2 (scaled.2 (Int.ediv_mul_le _ oq))
theorem aLr (q:Rat):q≤pU q:=by
 have:=vX (-q);show q≤-jO (-q)
 grind
theorem tT {l:List PRate}(h:bL l=0) {i:Nat}:∀ {j:Nat},i≤j→j<l.length→(at_ l i).v≤(at_ l j).v
 | 0,hij,_=>by obtain rfl:i=0:=oq
               exact wg
 | j+1,hij,hj=>by
  by_cases e:i=j+1
  ·subst e;exact wg
  ·refine wn (tT h (j:=j) oq oq) ?_;unfold bL at h;split at h
   ·cases h
   ·have:=cY h (j+1) hj;unfold gA at this;split at this
    ·cases this
    ·split at this
     ·cases this
     ·split at this
      ·cases this
      ·rename_i hn;have:=zu.1 fun hlt=>hn ⟨Nat.succ_pos j,hlt⟩
       rwa [xg]at this
theorem xE {t t':Rat}(h:t≤t'):∀l:List PRate,upto l t≤upto l t'
 | []=>oy _
 | r :: l=>by
  have ih:=xE h l;unfold upto at ih ⊢
  by_cases c:r.f≤t
  ·have c':=wn c h;rw [List.takeWhile_cons,List.takeWhile_cons,og (by simpa using c),og (by simpa using c')];simp only [vq];omega
  ·rw [List.takeWhile_cons,oh (by simpa using c)];exact jt _
theorem aBt {l:List PRate}(h:bL l=0) {t t':Rat}(ht:t≤t'):spd l t≤spd l t':=by
 have hu:=xE ht l;have h1:upto l t'≤l.length:=(List.takeWhile_sublist _).length_le
 by_cases c:upto l t=0
 ·have:=aSp h t';rw [show spd l t=0 from og c];exact this
 ·rw [show spd l t=_ from oh c,show spd l t'=_ from oh (show ¬ upto l t'=0 by omega)];exact tT h oq oq
theorem vY {tx ty:Rat}{X Y:PLink→Rat}:∀(ls:List PLink) (a b c:Rat),a+c*(tx-ty)≤b→(∀l∈ls,0≤l.v∧X l≤Y l)→
 ls.foldl (fun a l=>a+l.v*(X l-tx)) a+ls.foldl (fun c l=>c+l.v) c*(tx-ty)≤ls.foldl (fun b l=>b+l.v*(Y l-ty)) b
 | [],_,_,_,h,_=>h
 | l :: ls,a,b,c,h,hl=>by
  obtain⟨h0,h1⟩:=hl l (by simp);rw [xj,xj,xj];refine vY ls _ _ _ ?_ fun y hy=>hl y (by simp [hy]);have:=zp (show X l-ty≤Y l-ty by grind) h0
  grind
section
variable {s:PSec}{x y:PState}{u v u' v':Rat}{b b':PBand}{r r':PRange}
theorem aKj (h:aF s=0) (hT:∀j,j<s.cells.length→at_ x.temp j≤at_ y.temp j) (hu:u≤u') (hv:v≤v') {i:Nat}(hi:i<s.cells.length):fQ s x u v i≤fQ s y u' v' i:=by
 obtain⟨_,_,hc,hs,ha⟩:=gD h hi;have ht:=aNy h hi;have hne:(at_ s.cells i).cap≠0:=fun e=>by rw [e]at hc;exact absurd hc oz
 have dx:flow s x u v i/(at_ s.cells i).cap*(at_ s.cells i).cap=flow s x u v i:=ke hne;have dy:flow s y u' v' i/(at_ s.cells i).cap*(at_ s.cells i).cap=flow s y u' v' i:=ke hne;have hf:flow s x u v i+tot s.links i ((at_ s.cells i).steam+(at_ s.cells i).air)*(at_ x.temp i-at_ y.temp i)≤flow s y u' v' i:=by
  refine vY _ _ _ _ ?_ fun l hl=>⟨aAp h (lH hl).1,hT _ (mO h hi hl)⟩;have p:=zp (show u-at_ y.temp i≤u'-at_ y.temp i by grind) hs;have q:=zp (show v-at_ y.temp i≤v'-at_ y.temp i by grind) ha
  grind
 have h0:=hT i hi;have up:=vz ht (show 0≤at_ y.temp i-at_ x.temp i by grind);unfold fQ
 by_cases c:at_ x.temp i+flow s x u v i/(at_ s.cells i).cap≤at_ y.temp i+flow s y u' v' i/(at_ s.cells i).cap
 ·exact c
 ·have hp:0<(at_ x.temp i-at_ y.temp i+flow s x u v i/(at_ s.cells i).cap-flow s y u' v' i/(at_ s.cells i).cap)*(at_ s.cells i).cap:=Rat.mul_pos (by grind) hc
  grind
theorem vQ (h:aF s=0) {i:Nat}(hi:i<s.cells.length) (hT:at_ x.temp i≤at_ y.temp i) (hC:at_ x.cure i≤at_ y.cure i) (hS:at_ x.spoil i≤at_ y.spoil i):pY s x i≤pY s y i∧kY s x i≤kY s y i:=by
 obtain⟨h0,h1,_⟩:=gD h hi;have hm:=aUv h (i:=(at_ s.cells i).m.toNat) oq;have a:=aBt hm.1 hT;have b:=aBt hm.2 hT;unfold pY kY;constructor <;> grind
structure Und (n:Nat) (x y:PState):Prop where
 temp:∀i,i<n→at_ x.temp i≤at_ y.temp i
 cure:∀i,i<n→at_ x.cure i≤at_ y.cure i
 spoil:∀i,i<n→at_ x.spoil i≤at_ y.spoil i
theorem Und.trans {n:Nat}{z:PState}(h:Und n x y) (h':Und n y z):Und n x z:=⟨fun i hi=>wn (h.temp i hi) (h'.temp i hi),fun i hi=>wn (h.cure i hi) (h'.cure i hi),fun i hi=>wn (h.spoil i hi) (h'.spoil i hi)⟩
theorem pP (hx:sized s x) (hy:sized s y):iQ x y↔Und s.cells.length x y:=by
 obtain⟨x1,x2,x3⟩:=hx;obtain⟨y1,y2,y3⟩:=hy;constructor
 ·rintro⟨_,h1,h2,h3⟩;exact⟨fun i hi=>zu.1 (h1 i oq),fun i hi=>zu.1 (h2 i oq),fun i hi=>zu.1 (h3 i oq)⟩
 ·intro h;exact⟨⟨oq,oq,oq⟩,fun i hi=>zu.2 (h.temp i oq),fun i hi=>zu.2 (h.cure i oq),fun i hi=>zu.2 (h.spoil i oq)⟩
theorem pK (h:aF s=0) (hU:Und s.cells.length x y) (hu:u≤u') (hv:v≤v'):Und s.cells.length (bT s x u v) (bT s y u' v'):=by
 refine⟨fun i hi=>?_,fun i hi=>?_,fun i hi=>?_⟩
 ·rw [show at_ (bT s x u v).temp i=_ from aM hi,show at_ (bT s y u' v').temp i=_ from aM hi];exact aKj h hU.temp hu hv hi
 ·rw [show at_ (bT s x u v).cure i=_ from aM hi,show at_ (bT s y u' v').cure i=_ from aM hi];exact (vQ h hi (hU.temp i hi) (hU.cure i hi) (hU.spoil i hi)).1
 ·rw [show at_ (bT s x u v).spoil i=_ from aM hi,show at_ (bT s y u' v').spoil i=_ from aM hi];exact (vQ h hi (hU.temp i hi) (hU.cure i hi) (hU.spoil i hi)).2
theorem step_floor:Und s.cells.length (dH jO s x u v) (bT s x u v):=by
 refine⟨fun i hi=>?_,fun i hi=>?_,fun i hi=>?_⟩
 ·rw [show at_ (dH jO s x u v).temp i=_ from aM hi,show at_ (bT s x u v).temp i=_ from aM hi];exact vX _
 ·exact wg
 ·exact wg
theorem wY:Und s.cells.length (bT s x u v) (dH pU s x u v):=by
 refine⟨fun i hi=>?_,fun i hi=>?_,fun i hi=>?_⟩
 ·rw [show at_ (bT s x u v).temp i=_ from aM hi,show at_ (dH pU s x u v).temp i=_ from aM hi];exact aLr _
 ·exact wg
 ·exact wg
def Enc (s:PSec) (b:PBand) (x:PState):Prop:=Und s.cells.length b.lo x∧Und s.cells.length x b.hi
def Bt (p q r:Rat):Prop:=p≤q∧q≤r
theorem aMm (h:aF s=0) (hE:Enc s b x) (hu:Bt r.s0 u r.s1) (hv:Bt r.a0 v r.a1):Enc s (jJ s b r) (bT s x u v):=
 ⟨step_floor.trans (pK h hE.1 hu.1 hv.1),(pK h hE.2 hu.2 hv.2).trans wY⟩
theorem aGm (h:aF s=0) (hb:Und s.cells.length b.lo b.hi) (hr:cZ r=0):Und s.cells.length (jJ s b r).lo (jJ s b r).hi:=by
 have ⟨h1,h2⟩:r.s0≤r.s1∧r.a0≤r.a1:=by
  unfold cZ at hr;split at hr
  ·cases hr
  ·rename_i hn;exact⟨zu.1 fun c=>hn (.inl c),zu.1 fun c=>hn (.inr c)⟩
 exact step_floor.trans ((pK h hb h1 h2).trans wY)
theorem rZ (h:aF s=0):∀ {rs:List PRange}{b:PBand},(∀r∈rs,cZ r=0)→Und s.cells.length b.lo b.hi→Und s.cells.length (advL s rs b).lo (advL s rs b).hi
 | [],_,_,hb=>hb
 | r :: rs,_,hr,hb=>rZ h (rs:=rs) (fun q hq=>hr q (by simp [hq])) (aGm h hb (hr r (by simp)))
def Wit (s:PSec) (b b':PBand):Prop:=Und s.cells.length b'.lo b.lo∧Und s.cells.length b.hi b'.hi
end
section
variable {k k':World}{R:World→Value→Prop}{c0 c1 c2 c3:Array Value}{s:PSec}{b:PBand}{r:PRange}{K L T W d n0 n1 n2 d0 d1 d2 n3 n4 n5 d3 d4 d5 n6 d6 n7 d7 n8 d8:Nat}{A0 A1 A2 A3 A4 A5 A6 A7 A8:Option Addr}{most:Int}
end
section
variable {k:World}{R:World→Value→Prop}{s:PSec}{x:PBand}{n0 n1 n2 d0 d1 d2 n3 n4 n5 d3 d4 d5 n6 d6 n7 d7 n8 d8:Nat}{A0 A1 A2 A3 A4 A5 A6 A7 A8:Option Addr}{i0 i1 i2 i3 i4 i5 i6 i7 most:Int}
end
def aXk (x y:Rat) (n:Int):Rat:=x+(y-x)*((n:Rat) / ((255:Int):Rat))
section
variable {s:PSec}{x y:PState}
end
section
variable {k k':World}{R:World→Value→Prop}{c0 c1 c2 c3:Array Value}{s:PSec}{x:PState}{b:PBand}{K T n0 n1 n2 d0 d1 d2 n3 n4 n5 d3 d4 d5 n6 d6 n7 d7 n8 d8 n9 d9:Nat}{A0 A1 A2 A3 A4 A5 A6 A7 A8 A9:Option Addr}{u v:Rat}{n i0 i1 i2 i3 i4 i5 i6 i7 j0 j1 j2 j3 most:Int}
def U8A (a:Array Value) (v:Int):Prop:=0≤v∧v≤255∧a=#[.int .u8 v]
end
