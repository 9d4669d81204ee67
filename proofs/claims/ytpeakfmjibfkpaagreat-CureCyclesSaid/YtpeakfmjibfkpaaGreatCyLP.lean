/- Several texts in one. (Printed by prep.py.) -/
import Derived.Test.YtpeakfmjibfkpaaGreatCyDL
namespace Go.Proofs.YtpeakfmjibfkpaaGreat
set_option maxHeartbeats 1000000
theorem aTa {l:List PRate}(h:bC l=0) {i:Nat}(hi:i<l.length):0≤(at_ l i).v:=by
 unfold bC at h;split at h
 ·cases h
 ·have:=cP h i hi;unfold dD at this;split at this
  ·cases this
  ·split at this
   ·cases this
   ·rename_i hn;exact yy.1 hn
theorem aAy {l:List PRate}(h:bC l=0) (t:Rat):0≤spd l t:=by
 unfold spd;split
 ·exact xg
 ·have h1:upto l t≤l.length:=(List.takeWhile_sublist _).length_le;exact aTa h oq
section
variable {s:PSec}{x:PState}{u v:Rat}
theorem aRy (h:aF s=0) {i:Nat}(hi:i<s.mats.length):bC (at_ s.mats i).cure=0∧bC (at_ s.mats i).spoil=0:=by
 have:=cP (mQ h) i hi;unfold mZ at this
 by_cases c1:bC (at_ s.mats i).cure=0
 ·rw [oh (by simp [c1])]at this
  by_cases c2:bC (at_ s.mats i).spoil=0
  ·exact⟨c1,c2⟩
  ·rw [og c2]at this;exact absurd this c2
 ·rw [og c1]at this;exact absurd this c1
theorem aVg (h:aF s=0) {i:Nat}(hi:i<s.cells.length):at_ x.cure i≤nG s x i∧at_ x.spoil i≤gW s x i:=by
 obtain⟨h0,h1,_⟩:=eM h hi;have hm:=aRy h (i:=(at_ s.cells i).m.toNat) oq;have a:=aAy hm.1 (at_ x.temp i);have b:=aAy hm.2 (at_ x.temp i);unfold nG gW;constructor <;> grind
theorem uQ {B t:Rat}{T:PLink→Rat}:∀(ls:List PLink) (a c:Rat),a≤c*(B-t)→(∀l∈ls,0≤l.v∧T l≤B)→ls.foldl (fun a l=>a+l.v*(T l-t)) a≤ls.foldl (fun c l=>c+l.v) c*(B-t)
 | [],a,c,h,_=>h
 | l :: ls,a,c,h,hl=>by
  obtain⟨h0,h1⟩:=hl l (by simp);rw [vk,vk];refine uQ ls _ _ ?_ fun y hy=>hl y (by simp [hy]);have:=jn (show T l-t≤B-t by grind) h0
  grind
theorem uP {B t:Rat}{T:PLink→Rat}:∀(ls:List PLink) (a c:Rat),c*(B-t)≤a→(∀l∈ls,0≤l.v∧B≤T l)→ls.foldl (fun c l=>c+l.v) c*(B-t)≤ls.foldl (fun a l=>a+l.v*(T l-t)) a
 | [],a,c,h,_=>h
 | l :: ls,a,c,h,hl=>by
  obtain⟨h0,h1⟩:=hl l (by simp);rw [vk,vk];refine uP ls _ _ ?_ fun y hy=>hl y (by simp [hy]);have:=jn (show B-t≤T l-t by grind) h0
  grind
theorem aRz (h:aF s=0) {i:Nat}(hi:i<s.cells.length):tot s.links i ((at_ s.cells i).steam+(at_ s.cells i).air)≤(at_ s.cells i).cap:=by
 have:=cP (aWv h) i hi;unfold lQ at this;split at this
 ·cases this
 ·rename_i hn;exact yy.1 hn
theorem aCu (h:aF s=0) {z:PLink}(hz:z∈s.links):0≤z.v:=by
 obtain⟨j,hj,e⟩:=ki hz;rw [←e,←eC hj];exact (aIu h hj).2.2.2
theorem vA (h:aF s=0) {i:Nat}(_hi:i<s.cells.length) {z:PLink}(hz:z∈nbm s.links i):(z.a+z.b-(i:Int)).toNat<s.cells.length:=by
 obtain⟨h1,h2⟩:=iB hz;have:=dH (cQ h) z h1;omega
structure Btw (s:PSec) (x:PState) (u v:Rat) (lo hi:Rat):Prop where
 temp:∀j,j<s.cells.length→lo≤at_ x.temp j∧at_ x.temp j≤hi
 steam:∀j,j<s.cells.length→(at_ s.cells j).steam≠0→lo≤u∧u≤hi
 air:∀j,j<s.cells.length→(at_ s.cells j).air≠0→lo≤v∧v≤hi
theorem vQ {w T B t:Rat}(hw:0≤w) (h:w≠0→T≤B):w*(T-t)≤w*(B-t):=by
 by_cases c:w=0
 ·rw [c];grind
 ·exact jn (by have:=h c;grind) hw
theorem vP {w T B t:Rat}(hw:0≤w) (h:w≠0→B≤T):w*(B-t)≤w*(T-t):=by
 by_cases c:w=0
 ·rw [c];grind
 ·exact jn (by have:=h c;grind) hw
theorem aBc {lo hi:Rat}(h:aF s=0) (hb:Btw s x u v lo hi) {i:Nat}(hi':i<s.cells.length):lo≤fB s x u v i∧fB s x u v i≤hi:=by
 obtain⟨_,_,hc,hs,ha⟩:=eM h hi';have ht:=aRz h hi';obtain⟨b0,b1⟩:=hb.temp i hi';have hne:(at_ s.cells i).cap≠0:=fun e=>by rw [e]at hc;exact absurd hc oz
 have hd:flow s x u v i/(at_ s.cells i).cap*(at_ s.cells i).cap=flow s x u v i:=wk hne;have nb:∀l∈nbm s.links (i:Int),0≤l.v∧(lo≤at_ x.temp (l.a+l.b-(i:Int)).toNat∧at_ x.temp (l.a+l.b-(i:Int)).toNat≤hi):=fun l hl=>⟨aCu h (iB hl).1,hb.temp _ (vA h hi' hl)⟩;have up:flow s x u v i≤tot s.links i ((at_ s.cells i).steam+(at_ s.cells i).air)*(hi-at_ x.temp i):=by
  refine uQ _ _ _ ?_ fun l hl=>⟨(nb l hl).1,(nb l hl).2.2⟩;have p:=vQ (T:=u) (B:=hi) (t:=at_ x.temp i) hs fun e=>(hb.steam i hi' e).2;have q:=vQ (T:=v) (B:=hi) (t:=at_ x.temp i) ha fun e=>(hb.air i hi' e).2
  grind
 have dn:tot s.links i ((at_ s.cells i).steam+(at_ s.cells i).air)*(lo-at_ x.temp i)≤flow s x u v i:=by
  refine uP _ _ _ ?_ fun l hl=>⟨(nb l hl).1,(nb l hl).2.1⟩;have p:=vP (T:=u) (B:=lo) (t:=at_ x.temp i) hs fun e=>(hb.steam i hi' e).1;have q:=vP (T:=v) (B:=lo) (t:=at_ x.temp i) ha fun e=>(hb.air i hi' e).1
  grind
 have up2:=vu ht (show 0≤hi-at_ x.temp i by grind);have dn2:=vu ht (show 0≤at_ x.temp i-lo by grind);unfold fB;constructor
 ·by_cases c:lo≤at_ x.temp i+flow s x u v i/(at_ s.cells i).cap
  ·exact c
  ·have hp:0<((lo-at_ x.temp i)-flow s x u v i/(at_ s.cells i).cap)*(at_ s.cells i).cap:=Rat.mul_pos (by grind) hc
   grind
 ·by_cases c:at_ x.temp i+flow s x u v i/(at_ s.cells i).cap≤hi
  ·exact c
  ·have hp:0<(flow s x u v i/(at_ s.cells i).cap-(hi-at_ x.temp i))*(at_ s.cells i).cap:=Rat.mul_pos (by grind) hc
   grind
end
open Go.RowKit Num W32
open Sy (Up Sees CallsG Seg)
def MM:Int:=9223372036854775808
def Mag (q:Rat):Prop:=((-MM:Int):Rat)≤q∧q≤((MM:Int):Rat)
def Sm (q:Rat):Prop:=∃a:Int,q=mkRat a (2^40)∧-(MM*2^40)≤a∧a≤MM*2^40
theorem aQx {q:Rat}{m:Int}:(m:Rat)≤q↔m*q.den≤q.num:=by
 rw [Rat.le_iff];simp
theorem aQq {q:Rat}{m:Int}:q≤(m:Rat)↔q.num≤m*q.den:=by
 rw [Rat.le_iff];simp
theorem Mag.neg {q:Rat}(h:Mag q):Mag (-q):=by
 obtain⟨h1,h2⟩:=h;constructor
 ·have:=Rat.neg_le_neg h2
  rwa [←yc]at this
 ·have:=Rat.neg_le_neg h1
  rwa [←yc,Int.neg_neg]at this
theorem Sm.neg {q:Rat}(h:Sm q):Sm (-q):=by
 obtain⟨a,rfl,h1,h2⟩:=h;exact⟨-a,(oD _ _).symm,oq,oq⟩
theorem Sm.mag {q:Rat}(h:Sm q):Mag q:=by
 obtain⟨a,rfl,h1,h2⟩:=h;have e:∀m:Int,(m:Rat)=mkRat (m*2^40) (2^40):=fun m=>by
  rw [jZ];have:(((2^40:Nat):Int):Rat)≠0:=by decide +kernel
  rw [show ((m*2^40:Int):Rat)=(m:Rat)*(((2^40:Nat):Int):Rat) from uq m ((2^40:Nat):Int)];exact (Rat.mul_div_cancel this).symm
 have le:∀x y:Int,x≤y→mkRat x (2^40)≤mkRat y (2^40):=fun x y h=>by
  rw [jZ,jZ,Rat.div_def,Rat.div_def];exact vu (ym.2 h) (by decide +kernel)
 exact⟨by rw [e];exact le _ _ (by rw [Int.neg_mul];exact h1),by rw [e];exact le _ _ h2⟩
theorem aCp {q:Rat}(h:Mag q):Sm (jL q):=by
 obtain⟨h1,h2⟩:=h;rw [aQx]at h1;rw [aQq]at h2;have hd:(0:Int)<q.den:=by have:=q.den_pos;omega
 refine⟨q.num*((2^40:Nat):Int) / (q.den:Int),rfl,?_,?_⟩
 ·rw [Int.le_ediv_iff_mul_le hd];have:=Int.mul_le_mul_of_nonneg_right h1 (show (0:Int)≤2^40 by decide);rw [show -(MM*2^40)*(q.den:Int)=-MM*q.den*2^40 by rw [←Int.neg_mul,Int.mul_right_comm]];exact this
 ·refine Int.ediv_le_of_le_mul hd ?_;have:=Int.mul_le_mul_of_nonneg_right h2 (show (0:Int)≤2^40 by decide);rw [show MM*2^40*(q.den:Int)=MM*q.den*2^40 by rw [Int.mul_right_comm]];exact this
theorem aUu {q:Rat}(h:Mag q):Sm (pA q):=(aCp h.neg).neg
theorem Sm.wd {q:Rat}(h:Sm q):Wd q 2:=by
 obtain⟨a,e,h1,h2⟩:=h;refine⟨a,2^40,oz,e,?_,oz⟩;unfold MM at h1 h2;have:B64^2=340282366920938463463374607431768211456:=oz
 rw [this];omega
theorem Lst.monoI {α:Type}[Inhabited α] {k:World}{A:Option Addr}{n s:Nat}{P Q:Array Value→α→Prop}{l:List α}(h:Lst k A n s P l) (hP:∀i a,i<l.length→P a (at_ l i)→Q a (at_ l i)):Lst k A n s Q l:=by
 obtain⟨e,xs,h1,h2,h3⟩:=h;exact⟨e,xs,h1,h2,Arr.mono h3 fun i a hi h=>hP i a oq h⟩
theorem StateW.tightP {k:World}{A B C:Option Addr}{n n' n'' W T:Nat}{x:PState}(h:StateW (NP W) (NP T) k A n B n' C n'' x) (hs:∀i,i<x.temp.length→Sm (at_ x.temp i)) (hT:2≤T):StateV (NP T) k A n B n' C n'' x:=
 ⟨h.temp.monoI fun i _ hi g=>(g.cut (hs i hi).wd).mono hT,h.cure,h.spoil⟩
def oR (x:PState):Prop:=∀i,i<x.temp.length→Mag (at_ x.temp i)
structure MagR (r:PRange):Prop where
 s0:Mag r.s0
 s1:Mag r.s1
 a0:Mag r.a0
 a1:Mag r.a1
theorem aEl {s:PSec}{x:PState}{u v:Rat}(hE:aF s=0) (hz:sized s x) (h:oR x) (hu:Mag u) (hv:Mag v) {i:Nat}(hi:i<s.cells.length):Mag (fB s x u v i):=
 aBc hE ⟨fun j hj=>h j (by rw [hz.1];exact hj),fun _ _ _=>hu,fun _ _ _=>hv⟩ hi
theorem zM {s:PSec}{b:PBand}{r:PRange}(hE:aF s=0) (hz:sized s b.lo) (hz':sized s b.hi) (h:oR b.lo) (h':oR b.hi) (hr:MagR r) :
 (∀i,i<(dL s b r).lo.temp.length→Sm (at_ (dL s b r).lo.temp i))∧∀i,i<(dL s b r).hi.temp.length→Sm (at_ (dL s b r).hi.temp i):=by
 constructor
 ·intro i hi;have hi:i<s.cells.length:=by simpa [dL,cM] using hi
  rw [show at_ (dL s b r).lo.temp i=jL (fB s b.lo r.s0 r.a0 i) from aN hi];exact aCp (aEl hE hz h hr.s0 hr.a0 hi)
 ·intro i hi;have hi:i<s.cells.length:=by simpa [dL,cM] using hi
  rw [show at_ (dL s b r).hi.temp i=pA (fB s b.hi r.s1 r.a1 i) from aN hi];exact aUu (aEl hE hz' h' hr.s1 hr.a1 hi)
def advN (s:PSec) (r:PRange):Nat→PBand→PBand
 | 0,b=>b
 | k+1,b=>dL s (advN s r k b) r
structure OkB (s:PSec) (b:PBand):Prop where
 lo:sized s b.lo
 hi:sized s b.hi
 magl:oR b.lo
 magh:oR b.hi
theorem OkB.adv {s:PSec}{b:PBand}{r:PRange}(hE:aF s=0) (hr:MagR r) (h:OkB s b):OkB s (dL s b r):=by
 obtain⟨h1,h2⟩:=zM hE h.lo h.hi h.magl h.magh hr;exact⟨sU,sU,fun i hi=>(h1 i hi).mag,fun i hi=>(h2 i hi).mag⟩
theorem OkB.advN {s:PSec}{b:PBand}{r:PRange}(hE:aF s=0) (hr:MagR r) (h:OkB s b):∀k,OkB s (advN s r k b)
 | 0=>h
 | k+1=>(OkB.advN hE hr h k).adv hE hr
def eQ (p:Nat→Bool):Nat→Nat
 | 0=>0
 | n+1=>if eQ p n<n then eQ p n else if p n=true then n else n+1
theorem gJ {p:Nat→Bool}:∀ {n:Nat},(∀i,i<n→p i=false)→eQ p n=n
 | 0,_=>rfl
 | n+1,h=>by
  unfold eQ;rw [gJ fun i hi=>h i oq,oh oq,oh (by rw [h n oq];decide)]
theorem gK {p:Nat→Bool}{j:Nat}(h:∀i,i<j→p i=false) (hj:p j=true):∀ {n:Nat},j<n→eQ p n=j
 | 0,hn=>by omega
 | n+1,hn=>by
  unfold eQ
  by_cases e:j=n
  ·subst e;rw [gJ h,oh oq,og hj]
  ·rw [gK h hj oq,og oq]
def kM (s:PSec) (b:PBand) (r:PRange) (most:Int):Int:=if gR s b r≠0 then gR s b r else if most<0∨2000<most then 1 else 0
def tD (s:PSec) (b:PBand) (r:PRange) (most:Nat):Nat:=eQ (fun k=>decide (fD s (advN s r k b).lo)) (most+1)
def aTu (s:PSec) (b:PBand) (r:PRange):Nat→Int
 | 0=>-1
 | k+1=>fU s (advN s r k b).lo
structure Cyc where
 (steps slow fast:Int) (fin:PBand) (e:Int)
def aIs (e:Int):Cyc:=⟨0,0,0,⟨tQ,tQ⟩,e⟩
def lK (s:PSec) (b:PBand) (r:PRange) (most:Int):Cyc:=
 if kM s b r most≠0 then aIs (kM s b r most)
 else if most<tD s b r most.toNat then aIs 5
 else ⟨tD s b r most.toNat,aTu s b r (tD s b r most.toNat),aCn s (advN s r (tD s b r most.toNat) b).hi,advN s r (tD s b r most.toNat) b,if aR s (advN s r (tD s b r most.toNat) b).hi then 61 else 0⟩
def lD (s:PSec) (b:PBand) (r:PRange) (most:Nat):Nat:=eQ (fun k=>decide (aR s (advN s r (k+1) b).hi)) most
def sI (s:PSec) (b:PBand) (r:PRange) (most:Int):Int×Int:=
 if kM s b r most≠0 then (0,kM s b r most) else if aR s b.hi then (0,61) else (lD s b r most.toNat,0)
theorem oN {K d T T':Nat}(h:T≤T'):aJ K d T≤aJ K d T':=by
 unfold aJ;have:=qn d (show K+2*T+2≤K+2*T'+2 by omega);omega
theorem aPx {s:PSec}{b:PBand}{r:PRange}{most:Int}(h:kM s b r most=0):gR s b r=0∧0≤most∧most≤2000:=by
 unfold kM at h;split at h
 ·rename_i g;exact absurd h g
 ·rename_i g;split at h
  ·cases h
  ·rename_i g';exact⟨zd.1 g,oq,oq⟩
theorem fP {s:PSec}{x:PState}(hz:sized s x) (h:s.cells.length≤24):wH x:=by
 obtain⟨z1,z2,z3⟩:=hz;exact⟨oq,oq,oq⟩
section
variable {k k':World}{R:World→Value→Prop}{c0 c1 c2 c3:Array Value}{s:PSec}{b:PBand}{r:PRange}{K L T W d n0 n1 n2 d0 d1 d2 n3 n4 n5 d3 d4 d5 n6 d6 n7 d7 n8 d8:Nat}{A0 A1 A2 A3 A4 A5 A6 A7 A8:Option Addr}{most:Int}
theorem aBs (hl:StateV (NP T) k A3 n3 A4 n4 A5 n5 b.lo) (hh:StateV (NP T) k A6 n6 A7 n7 A8 n8 b.hi) (hn:wH b.lo) (hn':wH b.hi)
 (C:∀k' B0 m0 e0 B1 m1 e1 B2 m2 e2 B3 m3 e3 B4 m4 e4 B5 m5 e5,Up k k'→StateV (NP T) k' B0 m0 B1 m1 B2 m2 b.lo→StateV (NP T) k' B3 m3 B4 m4 B5 m5 b.hi→R k' (S6 B0 m0 e0 B1 m1 e1 B2 m2 e2 B3 m3 e3 B4 m4 e4 B5 m5 e5)) :
 Cl k 82 #[S6 A3 n3 d3 A4 n4 d4 A5 n5 d5 A6 n6 d6 A7 n7 d7 A8 n8 d8] R:=by
 intro k0 u0;have hM:=aE T;refine aJv (qU (StateV.up hM hl u0) (by rw [hl.temp.1];exact hn.1) (by rw [hl.cure.1];exact hn.2.1) (by rw [hl.spoil.1];exact hn.2.2) fun k1 B0 e0 B1 e1 B2 e2 u1 h1=>⟨_,_,_,_,_,_,_,_,_,rfl,?_⟩);refine qU (StateV.up hM hh (u0.trans u1)) (by rw [hh.temp.1];exact hn'.1) (by rw [hh.cure.1];exact hn'.2.1) (by rw [hh.spoil.1];exact hn'.2.2) fun k3 B3 e3 B4 e4 B5 e5 u3 h3=>⟨_,_,_,_,_,_,_,_,_,rfl,fun k4 u4=>?_⟩;exact C k4 _ _ _ _ _ _ _ _ _ _ _ _ _ _ _ _ _ _ ((u0.trans u1).trans (u3.trans u4)) (StateV.up hM h1 (u3.trans u4)) (StateV.up hM h3 u4)
theorem aBu (hs:SecV (NP K) k A0 n0 A1 n1 A2 n2 s) (hl:StateV (NP T) k A3 n3 A4 n4 A5 n5 b.lo) (hh:StateV (NP T) k A6 n6 A7 n7 A8 n8 b.hi) (hr:RangeV (NP K) k c0 c1 c2 c3 r) (hK1:1≤K) (hT1:1≤T) (hK:K≤1000000) (hT:T≤100000000) (C:∀k',Up k k'→R k' (.int .i64 (kM s b r most))) :
 Cl k 81 #[S3 A0 n0 d0 A1 n1 d1 A2 n2 d2,S6 A3 n3 d3 A4 n4 d4 A5 n5 d5 A6 n6 d6 A7 n7 d7 A8 n8 d8,Rg c0 c1 c2 c3,.int .i64 most] R:=by
 intro k0 u0;have hN:=aE K;have hNT:=aE T;replace hs:=SecV.up hN hs u0;replace hl:=StateV.up hNT hl u0;replace hh:=StateV.up hNT hh u0;replace hr:=RangeV.up hN hr u0;replace C:=fun k' u=>C k' (u0.trans u);have hT:T≤300000000:=oq
 refine aJx hr.s0.seg hr.s1.seg hr.a0.seg hr.a1.seg (aIc hs hl hh hK1 hK hT1 hT fun k1 u1=>⟨_,rfl,fun f k2 u2=>?_,fun f=>aBy (RangeV.up hN hr u1) hK1 oq fun k4 u4=>⟨_,rfl,fun g k5 u5=>?_,fun g=>⟨fun h k6 u6=>?_,fun h=>⟨fun h' k7 u7=>?_,fun h' k8 u8=>?_⟩⟩⟩⟩)
 ·have:=C k2 (u1.trans u2);have hA:gR s b r=eG s b:=by unfold gR;rw [og (cE f)]
  unfold kM at this
  rwa [hA,og (cE f)]at this
 ·have:=C k5 (u1.trans (u4.trans u5));have hA:gR s b r=gV r:=by unfold gR;rw [oh (by simp [bD f])]
  unfold kM at this
  rwa [hA,og (cE g)]at this
 all_goals have hA:gR s b r=0:=by unfold gR;rw [oh (by simp [bD f]),bD g]
 ·have:=C k6 (u1.trans (u4.trans u6));unfold kM at this
  rwa [hA,oh (by simp),og (Or.inl (ow h))]at this
 ·have:=C k7 (u1.trans (u4.trans u7));unfold kM at this
  rwa [hA,oh (by simp),og (Or.inr (ow h'))]at this
 ·have:=C k8 (u1.trans (u4.trans u8));have h:=ov h;have h':=ov h';unfold kM at this
  rwa [hA,oh (by simp),oh oq]at this
theorem aPs (hs:SecV (NP K) k A0 n0 A1 n1 A2 n2 s) (hl:StateV (NP T) k A3 n3 A4 n4 A5 n5 b.lo) (hh:StateV (NP T) k A6 n6 A7 n7 A8 n8 b.hi) (hr:RangeV (NP K) k c0 c1 c2 c3 r) (hd:aF s=0→∀i,i<s.cells.length→(nbm s.links (i:Nat)).length≤d) (hml:oR b.lo) (hmh:oR b.hi) (hmr:MagR r) (hK1:1≤K) (hT1:1≤T) (hK:K≤1000000) (hd2:d≤128) (hm:kM s b r most=0→aJ K d (T+most.toNat*(K+1))≤90000) (hTT:T≤100000000) (hfin:kM s b r most=0→T+most.toNat*(K+1)≤W)
 (C:∀k' B0 m0 e0 B1 m1 e1 B2 m2 e2 B3 m3 e3 B4 m4 e4 B5 m5 e5,Up k k'→StateV (NP W) k' B0 m0 B1 m1 B2 m2 (lK s b r most).fin.lo→StateV (NP W) k' B3 m3 B4 m4 B5 m5 (lK s b r most).fin.hi→
   R k' (.tuple #[.agg #[.int .i64 (lK s b r most).steps,.int .i64 (lK s b r most).slow,.int .i64 (lK s b r most).fast,.slice B0 m0 e0,.slice B1 m1 e1,.slice B2 m2 e2,.slice B3 m3 e3,.slice B4 m4 e4,.slice B5 m5 e5],.int .i64 (lK s b r most).e])) :
 Cl k 30 #[S3 A0 n0 d0 A1 n1 d1 A2 n2 d2,S6 A3 n3 d3 A4 n4 d4 A5 n5 d5 A6 n6 d6 A7 n7 d7 A8 n8 d8,Rg c0 c1 c2 c3,.int .i64 most] R:=by
 intro k0 u0;have hN:=aE K;have hNT:=aE T;replace hs:=SecV.up hN hs u0;replace hl:=StateV.up hNT hl u0;replace hh:=StateV.up hNT hh u0;replace hr:=RangeV.up hN hr u0;replace C:=fun k' B0 m0 e0 B1 m1 e1 B2 m2 e2 B3 m3 e3 B4 m4 e4 B5 m5 e5 u=>C k' B0 m0 e0 B1 m1 e1 B2 m2 e2 B3 m3 e3 B4 m4 e4 B5 m5 e5 (u0.trans u);have bad:∀e:Int,lK s b r most=aIs e→∀k',Up k0 k'→R k' (.tuple #[.agg #[.int .i64 0,.int .i64 0,.int .i64 0,.slice none 0 0,.slice none 0 0,.slice none 0 0,.slice none 0 0,.slice none 0 0,.slice none 0 0],.int .i64 e]):=fun e he k' u=>by
  have:=C k' none 0 0 none 0 0 none 0 0 none 0 0 none 0 0 none 0 0 u (by rw [he];exact⟨.nil,.nil,.nil⟩) (by rw [he];exact⟨.nil,.nil,.nil⟩);rw [he]at this;exact this
 refine aKl hr.s0.seg hr.s1.seg hr.a0.seg hr.a1.seg (aBu hs hl hh hr hK1 hT1 hK hTT fun k1 u1=>⟨_,rfl,fun f k2 u2=>bad _ (by unfold lK;rw [og (cE f)]) k2 (u1.trans u2),fun f=>?_⟩);have f:=bD f;obtain⟨hA,hm0,hm2⟩:=aPx f;obtain⟨mN,rfl⟩:∃mN:Nat,most=mN:=⟨most.toNat,oq⟩;have hm:=hm f;rw [oc]at hm;have hfin:=hfin f;rw [oc]at hfin;obtain⟨hE,hz,hz',_⟩:=mH (zL hA);have hOK:OkB s b:=⟨hz,hz',hml,hmh⟩;have hc24:s.cells.length≤24:=by have:=aQ hE;unfold aY at this;omega
 have hd:=hd hE;have hW:∀j,j≤mN→aJ K d (T+j*(K+1))≤90000∧T+j*(K+1)≤90000:=fun j hj=>by
  have h1:T+j*(K+1)≤T+mN*(K+1):=Nat.add_le_add_left (od _ hj) _;have h2:=qk (oN h1) hm;exact⟨h2,qk mC h2⟩
 have hsucc:∀j:Nat,T+(j+1)*(K+1)=T+j*(K+1)+K+1:=fun j=>by rw [jt];omega
 refine uC (SecV.up hN hs u1).links (by have:=aQ hE;unfold aY at this;have:=hs.links.1;omega) (fun z hz=>by
  obtain⟨h1,h2⟩:=dH (cQ hE) z hz
  omega) fun k4 M u4 hM=>⟨_,_,_,_,_,_,_,_,_,_,rfl,?_⟩
 have v4:=u1.trans u4;refine aBs (StateV.up hNT hl v4) (StateV.up hNT hh v4) (fP hz hc24) (fP hz' hc24) fun k6 B0 m0 e0 B1 m1 e1 B2 m2 e2 B3 m3 e3 B4 m4 e4 B5 m5 e5 u6 gl gh=>⟨_,_,_,_,_,_,_,_,_,_,_,_,_,_,_,_,_,_,rfl,?_⟩;have v6:=v4.trans u6
 refine⟨fun m k vs=>∃(j:Nat) (B0:Option Addr) (m0 e0:Nat) (B1:Option Addr) (m1 e1:Nat) (B2:Option Addr) (m2 e2:Nat) (B3:Option Addr) (m3 e3:Nat) (B4:Option Addr) (m4 e4:Nat) (B5:Option Addr) (m5 e5:Nat),j+m=mN∧vs=[.int .i64 (aTu s b r j),.int .i64 j,S6 B0 m0 e0 B1 m1 e1 B2 m2 e2 B3 m3 e3 B4 m4 e4 B5 m5 e5]∧
  StateV (NP (T+j*(K+1))) k B0 m0 B1 m1 B2 m2 (advN s r j b).lo∧StateV (NP (T+j*(K+1))) k B3 m3 B4 m4 B5 m5 (advN s r j b).hi∧∀i,i<j→¬ fD s (advN s r i b).lo,
  ⟨mN,fun k7 u7=>⟨0,_,_,_,_,_,_,_,_,_,_,_,_,_,_,_,_,_,_,oq,rfl,StateV.up (aE _) (gl.mono fun _ _ h=>h.mono oq) u7,StateV.up (aE _) (gh.mono fun _ _ h=>h.mono oq) u7,fun i hi=>oq⟩⟩,?_⟩
 rintro m k7 vs u7 ⟨j,B0,m0,e0,B1,m1,e1,B2,m2,e2,B3,m3,e3,B4,m4,e4,B5,m5,e5,hj,rfl,gl,gh,hno⟩;have v7:=v6.trans u7;have hj0:=hOK.advN hE hmr j;have hWj:=hW j oq;refine⟨_,_,_,_,_,_,_,_,_,_,_,_,_,_,_,_,_,_,_,_,rfl,aUt (SecV.up hN hs v7) gl hE hj0.lo hK1 oq oq oq fun k9 u9=>⟨_,rfl,fun g=>?_,fun g=>⟨fun e k16 u16=>?_,fun e=>?_⟩⟩⟩
 ·
  have hNN:tD s b r (mN:Int).toNat=j:=by
   rw [oc];exact gK (fun i hi=>decide_eq_false (hno i hi)) g oq
  have hle:¬ (mN:Int)<tD s b r (mN:Int).toNat:=by rw [hNN];omega
  have hmm:j*(K+1)≤mN*(K+1):=od _ oq;unfold lK at C;rw [oh (by simp [f]),if_neg hle,hNN]at C;refine aUv (b:=advN s r j b) (SecV.up hN hs (v7.trans u9)) (StateV.up (aE _) gh u9) hE hj0.hi hK1 oq oq oq fun k11 u11=>⟨_,rfl,?_⟩;refine rB (SecV.up hN hs (v7.trans (u9.trans u11))) (StateV.up (aE _) gh (u9.trans u11)) hE hj0.hi hK1 oq oq oq fun k13 u13=>⟨_,rfl,fun h k14 u14=>?_,fun h k15 u15=>?_⟩
  ·rw [og (ow h)]at C;exact C k14 _ _ _ _ _ _ _ _ _ _ _ _ _ _ _ _ _ _ (v7.trans ((u9.trans u11).trans (u13.trans u14))) ((StateV.up (aE _) gl ((u9.trans u11).trans (u13.trans u14))).mono fun _ _ h=>h.mono oq) ((StateV.up (aE _) gh ((u9.trans u11).trans (u13.trans u14))).mono fun _ _ h=>h.mono oq)
  ·rw [oh (ov h)]at C;exact C k15 _ _ _ _ _ _ _ _ _ _ _ _ _ _ _ _ _ _ (v7.trans ((u9.trans u11).trans (u13.trans u15))) ((StateV.up (aE _) gl ((u9.trans u11).trans (u13.trans u15))).mono fun _ _ h=>h.mono oq) ((StateV.up (aE _) gh ((u9.trans u11).trans (u13.trans u15))).mono fun _ _ h=>h.mono oq)
 ·have e:j=mN:=by simp at e;omega
  refine bad 5 ?_ _ (v7.trans (u9.trans u16));have hNN:tD s b r (mN:Int).toNat=mN+1:=by
   rw [oc];exact gJ fun i hi=>decide_eq_false (fun hq=>by rcases zh i j with h|h;exact hno i h hq;rw [show i=j by omega]at hq;exact ov g hq)
  unfold lK;rw [oh (by simp [f]),if_pos (by rw [hNN];omega)]
 ·have e:j≠mN:=by simp at e;omega
  refine aVf (b:=advN s r j b) (SecV.up hN hs (v7.trans u9)) (StateV.up (aE _) gl u9) hE hj0.lo hK1 oq oq oq fun k18 u18=>⟨_,rfl,?_⟩;refine aEz (b:=advN s r j b) (SecV.up hN hs (v7.trans (u9.trans u18))) (StateV.up (aE _) gl (u9.trans u18)) (StateV.up (aE _) gh (u9.trans u18)) (NbV.up hN hM ((u6.trans u7).trans (u9.trans u18))) (RangeV.up hN hr (v7.trans (u9.trans u18))) hE hj0.lo hj0.hi hd hK1 oq hWj.1 hd2 fun k20 B0 m0 e0 B1 m1 e1 B2 m2 e2 B3 m3 e3 B4 m4 e4 B5 m5 e5 u20 g1 g2=>⟨_,_,_,_,_,_,_,_,_,_,_,_,_,_,_,_,_,_,rfl,fun k21 u21=>?_⟩;obtain⟨q1,q2⟩:=zM hE hj0.lo hj0.hi hj0.magl hj0.magh hmr;refine⟨m-1,oq,j+1,_,_,_,_,_,_,_,_,_,_,_,_,_,_,_,_,_,_,oq,by rw [aC oq];rfl,?_,?_,bP hno (ov g)⟩
  ·rw [hsucc];exact StateV.up (aE _) (g1.tightP q1 oq) u21
  ·rw [hsucc];exact StateV.up (aE _) (g2.tightP q2 oq) u21
theorem aUw (hs:SecV (NP K) k A0 n0 A1 n1 A2 n2 s) (hl:StateV (NP T) k A3 n3 A4 n4 A5 n5 b.lo) (hh:StateV (NP T) k A6 n6 A7 n7 A8 n8 b.hi) (hr:RangeV (NP K) k c0 c1 c2 c3 r) (hd:aF s=0→∀i,i<s.cells.length→(nbm s.links (i:Nat)).length≤d) (hml:oR b.lo) (hmh:oR b.hi) (hmr:MagR r) (hK1:1≤K) (hT1:1≤T) (hK:K≤1000000) (hd2:d≤128) (hm:kM s b r most=0→aJ K d (T+most.toNat*(K+1))≤90000) (hTT:T≤100000000)
 (C:∀k',Up k k'→R k' (.tuple #[.int .i64 (sI s b r most).1,.int .i64 (sI s b r most).2])) :
 Cl k 32 #[S3 A0 n0 d0 A1 n1 d1 A2 n2 d2,S6 A3 n3 d3 A4 n4 d4 A5 n5 d5 A6 n6 d6 A7 n7 d7 A8 n8 d8,Rg c0 c1 c2 c3,.int .i64 most] R:=by
 intro k0 u0;have hN:=aE K;have hNT:=aE T;replace hs:=SecV.up hN hs u0;replace hl:=StateV.up hNT hl u0;replace hh:=StateV.up hNT hh u0;replace hr:=RangeV.up hN hr u0;replace C:=fun k' u=>C k' (u0.trans u);refine aPm hr.s0.seg hr.s1.seg hr.a0.seg hr.a1.seg (aBu hs hl hh hr hK1 hT1 hK hTT fun k1 u1=>⟨_,rfl,fun f k2 u2=>?_,fun f=>?_⟩)
 ·have:=C k2 (u1.trans u2);unfold sI at this
  rwa [og (cE f)]at this
 have f:=bD f;obtain⟨hA,hm0,hm2⟩:=aPx f;obtain⟨mN,rfl⟩:∃mN:Nat,most=mN:=⟨most.toNat,oq⟩;have hm:=hm f;rw [oc]at hm;obtain⟨hE,hz,hz',_⟩:=mH (zL hA);have hOK:OkB s b:=⟨hz,hz',hml,hmh⟩;have hc24:s.cells.length≤24:=by have:=aQ hE;unfold aY at this;omega
 have hd:=hd hE;have hW:∀j,j≤mN→aJ K d (T+j*(K+1))≤90000∧T+j*(K+1)≤90000:=fun j hj=>by
  have h1:T+j*(K+1)≤T+mN*(K+1):=Nat.add_le_add_left (od _ hj) _;have h2:=qk (oN h1) hm;exact⟨h2,qk mC h2⟩
 have hsucc:∀j:Nat,T+(j+1)*(K+1)=T+j*(K+1)+K+1:=fun j=>by rw [jt];omega
 unfold sI at C;rw [oh (by simp [f]),Int.toNat_natCast]at C;refine rB (SecV.up hN hs u1) (StateV.up hNT hh u1) hE hz' hK1 oq oq oq fun k4 u4=>⟨_,rfl,fun g k5 u5=>?_,fun g=>?_⟩
 ·have:=C k5 (u1.trans (u4.trans u5))
  rwa [og (ow g)]at this
 rw [oh (ov g)]at C;have v4:=u1.trans u4
 refine uC (SecV.up hN hs v4).links (by have:=aQ hE;unfold aY at this;have:=hs.links.1;omega) (fun z hz=>by
  obtain⟨h1,h2⟩:=dH (cQ hE) z hz
  omega) fun k6 M u6 hM=>⟨_,_,_,_,_,_,_,_,_,_,rfl,?_⟩
 have v6:=v4.trans u6
 refine⟨fun m k vs=>∃(j:Nat) (B0:Option Addr) (m0 e0:Nat) (B1:Option Addr) (m1 e1:Nat) (B2:Option Addr) (m2 e2:Nat) (B3:Option Addr) (m3 e3:Nat) (B4:Option Addr) (m4 e4:Nat) (B5:Option Addr) (m5 e5:Nat),j+m=mN∧vs=[.int .i64 j,S6 B0 m0 e0 B1 m1 e1 B2 m2 e2 B3 m3 e3 B4 m4 e4 B5 m5 e5]∧
  StateV (NP (T+j*(K+1))) k B0 m0 B1 m1 B2 m2 (advN s r j b).lo∧StateV (NP (T+j*(K+1))) k B3 m3 B4 m4 B5 m5 (advN s r j b).hi∧∀i,i<j→¬ aR s (advN s r (i+1) b).hi,
  ⟨mN,fun k7 u7=>⟨0,_,_,_,_,_,_,_,_,_,_,_,_,_,_,_,_,_,_,oq,rfl,(StateV.up hNT hl (v6.trans u7)).mono fun _ _ h=>h.mono oq,(StateV.up hNT hh (v6.trans u7)).mono fun _ _ h=>h.mono oq,fun i hi=>oq⟩⟩,?_⟩
 rintro m k7 vs u7 ⟨j,B0,m0,e0,B1,m1,e1,B2,m2,e2,B3,m3,e3,B4,m4,e4,B5,m5,e5,hj,rfl,gl,gh,hno⟩;have v7:=v6.trans u7;have hj0:=hOK.advN hE hmr j;have hj1:=hOK.advN hE hmr (j+1);have hWj:=hW j oq;refine⟨_,_,_,_,_,_,_,_,_,_,_,_,_,_,_,_,_,_,_,rfl,fun hlt=>?_,fun hge k15 u15=>?_⟩
 ·have hlt:=aH hlt;have hWj1:=hW (j+1) oq;rw [hsucc]at hWj1;refine aEz (b:=advN s r j b) (SecV.up hN hs v7) (StateV.up (aE _) gl (Up.refl _)) (StateV.up (aE _) gh (Up.refl _)) (NbV.up hN hM u7) (RangeV.up hN hr v7) hE hj0.lo hj0.hi hd hK1 oq hWj.1 hd2 fun k10 B0 m0 e0 B1 m1 e1 B2 m2 e2 B3 m3 e3 B4 m4 e4 B5 m5 e5 u10 g1 g2=>⟨_,_,_,_,_,_,_,_,_,_,_,_,_,_,_,_,_,_,rfl,?_⟩;obtain⟨q1,q2⟩:=zM hE hj0.lo hj0.hi hj0.magl hj0.magh hmr;have t1:=g1.tightP q1 oq;have t2:=g2.tightP q2 oq;refine rB (SecV.up hN hs (v7.trans u10)) t2 hE hj1.hi hK1 oq oq oq fun k12 u12=>⟨_,rfl,fun g k13 u13=>?_,fun g k14 u14=>?_⟩
  ·have:=C k13 (v7.trans (u10.trans (u12.trans u13)))
   rwa [show lD s b r mN=j from gK (fun i hi=>decide_eq_false (hno i hi)) g hlt]at this
  ·refine⟨m-1,oq,j+1,_,_,_,_,_,_,_,_,_,_,_,_,_,_,_,_,_,_,oq,by rw [aC oq],?_,?_,bP hno (ov g)⟩
   ·rw [hsucc];exact StateV.up (aE _) t1 (u12.trans u14)
   ·rw [hsucc];exact StateV.up (aE _) t2 (u12.trans u14)
 ·have hge:=aG hge;have:=C k15 (v7.trans u15)
  rwa [show lD s b r mN=mN from gJ fun i hi=>decide_eq_false (hno i oq)]at this
end
open IntKind (wrap)
open Sy (Up Sees CallsG Seg ReadAt)
structure PPhase where
 (steps:Int) (r:PRange)
instance:Inhabited PPhase:=⟨⟨0,⟨0,0,0,0⟩⟩⟩
def phE (p:PPhase):Int:=if p.steps<0 then 1 else gV p.r
def eF:List PPhase→Int
 | []=>0
 | p :: l=>p.steps+eF l
def aAn (l:List PPhase):Int:=if 16<l.length then 4 else if iA (fun i=>phE (at_ l i)) l.length≠0 then iA (fun i=>phE (at_ l i)) l.length else if 2000<eF l then 4 else 0
def advL (s:PSec) (rs:List PRange) (b:PBand):PBand:=rs.foldl (dL s) b
def jS:List PPhase→List PRange
 | []=>[]
 | p :: l=>List.replicate p.steps.toNat p.r++jS l
def oB (s:PSec) (b:PBand) (l:List PPhase):Int:=if eG s b≠0 then eG s b else aAn l
def aLi (s:PSec) (b:PBand) (l:List PPhase):PBand:=jN (oB s b l) (advL s (jS l) b)
theorem aEj (l m:List PPhase):eF (l++m)=eF l+eF m:=by
 induction l with
 | nil=>simp [eF]
 | cons p l ih=>simp only [xa,eF,ih];omega
theorem aLf (l m:List PPhase):jS (l++m)=jS l++jS m:=by
 induction l with
 | nil=>rfl
 | cons p l ih=>simp [jS,ih]
theorem aJi {α:Type}[Inhabited α] {l:List α}{j:Nat}(h:j<l.length):l.take (j+1)=l.take j++[at_ l j]:=by
 rw [ze h,eC h]
theorem zB {l:List PPhase}{j:Nat}(h:j<l.length):eF (l.take (j+1))=eF (l.take j)+(at_ l j).steps:=by
 rw [aJi h,aEj];simp [eF]
theorem aEk {l:List PPhase}(h:∀p∈l,0≤p.steps):0≤eF l:=by
 induction l with
 | nil=>exact Int.le_refl 0
 | cons p l ih=>have:=h p (by simp);have:=ih fun q hq=>h q (by simp [hq]);simp only [eF];omega
theorem tV {l:List PPhase}(h:∀j,j<l.length→0≤(at_ l j).steps) (i:Nat):0≤eF (l.take i)∧eF (l.take i)≤eF l:=by
 have hm:∀p∈l,0≤p.steps:=fun p hp=>by
  obtain⟨j,hj,rfl⟩:=ki hp;rw [←eC hj];exact h j hj
 have h1:=aEk fun p (hp:p∈l.take i)=>hm p (List.mem_of_mem_take hp);have h2:=aEk fun p (hp:p∈l.drop i)=>hm p (List.mem_of_mem_drop hp);have h3:=aEj (l.take i) (l.drop i);rw [List.take_append_drop]at h3;omega
theorem aLg {l:List PPhase}(h:∀j,j<l.length→0≤(at_ l j).steps):((jS l).length:Int)=eF l:=by
 induction l with
 | nil=>rfl
 | cons p l ih=>
  have h0:=h 0 (by simp);have:=ih fun j hj=>h (j+1) (by simpa using hj);simp only [jS,eF,qo,wg];have e:(at_ (p :: l) 0)=p:=rfl;rw [e]at h0;omega
theorem aYl {p:PPhase}(h:phE p=0):0≤p.steps∧gV p.r=0:=by
 unfold phE at h;split at h
 ·cases h
 ·exact⟨oq,h⟩
theorem aZx {l:List PPhase}(h:aAn l=0):l.length≤16∧(∀j,j<l.length→phE (at_ l j)=0)∧eF l≤2000:=by
 unfold aAn at h;split at h
 ·cases h
 ·split at h
  ·rename_i h1;exact absurd h h1
  ·rename_i h0 h1;split at h
   ·cases h
   ·exact⟨oq,cP (zd.1 h1),oq⟩
theorem aZh {s:PSec}{b:PBand}{l:List PPhase}(h:oB s b l=0):eG s b=0∧aAn l=0:=by
 unfold oB at h;split at h
 ·rename_i h1;exact absurd h h1
 ·rename_i h1;exact⟨zd.1 h1,h⟩
theorem OkB.advL {s:PSec}(hE:aF s=0):∀ {rs:List PRange}{b:PBand},(∀r∈rs,MagR r)→OkB s b→OkB s (advL s rs b)
 | [],_,_,h=>h
 | r :: rs,_,hr,h=>OkB.advL hE (rs:=rs) (fun q hq=>hr q (by simp [hq])) (h.adv hE (hr r (by simp)))
theorem wY {s:PSec}{rs:List PRange}{r:PRange}{b:PBand}:advL s (rs++[r]) b=dL s (advL s rs b) r:=by simp [_root_.Go.Proofs.YtpeakfmjibfkpaaGreat.advL]
def PhV (N:World→Array Value→Rat→Prop) (k:World) (a:Array Value) (p:PPhase):Prop:=∃c0 c1 c2 c3,a=((Value.int .i64 p.steps) :: (c0.toList++(c1.toList++(c2.toList++(c3.toList++[]))))).toArray∧RangeV N k c0 c1 c2 c3 p.r
theorem PhV.seg {N:World→Array Value→Rat→Prop}(hN:Num3 N) {k:World}{a:Array Value}{p:PPhase}(h:PhV N k a p):Seg 13 a:=by
 obtain⟨c0,c1,c2,c3,rfl,h⟩:=h;have s0:=hN.seg h.s0;have s1:=hN.seg h.s1;have s2:=hN.seg h.a0;have s3:=hN.seg h.a1;refine⟨by simp [s0.1,s1.1,s2.1,s3.1],fun u hu=>?_⟩;simp only [List.append_nil,List.mem_cons,List.mem_append]at hu;rcases hu with rfl|hu|hu|hu|hu
 ·exact⟨rfl,rfl⟩
 ·exact s0.2 u hu
 ·exact s1.2 u hu
 ·exact s2.2 u hu
 ·exact s3.2 u hu
theorem PhV.up {N:World→Array Value→Rat→Prop}(hN:Num3 N) {k k':World}{a:Array Value}{p:PPhase}(h:PhV N k a p) (u:Up k k'):PhV N k' a p:=by
 obtain⟨c0,c1,c2,c3,e,h⟩:=h;exact⟨c0,c1,c2,c3,e,RangeV.up hN h u⟩
section
variable {k k':World}{R:World→Value→Prop}{l:List PPhase}{s:PSec}{b:PBand}{K T n0 n1 n2 n3 n4 n5 n6 n7 n8 n9 d0 d1 d2 d3 d4 d5 d6 d7 d8 d9:Nat}{A0 A1 A2 A3 A4 A5 A6 A7 A8 A9:Option Addr}
theorem rF {N:World→Array Value→Rat→Prop}(hN:Num3 N) (h:Lst k A9 n9 13 (PhV N k) l) (u:Up k k'):Lst k' A9 n9 13 (PhV N k') l:=h.up u fun _ _ h=>PhV.up hN h u
theorem aZb (hl:Lst k A9 n9 13 (PhV (NP K) k) l) (hK1:1≤K) (hK:K≤300000000) (C:∀k',Up k k'→R k' (.int .i64 (aAn l))) :
 Cl k 126 #[.slice A9 n9 d9] R:=by
 intro k0 u0;have hN:=aE K;replace hl:=rF hN hl u0;replace C:=fun k' u=>C k' (u0.trans u);have hn:=hl.1;refine aVa ⟨rfl,fun h k1 u1=>?_,fun h=>⟨rfl,?_⟩⟩
 ·have:=C k1 u1;unfold aAn at this
  rwa [og (by have:=ow h;omega)]at this
 have h:=ov h;have h16:¬ 16<l.length:=oq
 refine⟨fun m k vs=>∃j:Nat,j+m=n9∧vs=[.int .i64 j]∧∀i,i<j→phE (at_ l i)=0,⟨n9,fun k1 u1=>⟨0,oq,rfl,fun i hi=>oq⟩⟩,?_⟩;rintro m k1 vs u1 ⟨j,hj,rfl,hz⟩;have hl1:=rF hN hl u1;refine⟨j,rfl,fun hlt=>?_,fun hge=>?_⟩
 ·have hlt:=aH hlt;obtain⟨a,_,⟨c0,c1,c2,c3,rfl,hr⟩,ha,hb,hrd,_⟩:=hl1.el (i:=j) oq oz;have stop:∀(e:Int),e≠0→phE (at_ l j)=e→∀k',Up k1 k'→R k' (.int .i64 e):=fun e he h k' u=>by
   have:=C k' (u1.trans u);unfold aAn at this;have hf:iA (fun i=>phE (at_ l i)) l.length=e:=eL hz h he oq
   rwa [oh h16,og (by rw [hf];exact he),hf]at this
  refine⟨ha,hb,_,c0,hr.s0.seg,c1,hr.s1.seg,c2,hr.a0.seg,c3,hr.a1.seg,hrd k1 (Up.refl _),fun hp k2 u2=>?_,fun hp=>?_⟩
  ·exact stop 1 oz (by unfold phE;rw [og (ow hp)]) k2 u2
  ·have hp:=ov hp;refine aBy hr hK1 hK fun k4 u4=>⟨_,rfl,fun f k5 u5=>?_,fun f k6 u6=>?_⟩
   ·exact stop _ (cE f) (by unfold phE;rw [oh hp]) k5 (u4.trans u5)
   ·exact⟨m-1,oq,j+1,oq,by rw [aC oq],bP hz (by unfold phE;rw [oh hp];exact bD f)⟩
 ·have hge:=aG hge;have hz':∀i,i<l.length→phE (at_ l i)=0:=fun i hi=>hz i oq;have hst:∀i,i<l.length→0≤(at_ l i).steps:=fun i hi=>(aYl (hz' i hi)).1;have hf:¬ iA (fun i=>phE (at_ l i)) l.length≠0:=by rw [dB hz'];simp
  replace C:=fun k' u=>C k' (u1.trans u);unfold aAn at C;rw [oh h16,oh hf]at C;refine⟨rfl,fun m k vs=>∃j:Nat,j+m=n9∧vs=[.int .i64 (2000-eF (l.take j)),.int .i64 j]∧eF (l.take j)≤2000,⟨n9,fun k7 u7=>⟨0,oq,rfl,by simp [eF]⟩⟩,?_⟩;rintro m' k7 vs u7 ⟨i,hi,rfl,hle⟩;refine⟨_,_,rfl,fun hlt=>?_,fun hge=>?_⟩
  ·have hlt:=aH hlt;obtain⟨a,_,⟨c0,c1,c2,c3,rfl,hr⟩,ha,hb,hrd,_⟩:=(rF hN hl1 u7).el (i:=i) oq oz;have hs:=zB (l:=l) (j:=i) oq;have h0:=hst i oq;have hall:=tV hst (i+1);have hall0:=tV hst i;refine⟨ha,hb,_,c0,hr.s0.seg,c1,hr.s1.seg,c2,hr.a0.seg,c3,hr.a1.seg,hrd k7 (Up.refl _),fun hp k8 u8=>?_,fun hp k9 u9=>?_⟩
   ·have hp:=ow hp;have:=C k8 (u7.trans u8)
    rwa [og oq]at this
   ·have hp:=ov hp;refine⟨m'-1,oq,i+1,oq,?_,oq⟩;rw [aC oq,show wrap .i64 (2000-eF (l.take i)-(at_ l i).steps)=2000-eF (l.take (i+1)) by rw [vr];omega]
  ·have hge:=aG hge;intro k10 u10;have:=C k10 (u7.trans u10);rw [zp oq]at hle
   rwa [oh oq]at this
theorem aId (hs:SecV (NP K) k A0 n0 A1 n1 A2 n2 s) (hl:StateV (NP T) k A3 n3 A4 n4 A5 n5 b.lo) (hh:StateV (NP T) k A6 n6 A7 n7 A8 n8 b.hi) (hp:Lst k A9 n9 13 (PhV (NP K) k) l) (hK1:1≤K) (hK:K≤1000000) (hT1:1≤T) (hT:T≤300000000)
 (C:∀k',Up k k'→R k' (.int .i64 (oB s b l))) :
 Cl k 84 #[.agg #[.slice A0 n0 d0,.slice A1 n1 d1,.slice A2 n2 d2],.agg #[.slice A3 n3 d3,.slice A4 n4 d4,.slice A5 n5 d5,.slice A6 n6 d6,.slice A7 n7 d7,.slice A8 n8 d8],.slice A9 n9 d9] R:=by
 intro k0 u0;have hN:=aE K;have hNT:=aE T;replace C:=fun k' u=>C k' (u0.trans u);unfold oB at C;refine aPf (aIc (SecV.up hN hs u0) (StateV.up hNT hl u0) (StateV.up hNT hh u0) hK1 hK hT1 hT fun k1 u1=>⟨_,rfl,fun f k2 u2=>?_,fun f=>?_⟩)
 ·have:=C k2 (u1.trans u2)
  rwa [og (cE f)]at this
 ·refine aZb (rF hN hp (u0.trans u1)) hK1 oq fun k4 u4=>⟨_,rfl,fun k5 u5=>?_⟩;have:=C k5 (u1.trans (u4.trans u5))
  rwa [oh (by rw [bD f];simp)]at this
end
theorem aWl {q:Rat}:q*((q.den:Int):Rat)=(q.num:Rat):=by
 have hd:((q.den:Int):Rat)≠0:=fun e=>by have:=q.den_pos;have:=Rat.intCast_eq_zero_iff.1 e;omega
 have:=wk (a:=(q.num:Rat)) hd
 rwa [←jZ,xl]at this
theorem pow40:(0:Rat)<(((2^40:Nat):Int):Rat):=by decide +kernel
theorem scaled {m:Int}{q:Rat}:(m:Rat)≤q*(((2^40:Nat):Int):Rat)↔m*(q.den:Int)≤q.num*((2^40:Nat):Int):=by
 have hd:(0:Rat)<((q.den:Int):Rat):=Rat.intCast_pos.2 (by have:=q.den_pos;omega);have e:q*(((2^40:Nat):Int):Rat)*((q.den:Int):Rat)=((q.num*((2^40:Nat):Int):Int):Rat):=by
  rw [show q*(((2^40:Nat):Int):Rat)*((q.den:Int):Rat)=q*((q.den:Int):Rat)*(((2^40:Nat):Int):Rat) by grind,aWl,uq]
 constructor
 ·intro h;have:=vu h (Rat.le_of_lt hd);rw [e,←uq]at this;exact ym.1 this
 ·intro h;have h2:((m*(q.den:Int):Int):Rat)≤((q.num*((2^40:Nat):Int):Int):Rat):=ym.2 h;rw [←e,uq]at h2
  by_cases c:(m:Rat)≤q*(((2^40:Nat):Int):Rat)
  ·exact c
  ·have:=Rat.mul_pos (show (0:Rat)<(m:Rat)-q*(((2^40:Nat):Int):Rat) by grind) hd
   grind
theorem mk40 {m:Int}{q:Rat}:mkRat m (2^40)≤q↔(m:Rat)≤q*(((2^40:Nat):Int):Rat):=by
 have hp:=pow40;have e:mkRat m (2^40)*(((2^40:Nat):Int):Rat)=(m:Rat):=by
  rw [jZ];exact wk (by decide +kernel)
 constructor
 ·intro h;have:=vu h (Rat.le_of_lt hp)
  rwa [e]at this
 ·intro h
  by_cases c:mkRat m (2^40)≤q
  ·exact c
  ·have:=Rat.mul_pos (show (0:Rat)<mkRat m (2^40)-q by grind) hp
   grind
theorem xU (q:Rat):jL q≤q:=by
 have hd:(0:Int)<q.den:=by have:=q.den_pos;omega
 exact mk40.2 (scaled.2 (Int.ediv_mul_le _ oq))
theorem aPh (q:Rat):q≤pA q:=by
 have:=xU (-q);show q≤-jL (-q)
 grind
theorem vV {l:List PRate}(h:bC l=0) {i:Nat}:∀ {j:Nat},i≤j→j<l.length→(at_ l i).v≤(at_ l j).v
 | 0,hij,_=>by obtain rfl:i=0:=oq
               exact xg
 | j+1,hij,hj=>by
  by_cases e:i=j+1
  ·subst e;exact xg
  ·refine ur (vV h (j:=j) oq oq) ?_;unfold bC at h;split at h
   ·cases h
   ·have:=cP h (j+1) hj;unfold dD at this;split at this
    ·cases this
    ·split at this
     ·cases this
     ·split at this
      ·cases this
      ·rename_i hn;have:=yy.1 fun hlt=>hn ⟨Nat.succ_pos j,hlt⟩
       rwa [xz]at this
theorem zF {t t':Rat}(h:t≤t'):∀l:List PRate,upto l t≤upto l t'
 | []=>oy _
 | r :: l=>by
  have ih:=zF h l;unfold upto at ih ⊢
  by_cases c:r.f≤t
  ·have c':=ur c h;rw [List.takeWhile_cons,List.takeWhile_cons,og (by simpa using c),og (by simpa using c')];simp only [vw];omega
  ·rw [List.takeWhile_cons,oh (by simpa using c)];exact jh _
theorem aEe {l:List PRate}(h:bC l=0) {t t':Rat}(ht:t≤t'):spd l t≤spd l t':=by
 have hu:=zF ht l;have h1:upto l t'≤l.length:=(List.takeWhile_sublist _).length_le
 by_cases c:upto l t=0
 ·have:=aAy h t';rw [show spd l t=0 from og c];exact this
 ·rw [show spd l t=_ from oh c,show spd l t'=_ from oh (show ¬ upto l t'=0 by omega)];exact vV h oq oq
theorem xV {tx ty:Rat}{X Y:PLink→Rat}:∀(ls:List PLink) (a b c:Rat),a+c*(tx-ty)≤b→(∀l∈ls,0≤l.v∧X l≤Y l)→
 ls.foldl (fun a l=>a+l.v*(X l-tx)) a+ls.foldl (fun c l=>c+l.v) c*(tx-ty)≤ls.foldl (fun b l=>b+l.v*(Y l-ty)) b
 | [],_,_,_,h,_=>h
 | l :: ls,a,b,c,h,hl=>by
  obtain⟨h0,h1⟩:=hl l (by simp);rw [vk,vk,vk];refine xV ls _ _ _ ?_ fun y hy=>hl y (by simp [hy]);have:=jn (show X l-ty≤Y l-ty by grind) h0
  grind
section
variable {s:PSec}{x y:PState}{u v u' v':Rat}{b b':PBand}{r r':PRange}
theorem aOd (h:aF s=0) (hT:∀j,j<s.cells.length→at_ x.temp j≤at_ y.temp j) (hu:u≤u') (hv:v≤v') {i:Nat}(hi:i<s.cells.length):fB s x u v i≤fB s y u' v' i:=by
 obtain⟨_,_,hc,hs,ha⟩:=eM h hi;have ht:=aRz h hi;have hne:(at_ s.cells i).cap≠0:=fun e=>by rw [e]at hc;exact absurd hc oz
 have dx:flow s x u v i/(at_ s.cells i).cap*(at_ s.cells i).cap=flow s x u v i:=wk hne;have dy:flow s y u' v' i/(at_ s.cells i).cap*(at_ s.cells i).cap=flow s y u' v' i:=wk hne;have hf:flow s x u v i+tot s.links i ((at_ s.cells i).steam+(at_ s.cells i).air)*(at_ x.temp i-at_ y.temp i)≤flow s y u' v' i:=by
  refine xV _ _ _ _ ?_ fun l hl=>⟨aCu h (iB hl).1,hT _ (vA h hi hl)⟩;have p:=jn (show u-at_ y.temp i≤u'-at_ y.temp i by grind) hs;have q:=jn (show v-at_ y.temp i≤v'-at_ y.temp i by grind) ha
  grind
 have h0:=hT i hi;have up:=vu ht (show 0≤at_ y.temp i-at_ x.temp i by grind);unfold fB
 by_cases c:at_ x.temp i+flow s x u v i/(at_ s.cells i).cap≤at_ y.temp i+flow s y u' v' i/(at_ s.cells i).cap
 ·exact c
 ·have hp:0<(at_ x.temp i-at_ y.temp i+flow s x u v i/(at_ s.cells i).cap-flow s y u' v' i/(at_ s.cells i).cap)*(at_ s.cells i).cap:=Rat.mul_pos (by grind) hc
  grind
theorem xM (h:aF s=0) {i:Nat}(hi:i<s.cells.length) (hT:at_ x.temp i≤at_ y.temp i) (hC:at_ x.cure i≤at_ y.cure i) (hS:at_ x.spoil i≤at_ y.spoil i):nG s x i≤nG s y i∧gW s x i≤gW s y i:=by
 obtain⟨h0,h1,_⟩:=eM h hi;have hm:=aRy h (i:=(at_ s.cells i).m.toNat) oq;have a:=aEe hm.1 hT;have b:=aEe hm.2 hT;unfold nG gW;constructor <;> grind
structure Und (n:Nat) (x y:PState):Prop where
 temp:∀i,i<n→at_ x.temp i≤at_ y.temp i
 cure:∀i,i<n→at_ x.cure i≤at_ y.cure i
 spoil:∀i,i<n→at_ x.spoil i≤at_ y.spoil i
theorem Und.refl {n:Nat}:Und n x x:=⟨fun _ _=>xg,fun _ _=>xg,fun _ _=>xg⟩
theorem Und.trans {n:Nat}{z:PState}(h:Und n x y) (h':Und n y z):Und n x z:=⟨fun i hi=>ur (h.temp i hi) (h'.temp i hi),fun i hi=>ur (h.cure i hi) (h'.cure i hi),fun i hi=>ur (h.spoil i hi) (h'.spoil i hi)⟩
theorem yZ (h:aF s=0) (hU:Und s.cells.length x y) (hu:u≤u') (hv:v≤v'):Und s.cells.length (bH s x u v) (bH s y u' v'):=by
 refine⟨fun i hi=>?_,fun i hi=>?_,fun i hi=>?_⟩
 ·rw [show at_ (bH s x u v).temp i=_ from aN hi,show at_ (bH s y u' v').temp i=_ from aN hi];exact aOd h hU.temp hu hv hi
 ·rw [show at_ (bH s x u v).cure i=_ from aN hi,show at_ (bH s y u' v').cure i=_ from aN hi];exact (xM h hi (hU.temp i hi) (hU.cure i hi) (hU.spoil i hi)).1
 ·rw [show at_ (bH s x u v).spoil i=_ from aN hi,show at_ (bH s y u' v').spoil i=_ from aN hi];exact (xM h hi (hU.temp i hi) (hU.cure i hi) (hU.spoil i hi)).2
theorem step_floor:Und s.cells.length (cM jL s x u v) (bH s x u v):=by
 refine⟨fun i hi=>?_,fun i hi=>?_,fun i hi=>?_⟩
 ·rw [show at_ (cM jL s x u v).temp i=_ from aN hi,show at_ (bH s x u v).temp i=_ from aN hi];exact xU _
 ·exact xg
 ·exact xg
theorem aOa:Und s.cells.length (bH s x u v) (cM pA s x u v):=by
 refine⟨fun i hi=>?_,fun i hi=>?_,fun i hi=>?_⟩
 ·rw [show at_ (bH s x u v).temp i=_ from aN hi,show at_ (cM pA s x u v).temp i=_ from aN hi];exact aPh _
 ·exact xg
 ·exact xg
def Enc (s:PSec) (b:PBand) (x:PState):Prop:=Und s.cells.length b.lo x∧Und s.cells.length x b.hi
def Bt (p q r:Rat):Prop:=p≤q∧q≤r
theorem aQf (h:aF s=0) (hE:Enc s b x) (hu:Bt r.s0 u r.s1) (hv:Bt r.a0 v r.a1):Enc s (dL s b r) (bH s x u v):=
 ⟨step_floor.trans (yZ h hE.1 hu.1 hv.1),(yZ h hE.2 hu.2 hv.2).trans aOa⟩
def Wit (s:PSec) (b b':PBand):Prop:=Und s.cells.length b'.lo b.lo∧Und s.cells.length b.hi b'.hi
end
section
variable {k k':World}{R:World→Value→Prop}{c0 c1 c2 c3:Array Value}{s:PSec}{b:PBand}{r:PRange}{K L T W d n0 n1 n2 d0 d1 d2 n3 n4 n5 d3 d4 d5 n6 d6 n7 d7 n8 d8:Nat}{A0 A1 A2 A3 A4 A5 A6 A7 A8:Option Addr}{most:Int}
end
theorem mP {y z:Int}(hy:In64 y) (hz:In64 z):Mag (ofQ y z):=by
 have key:∀q:Rat,q.num.natAbs≤2^63→Mag q:=fun q h=>by
  have hd:=q.den_pos;have h2:MM≤MM*(q.den:Int):=by unfold MM;omega
  refine⟨aQx.2 ?_,aQq.2 ?_⟩
  ·rw [Int.neg_mul];unfold MM at h2 ⊢;omega
  ·unfold MM at h2 ⊢;omega
 refine key _ ?_;unfold In64 at hy hz;unfold ofQ
 by_cases h:z=0
 ·rw [og h,wn];omega
 ·rw [oh h,←lU y z h,jY _ oq,qD];have h1:=zk y.natAbs (Nat.gcd y.natAbs z.natAbs);omega
section
variable {k:World}{R:World→Value→Prop}{s:PSec}{x:PBand}{n0 n1 n2 d0 d1 d2 n3 n4 n5 d3 d4 d5 n6 d6 n7 d7 n8 d8:Nat}{A0 A1 A2 A3 A4 A5 A6 A7 A8:Option Addr}{i0 i1 i2 i3 i4 i5 i6 i7 most:Int}
end
theorem aTq {x y:Rat}:decide (((x-y).num.sign:Int) > 0)=decide (y<x):=by
 have h:(((x-y).num.sign:Int) > 0)↔0<x-y:=decide_eq_decide.1 wE;exact decide_eq_decide.2 (h.trans ⟨fun h=>by grind,fun h=>by grind⟩)
def aLz (x y:Rat) (n:Int):Rat:=x+(y-x)*((n:Rat) / ((255:Int):Rat))
theorem aRj {x y:Rat}{n:Int}(h:x≤y) (h0:0≤n) (h1:n≤255):x≤aLz x y n∧aLz x y n≤y:=by
 have e:(n:Rat) / ((255:Int):Rat)*((255:Int):Rat)=(n:Rat):=wk (by decide +kernel);have n0:(0:Rat)≤(n:Rat):=Rat.intCast_nonneg.2 h0;have n1:(n:Rat)≤((255:Int):Rat):=ym.2 h1;have hp:(0:Rat)<((255:Int):Rat):=by decide +kernel
 have q0:0≤(n:Rat) / ((255:Int):Rat):=by
  by_cases c:0≤(n:Rat) / ((255:Int):Rat)
  ·exact c
  ·have:=Rat.mul_pos (show (0:Rat) < -((n:Rat) / ((255:Int):Rat)) by grind) hp
   grind
 have q1:(n:Rat) / ((255:Int):Rat)≤1:=by
  by_cases c:(n:Rat) / ((255:Int):Rat)≤1
  ·exact c
  ·have:=Rat.mul_pos (show (0:Rat)<(n:Rat) / ((255:Int):Rat)-1 by grind) hp
   grind
 have a:=jn q0 (show 0≤y-x by grind);have b:=jn q1 (show 0≤y-x by grind);unfold aLz;constructor <;> grind
section
variable {s:PSec}{x y:PState}
theorem aLc (hU:Und s.cells.length x y) (h:fD s x):fD s y:=fun i hi hc=>h i hi (by have:=hU.cure i hi;grind)
end
section
variable {k k':World}{R:World→Value→Prop}{c0 c1 c2 c3:Array Value}{s:PSec}{x:PState}{b:PBand}{K T n0 n1 n2 d0 d1 d2 n3 n4 n5 d3 d4 d5 n6 d6 n7 d7 n8 d8 n9 d9:Nat}{A0 A1 A2 A3 A4 A5 A6 A7 A8 A9:Option Addr}{u v:Rat}{n i0 i1 i2 i3 i4 i5 i6 i7 j0 j1 j2 j3 most:Int}
theorem aCw (hu:RatV k c0 u K) (hv:RatV k c1 v K) (hK1:1≤K) (hK:K≤1000000) (h0:0≤n) (h1:n≤255) (C:∀k' ds,Up k k'→RatV k' ds (aLz u v n) (8*K+7)→R k' (.agg ds)) :
 Cl k 44 #[.agg (c0.toList++(c1.toList++([]))).toArray,.int .u8 n] R:=by
 intro k0 u0;have e:wrap .i64 n=n:=by rw [vr];omega
 refine aLr hu.seg hv.seg ?_;rw [e];refine aOo oq oq oz oz fun k1 a1 u1 w1=>⟨a1,w1.seg,_,rfl,?_⟩;have v1:=u0.trans u1;refine aOp (hv.up v1) (hu.up v1) hK1 oq fun k3 a3 u3 w3=>⟨a3,w3.seg,rfl,?_⟩;refine aOm (K:=2*K+1) w3 ((w1.up u3).mono oq) oq oq fun k5 a5 u5 w5=>⟨a5,w5.seg,rfl,?_⟩;refine aOl (K:=4*K+3) ((hu.up (v1.trans (u3.trans u5))).mono oq) (w5.mono oq) oq oq fun k7 a7 u7 w7=>⟨a7,w7.seg,rfl,fun k8 u8=>?_⟩;exact C k8 a7 (v1.trans (u3.trans (u5.trans (u7.trans u8)))) ((w7.up u8).mono oq)
theorem aBd (h3:n3=n1) (h4:n4=n1) (h5:n5=n1) (C:∀k',Up k k'→R k' (.bool true)) :
 Cl k 42 #[S3 A0 n0 d0 A1 n1 d1 A2 n2 d2,S3 A3 n3 d3 A4 n4 d4 A5 n5 d5] R:=by
 intro k0 u0;subst h3 h4 h5;have e:(((n5:Nat):Int) == ((n5:Nat):Int))=true:=by simp
 exact aLx ⟨rfl,rfl,fun _=>⟨rfl,fun _=>⟨rfl,fun k1 u1=>by rw [e];exact C k1 (u0.trans u1)⟩,fun h=>by rw [e]at h;cases h⟩,fun h=>by rw [e]at h;cases h⟩
theorem tN (h3:n3=n1) (h4:n4=n1) (h5:n5=n1) (h6:n6=n1) (h7:n7=n1) (h8:n8=n1) (C:∀k',Up k k'→R k' (.bool true)) :
 Cl k 43 #[S3 A0 n0 d0 A1 n1 d1 A2 n2 d2,S6 A3 n3 d3 A4 n4 d4 A5 n5 d5 A6 n6 d6 A7 n7 d7 A8 n8 d8] R:=by
 intro k0 u0;refine aRg (aBd h3 h4 h5 fun k1 u1=>⟨_,rfl,fun _=>aBd h6 h7 h8 fun k3 u3=>⟨_,rfl,fun k4 u4=>C k4 ((u0.trans u1).trans (u3.trans u4))⟩,fun h=>absurd h oz⟩)
theorem aAf (hs:SecV (NP K) k A0 n0 A1 n1 A2 n2 s) (hx:StateV (NP T) k A3 n3 A4 n4 A5 n5 x) (hE:aF s=0) (hz:sized s x) (hK1:1≤K) (hT1:1≤T) (hK:K≤100000000) (hT:T≤100000000) (C:∀k',Up k k'→R k' (.bool (decide (fD s x)))) :
 Cl k 48 #[S3 A0 n0 d0 A1 n1 d1 A2 n2 d2,S3 A3 n3 d3 A4 n4 d4 A5 n5 d5] R:=by
 intro k0 u0;have hN:=aE K;have hNT:=aE T;replace hs:=SecV.up hN hs u0;replace hx:=StateV.up hNT hx u0;replace C:=fun k' u=>C k' (u0.trans u);have en:=hs.cells.1;have ec:=hx.cure.1;have ez:=hz.2.1;have hsz:s.cells.length≤24:=by have:=aQ hE;unfold aY at this;omega
 refine aQw ⟨rfl,fun m k vs=>∃j:Nat,j+m=n1∧vs=[.int .i64 j]∧∀i,i<j→¬ at_ x.cure i<xQ s i,⟨n1,fun k1 u1=>⟨0,oq,rfl,fun i hi=>oq⟩⟩,?_⟩;rintro m k1 vs u1 ⟨j,hj,rfl,hno⟩;refine⟨_,rfl,fun hlt=>?_,fun hge k5 u5=>?_⟩
 ·have hlt:=aH hlt;have hjn:j<s.cells.length:=oq
  obtain⟨a,_,⟨c0,c1,c2,rfl,q0,q1,q2⟩,ha,hb,hr,_⟩:=(SecV.up hN hs u1).cells.el hjn oz;obtain⟨t,_,ht,ta,tb,tr,_⟩:=(StateV.up hNT hx u1).cure.el (i:=j) oq oz;obtain⟨hm0,hm1,_⟩:=eM hE hjn;have hmi:(at_ s.cells j).m=(((at_ s.cells j).m.toNat:Nat):Int):=oq
  obtain⟨a',_,⟨D,p1,r1,F,p2,r2,c4,c5,rfl,l0,l1,s0,s1⟩,ha',hb',_,hr'⟩:=(SecV.up hN hs u1).mats.el (i:=(at_ s.cells j).m.toNat) oq oz;rw [←hmi]at hb' hr'
  refine⟨ha,hb,_,c0,q0.seg,c1,q1.seg,c2,q2.seg,hr k1 (Up.refl _),ta,tb,t,ht.seg,tr k1 (Up.refl _),ha',hb',ha',hb',c4,s0.seg,hr' k1 c4 2 3 (Up.refl _) s0.seg.1 (fun q u h=>by
   rw [jf,xq 2 q,jc,jc,←jf]
   exact fS h),?_⟩
  refine zH (K:=T+K) (ht.mono oq) (s0.mono oq) oq oq fun k3 u3=>⟨_,rfl,fun f k4 u4=>?_,fun f k4 u4=>?_⟩
  ·rw [kG]at f;have:=C k4 (u1.trans (u3.trans u4))
   rwa [decide_eq_false fun h:fD s x=>h j hjn (ow f)]at this
  ·rw [kG]at f;exact⟨m-1,oq,j+1,oq,by rw [aC oq],bP hno (ov f)⟩
 ·have hge:=aG hge;have:=C k5 (u1.trans u5)
  rwa [decide_eq_true (show fD s x from fun i hi=>hno i oq)]at this
theorem aLv (hs:SecV (NP K) k A0 n0 A1 n1 A2 n2 s) (hx:StateV (NP T) k A3 n3 A4 n4 A5 n5 x) (hE:aF s=0) (hz:sized s x) (hK1:1≤K) (hT1:1≤T) (hK:K≤100000000) (hT:T≤100000000) (C:∀k',Up k k'→R k' (.bool (decide (aR s x)))) :
 Cl k 49 #[S3 A0 n0 d0 A1 n1 d1 A2 n2 d2,S3 A3 n3 d3 A4 n4 d4 A5 n5 d5] R:=by
 intro k0 u0;have hN:=aE K;have hNT:=aE T;replace hs:=SecV.up hN hs u0;replace hx:=StateV.up hNT hx u0;replace C:=fun k' u=>C k' (u0.trans u);have en:=hs.cells.1;have ec:=hx.spoil.1;have ez:=hz.2.2;have hsz:s.cells.length≤24:=by have:=aQ hE;unfold aY at this;omega
 refine aGd ⟨rfl,fun m k vs=>∃j:Nat,j+m=n1∧vs=[.int .i64 j]∧∀i,i<j→¬ oC s i<at_ x.spoil i,⟨n1,fun k1 u1=>⟨0,oq,rfl,fun i hi=>oq⟩⟩,?_⟩;rintro m k1 vs u1 ⟨j,hj,rfl,hno⟩;refine⟨_,rfl,fun hlt=>?_,fun hge k5 u5=>?_⟩
 ·have hlt:=aH hlt;have hjn:j<s.cells.length:=oq
  obtain⟨a,_,⟨c0,c1,c2,rfl,q0,q1,q2⟩,ha,hb,hr,_⟩:=(SecV.up hN hs u1).cells.el hjn oz;obtain⟨t,_,ht,ta,tb,tr,_⟩:=(StateV.up hNT hx u1).spoil.el (i:=j) oq oz;obtain⟨hm0,hm1,_⟩:=eM hE hjn;have hmi:(at_ s.cells j).m=(((at_ s.cells j).m.toNat:Nat):Int):=oq
  obtain⟨a',_,⟨D,p1,r1,F,p2,r2,c4,c5,rfl,l0,l1,s0,s1⟩,ha',hb',_,hr'⟩:=(SecV.up hN hs u1).mats.el (i:=(at_ s.cells j).m.toNat) oq oz;rw [←hmi]at hb' hr'
  refine⟨ha,hb,_,c0,q0.seg,c1,q1.seg,c2,q2.seg,hr k1 (Up.refl _),ta,tb,t,ht.seg,tr k1 (Up.refl _),ha',hb',ha',hb',c5,s1.seg,hr' k1 c5 5 3 (Up.refl _) s1.seg.1 (fun q u h=>by
   rw [jf,show 5+q=3+q+1+1 by omega,jc,jc,←jf]
   exact nD s0.seg.1 (fS h)),?_⟩
  refine zH (K:=T+K) (ht.mono oq) (s1.mono oq) oq oq fun k3 u3=>⟨_,rfl,fun f k4 u4=>?_,fun f k4 u4=>?_⟩
  ·rw [aTq]at f;have:=C k4 (u1.trans (u3.trans u4))
   rwa [decide_eq_true (show aR s x from fun h=>h j hjn (ow f))]at this
  ·rw [aTq]at f;exact⟨m-1,oq,j+1,oq,by rw [aC oq],bP hno (ov f)⟩
 ·have hge:=aG hge;have:=C k5 (u1.trans u5)
  rwa [decide_eq_false fun h:aR s x=>h fun i hi=>hno i oq]at this
def U8A (a:Array Value) (v:Int):Prop:=0≤v∧v≤255∧a=#[.int .u8 v]
theorem aGe {most d:Nat}(hs:SecA k A0 n0 A1 n1 A2 n2 s) (g0:In64 j0) (g1:In64 j1) (g2:In64 j2) (g3:In64 j3) (h0:In64 i0) (h1:In64 i1) (h2:In64 i2) (h3:In64 i3) (h4:In64 i4) (h5:In64 i5) (h6:In64 i6) (h7:In64 i7) (hm:most≤d+1) (hd5:d≤5)
 (C:∀k' B0 m0 e0 B1 m1 e1 B2 m2 e2 B3 m3 e3 B4 m4 e4 B5 m5 e5 B6 m6 e6 B7 m7 e7 B8 m8 e8 c0 c1 c2 c3 (f:Bool),Up k k'→Seg 3 c0→Seg 3 c1→Seg 3 c2→Seg 3 c3→(f=true→FewP s most∧gR s (eP s (ofQ j0 j1) (ofQ j2 j3)) ⟨ofQ i0 i1,ofQ i2 i3,ofQ i4 i5,ofQ i6 i7⟩=0∧¬ ofQ j2 j3<ofQ j0 j1∧SecV (NP 1) k' B0 m0 B1 m1 B2 m2 s∧
   StateV (NP 1) k' B3 m3 B4 m4 B5 m5 (eP s (ofQ j0 j1) (ofQ j2 j3)).lo∧StateV (NP 1) k' B6 m6 B7 m7 B8 m8 (eP s (ofQ j0 j1) (ofQ j2 j3)).hi∧RangeV (NP 1) k' c0 c1 c2 c3 ⟨ofQ i0 i1,ofQ i2 i3,ofQ i4 i5,ofQ i6 i7⟩)→
   R k' (.tuple #[S3 B0 m0 e0 B1 m1 e1 B2 m2 e2,S6 B3 m3 e3 B4 m4 e4 B5 m5 e5 B6 m6 e6 B7 m7 e7 B8 m8 e8,Rg c0 c1 c2 c3,.bool f])) :
 Cl k 39 #[S3 A0 n0 d0 A1 n1 d1 A2 n2 d2,.agg #[.int .i64 j0,.int .i64 j1],.agg #[.int .i64 j2,.int .i64 j3],.agg #[.int .i64 i0,.int .i64 i1,.int .i64 i2,.int .i64 i3,.int .i64 i4,.int .i64 i5,.int .i64 i6,.int .i64 i7],.int .i64 (most:Nat)] R:=by
 intro k0 u0;replace hs:=hs.up u0;replace C:=fun k' B0 m0 e0 B1 m1 e1 B2 m2 e2 B3 m3 e3 B4 m4 e4 B5 m5 e5 B6 m6 e6 B7 m7 e7 B8 m8 e8 c0 c1 c2 c3 f u=>C k' B0 m0 e0 B1 m1 e1 B2 m2 e2 B3 m3 e3 B4 m4 e4 B5 m5 e5 B6 m6 e6 B7 m7 e7 B8 m8 e8 c0 c1 c2 c3 f (u0.trans u);have P1:=aE 1;have R2:=cL 2;have zseg:Seg 3 #[Value.bool false,.slice none 0 0,.slice none 0 0]:=⟨rfl,by simp [Value.scalar,Value.noWord]⟩;have bad:∀k1,Up k0 k1→R k1 (.tuple #[S3 none 0 0 none 0 0 none 0 0,S6 none 0 0 none 0 0 none 0 0 none 0 0 none 0 0 none 0 0,.agg #[.bool false,.slice none 0 0,.slice none 0 0,.bool false,.slice none 0 0,.slice none 0 0,.bool false,.slice none 0 0,.slice none 0 0,.bool false,.slice none 0 0,.slice none 0 0],.bool false]):=fun k1 u1=>
  C k1 none 0 0 none 0 0 none 0 0 none 0 0 none 0 0 none 0 0 none 0 0 none 0 0 none 0 0 #[.bool false,.slice none 0 0,.slice none 0 0] #[.bool false,.slice none 0 0,.slice none 0 0] #[.bool false,.slice none 0 0,.slice none 0 0] #[.bool false,.slice none 0 0,.slice none 0 0] false u1 zseg zseg zseg zseg (by intro h;cases h)
 refine aCz (bBo (most:=most) hs oq fun k1 b1 u1 hb1=>⟨_,rfl,fun _ k2 u2=>bad k2 (u1.trans u2),fun f1=>?_⟩);have hf:=hb1 (nP f1);have hd:aF s=0→∀i,i<s.cells.length→(nbm s.links (i:Nat)).length≤d:=fun hE i hi=>by have:=aIq hE hi;have:=hf.cells;omega
 refine aWa (hs.up u1) hf oq fun k4 B0 m0 e0 B1 m1 e1 B2 m2 e2 D0 p0 q0 D1 p1 q1 D2 p2 q2 u4 hp hr=>⟨_,_,_,_,_,_,_,_,_,_,_,_,_,_,_,_,_,_,rfl,?_⟩;refine aLt h0 h1 h2 h3 h4 h5 h6 h7 fun k6 c0 c1 c2 c3 o0 o1 o2 o3 u6 pr rr=>⟨_,pr.s0.seg,_,pr.s1.seg,_,pr.a0.seg,_,pr.a1.seg,_,rr.s0.seg,_,rr.s1.seg,_,rr.a0.seg,_,rr.a1.seg,rfl,?_⟩;have v6:=u1.trans (u4.trans u6);refine pT g0 g1 fun k8 x8 u8 w8=>⟨x8,w8.seg,rfl,?_⟩;refine pT g2 g3 fun k10 x10 u10 w10=>⟨x10,w10.seg,rfl,?_⟩;have v10:=u8.trans u10;refine aTb (K:=2) (SecV.up R2 hr (u6.trans v10)) (w8.up u10) w10 oz oz fun k12 F0 r0 l0 F1 r1 l1 F2 r2 l2 F3 r3 l3 F4 r4 l4 F5 r5 l5 u12 bl' bh'=>⟨_,_,_,_,_,_,_,_,_,_,_,_,_,_,_,_,_,_,_,rfl,fun f k13 u13=>bad k13 ((v6.trans v10).trans (u12.trans u13)),fun f=>?_⟩;have hB:dE s (ofQ j0 j1) (ofQ j2 j3)=0:=bD f;have hlh:¬ ofQ j2 j3<ofQ j0 j1:=fun c=>by
  unfold dE at hB
  by_cases hv:aF s=0
  ·rw [oh (by simp [hv]),if_pos c]at hB;cases hB
  ·rw [og hv]at hB;exact hv hB
 have eB:jN (dE s (ofQ j0 j1) (ofQ j2 j3)) (eP s (ofQ j0 j1) (ofQ j2 j3))=eP s (ofQ j0 j1) (ofQ j2 j3):=by unfold jN;rw [oh (by rw [hB];simp)]
 rw [eB]at bl' bh';have v12:=v10.trans u12;refine aTc (K:=2) (T:=2) (d:=d) (SecV.up R2 hr (u6.trans v12)) bl' bh' (RangeV.up R2 rr v12) hd oz oz oz (by unfold aJ;omega) fun k15 H0 s0 y0 H1 s1 y1 H2 s2 y2 H3 s3 y3 H4 s4 y4 H5 s5 y5 u15 _ _=>⟨_,_,_,_,_,_,_,_,_,_,_,_,_,_,_,_,_,_,_,rfl,?_⟩;refine oS g0 g1 fun k17 x17 u17 w17=>⟨x17,w17.seg,rfl,?_⟩;refine oS g2 g3 fun k19 x19 u19 w19=>⟨x19,w19.seg,rfl,?_⟩;have v19:=v12.trans (u15.trans (u17.trans u19));refine aPb (K:=1) (SecV.up P1 hp (u6.trans v19)) (w17.up u19) w19 oz oz fun k21 E0 q0 h0 E1 q1 h1 E2 q2 h2 E3 q3 h3 E4 q4 h4 E5 q5 h5 u21 bl bh=>⟨_,_,_,_,_,_,_,_,_,_,_,_,_,_,_,_,_,_,_,rfl,fun k22 u22=>?_⟩;rw [eB]at bl bh;have v22:=v19.trans (u21.trans u22);have p':=RangeV.up P1 pr v22;refine C k22 _ _ _ _ _ _ _ _ _ _ _ _ _ _ _ _ _ _ _ _ _ _ _ _ _ _ _ c0 c1 c2 c3 _ (v6.trans v22) p'.s0.seg p'.s1.seg p'.a0.seg p'.a1.seg fun e=>⟨hf,?_,hlh,SecV.up P1 hp (u6.trans v22),StateV.up P1 bl u22,StateV.up P1 bh u22,p'⟩;exact eT e
end
