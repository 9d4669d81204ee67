/- Several texts in one. (Printed by prep.py.) -/
import Derived.Test.YtpeakfmjibfkpaaGreatShCU
import Derived.Test.YtpeakfmjibfkpaaGreatShDL
import Derived.Test.YtpeakfmjibfkpaaGreatShCZ2
import Derived.Test.YtpeakfmjibfkpaaGreatShVS
import Derived.Test.YtpeakfmjibfkpaaGreatShVSI
namespace Go.Proofs.YtpeakfmjibfkpaaGreat
section
variable {s:PSec}{x:PState}{u v:Rat}
theorem sT {B t:Rat}{T:PLink→Rat}:∀(ls:List PLink) (a c:Rat),a≤c*(B-t)→(∀l∈ls,0≤l.v∧T l≤B)→ls.foldl (fun a l=>a+l.v*(T l-t)) a≤ls.foldl (fun c l=>c+l.v) c*(B-t)
 | [],a,c,h,_=>h
 | l :: ls,a,c,h,hl=>by
  obtain⟨h0,h1⟩:=hl l (by simp);rw [List.foldl_cons,List.foldl_cons];refine sT ls _ _ ?_ fun y hy=>hl y (by simp [hy]);have:=Rat.mul_le_mul_of_nonneg_left (show T l-t≤B-t by grind) h0
  grind
theorem sS {B t:Rat}{T:PLink→Rat}:∀(ls:List PLink) (a c:Rat),c*(B-t)≤a→(∀l∈ls,0≤l.v∧B≤T l)→ls.foldl (fun c l=>c+l.v) c*(B-t)≤ls.foldl (fun a l=>a+l.v*(T l-t)) a
 | [],a,c,h,_=>h
 | l :: ls,a,c,h,hl=>by
  obtain⟨h0,h1⟩:=hl l (by simp);rw [List.foldl_cons,List.foldl_cons];refine sS ls _ _ ?_ fun y hy=>hl y (by simp [hy]);have:=Rat.mul_le_mul_of_nonneg_left (show B-t≤T l-t by grind) h0
  grind
theorem aVw (h:aI s=0) {i:Nat}(hi:i<s.cells.length):tot s.links i ((at_ s.cells i).steam+(at_ s.cells i).air)≤(at_ s.cells i).cap:=by
 have:=eC (aSw h) i hi;unfold lB at this;split at this
 ·cases this
 ·rename_i hn;exact Rat.not_lt.1 hn
theorem aNf (h:aI s=0) {z:PLink}(hz:z∈s.links):0≤z.v:=by
 obtain⟨j,hj,e⟩:=List.getElem_of_mem hz;rw [←e,←eO hj];exact (aFu h hj).2.2.2
theorem aDa (h:aI s=0) {i:Nat}(_hi:i<s.cells.length) {z:PLink}(hz:z∈nbm s.links i):(z.a+z.b-(i:Int)).toNat<s.cells.length:=by
 obtain⟨h1,h2⟩:=iR hz;have:=eD (dD h) z h1;omega
structure Btw (s:PSec) (x:PState) (u v:Rat) (lo hi:Rat):Prop where
 temp:∀j,j<s.cells.length→lo≤at_ x.temp j∧at_ x.temp j≤hi
 steam:∀j,j<s.cells.length→(at_ s.cells j).steam≠0→lo≤u∧u≤hi
 air:∀j,j<s.cells.length→(at_ s.cells j).air≠0→lo≤v∧v≤hi
theorem tN {w T B t:Rat}(hw:0≤w) (h:w≠0→T≤B):w*(T-t)≤w*(B-t):=by
 by_cases c:w=0
 ·rw [c];grind
 ·exact Rat.mul_le_mul_of_nonneg_left (by have:=h c;grind) hw
theorem tM {w T B t:Rat}(hw:0≤w) (h:w≠0→B≤T):w*(B-t)≤w*(T-t):=by
 by_cases c:w=0
 ·rw [c];grind
 ·exact Rat.mul_le_mul_of_nonneg_left (by have:=h c;grind) hw
theorem yI {lo hi:Rat}(h:aI s=0) (hb:Btw s x u v lo hi) {i:Nat}(hi':i<s.cells.length):lo≤gC s x u v i∧gC s x u v i≤hi:=by
 obtain⟨_,_,hc,hs,ha⟩:=eG h hi';have ht:=aVw h hi';obtain⟨b0,b1⟩:=hb.temp i hi';have hne:(at_ s.cells i).cap≠0:=fun e=>by rw [e]at hc;exact absurd hc (by decide)
 have hd:flow s x u v i/(at_ s.cells i).cap*(at_ s.cells i).cap=flow s x u v i:=Rat.div_mul_cancel hne;have nb:∀l∈nbm s.links (i:Int),0≤l.v∧(lo≤at_ x.temp (l.a+l.b-(i:Int)).toNat∧at_ x.temp (l.a+l.b-(i:Int)).toNat≤hi):=fun l hl=>⟨aNf h (iR hl).1,hb.temp _ (aDa h hi' hl)⟩;have up:flow s x u v i≤tot s.links i ((at_ s.cells i).steam+(at_ s.cells i).air)*(hi-at_ x.temp i):=by
  refine sT _ _ _ ?_ fun l hl=>⟨(nb l hl).1,(nb l hl).2.2⟩;have p:=tN (T:=u) (B:=hi) (t:=at_ x.temp i) hs fun e=>(hb.steam i hi' e).2;have q:=tN (T:=v) (B:=hi) (t:=at_ x.temp i) ha fun e=>(hb.air i hi' e).2
  grind
 have dn:tot s.links i ((at_ s.cells i).steam+(at_ s.cells i).air)*(lo-at_ x.temp i)≤flow s x u v i:=by
  refine sS _ _ _ ?_ fun l hl=>⟨(nb l hl).1,(nb l hl).2.1⟩;have p:=tM (T:=u) (B:=lo) (t:=at_ x.temp i) hs fun e=>(hb.steam i hi' e).1;have q:=tM (T:=v) (B:=lo) (t:=at_ x.temp i) ha fun e=>(hb.air i hi' e).1
  grind
 have up2:=Rat.mul_le_mul_of_nonneg_right ht (show 0≤hi-at_ x.temp i by grind);have dn2:=Rat.mul_le_mul_of_nonneg_right ht (show 0≤at_ x.temp i-lo by grind);unfold gC;constructor
 ·by_cases c:lo≤at_ x.temp i+flow s x u v i/(at_ s.cells i).cap
  ·exact c
  ·have hp:0<((lo-at_ x.temp i)-flow s x u v i/(at_ s.cells i).cap)*(at_ s.cells i).cap:=Rat.mul_pos (by grind) hc
   grind
 ·by_cases c:at_ x.temp i+flow s x u v i/(at_ s.cells i).cap≤hi
  ·exact c
  ·have hp:0<(flow s x u v i/(at_ s.cells i).cap-(hi-at_ x.temp i))*(at_ s.cells i).cap:=Rat.mul_pos (by grind) hc
   grind
end
end Go.Proofs.YtpeakfmjibfkpaaGreat

namespace Go.Proofs.YtpeakfmjibfkpaaGreat
open Go.RowKit Num W32
open Sy (Up Sees CallsG Seg)
def MM:Int:=9223372036854775808
def Mag (q:Rat):Prop:=((-MM:Int):Rat)≤q∧q≤((MM:Int):Rat)
def Sm (q:Rat):Prop:=∃a:Int,q=mkRat a (2^40)∧-(MM*2^40)≤a∧a≤MM*2^40
theorem aNa {q:Rat}{m:Int}:(m:Rat)≤q↔m*q.den≤q.num:=by
 rw [Rat.le_iff];simp
theorem aMt {q:Rat}{m:Int}:q≤(m:Rat)↔q.num≤m*q.den:=by
 rw [Rat.le_iff];simp
theorem Mag.neg {q:Rat}(h:Mag q):Mag (-q):=by
 obtain⟨h1,h2⟩:=h;constructor
 ·have:=Rat.neg_le_neg h2
  rwa [←Rat.intCast_neg]at this
 ·have:=Rat.neg_le_neg h1
  rwa [←Rat.intCast_neg,Int.neg_neg]at this
theorem Sm.neg {q:Rat}(h:Sm q):Sm (-q):=by
 obtain⟨a,rfl,h1,h2⟩:=h;exact⟨-a,(nB _ _).symm,by omega,by omega⟩
theorem Sm.mag {q:Rat}(h:Sm q):Mag q:=by
 obtain⟨a,rfl,h1,h2⟩:=h;have e:∀m:Int,(m:Rat)=mkRat (m*2^40) (2^40):=fun m=>by
  rw [oE];have:(((2^40:Nat):Int):Rat)≠0:=by decide +kernel
  rw [show ((m*2^40:Int):Rat)=(m:Rat)*(((2^40:Nat):Int):Rat) from Rat.intCast_mul m ((2^40:Nat):Int)];exact (Rat.mul_div_cancel this).symm
 have le:∀x y:Int,x≤y→mkRat x (2^40)≤mkRat y (2^40):=fun x y h=>by
  rw [oE,oE,Rat.div_def,Rat.div_def];exact Rat.mul_le_mul_of_nonneg_right (Rat.intCast_le_intCast.2 h) (by decide +kernel)
 exact⟨by rw [e];exact le _ _ (by rw [Int.neg_mul];exact h1),by rw [e];exact le _ _ h2⟩
theorem zX {q:Rat}(h:Mag q):Sm (pL q):=by
 obtain⟨h1,h2⟩:=h;rw [aNa]at h1;rw [aMt]at h2;have hd:(0:Int)<q.den:=by have:=q.den_pos;omega
 refine⟨q.num*((2^40:Nat):Int) / (q.den:Int),rfl,?_,?_⟩
 ·rw [Int.le_ediv_iff_mul_le hd];have:=Int.mul_le_mul_of_nonneg_right h1 (show (0:Int)≤2^40 by decide);rw [show -(MM*2^40)*(q.den:Int)=-MM*q.den*2^40 by rw [←Int.neg_mul,Int.mul_right_comm]];exact this
 ·refine Int.ediv_le_of_le_mul hd ?_;have:=Int.mul_le_mul_of_nonneg_right h2 (show (0:Int)≤2^40 by decide);rw [show MM*2^40*(q.den:Int)=MM*q.den*2^40 by rw [Int.mul_right_comm]];exact this
theorem aQw {q:Rat}(h:Mag q):Sm (uX q):=(zX h.neg).neg
theorem Sm.wd {q:Rat}(h:Sm q):Wd q 2:=by
 obtain⟨a,e,h1,h2⟩:=h;refine⟨a,2^40,by decide,e,?_,by decide⟩;unfold MM at h1 h2;have:B64^2=340282366920938463463374607431768211456:=by decide
 rw [this];omega
theorem QV.cut {k:World}{cs:Array Value}{q:Rat}{K L:Nat}(h:QV k cs q K) (h1:q.num.natAbs<W32.B^L) (h2:q.den<W32.B^L):QV k cs q L:=by
 obtain⟨b,A,l,c,A',l',c',e,hq,_,_⟩:=h;exact⟨b,A,l,c,A',l',c',e,hq,by rw [hq.n.2];exact W32.nw_le_of h1,by rw [hq.d.2];exact W32.nw_le_of h2⟩
theorem Sm.cut {k:World}{cs:Array Value}{q:Rat}{K:Nat}(h:QV k cs q K) (hs:Sm q):QV k cs q 4:=by
 obtain⟨h1,h2⟩:=hs.wd.low;have e:B64^2=W32.B^4:=by decide
 rw [e]at h1 h2;exact QV.cut h h1 h2
theorem Lst.monoI {α:Type}[Inhabited α] {k:World}{A:Option Addr}{n s:Nat}{P Q:Array Value→α→Prop}{l:List α}(h:Lst k A n s P l) (hP:∀i a,i<l.length→P a (at_ l i)→Q a (at_ l i)):Lst k A n s Q l:=by
 obtain⟨e,xs,h1,h2,h3⟩:=h;exact⟨e,xs,h1,h2,Arr.mono h3 fun i a hi h=>hP i a (by omega) h⟩
theorem StateW.tightP {k:World}{A B C:Option Addr}{n n' n'' W T:Nat}{x:PState}(h:StateW (NP W) (NP T) k A n B n' C n'' x) (hs:∀i,i<x.temp.length→Sm (at_ x.temp i)) (hT:2≤T):StateV (NP T) k A n B n' C n'' x:=
 ⟨h.temp.monoI fun i _ hi g=>(g.cut (hs i hi).wd).mono hT,h.cure,h.spoil⟩
theorem StateW.tightR {k:World}{A B C:Option Addr}{n n' n'' W T:Nat}{x:PState}(h:StateW (NR' W) (NR' T) k A n B n' C n'' x) (hs:∀i,i<x.temp.length→Sm (at_ x.temp i)) (hT:4≤T):StateV (NR' T) k A n B n' C n'' x:=
 ⟨h.temp.monoI fun i _ hi g=>(Sm.cut g (hs i hi)).mono hT,h.cure,h.spoil⟩
def nN (x:PState):Prop:=∀i,i<x.temp.length→Mag (at_ x.temp i)
structure MagR (r:PRange):Prop where
 s0:Mag r.s0
 s1:Mag r.s1
 a0:Mag r.a0
 a1:Mag r.a1
theorem aBp {s:PSec}{x:PState}{u v:Rat}(hE:aI s=0) (hz:sized s x) (h:nN x) (hu:Mag u) (hv:Mag v) {i:Nat}(hi:i<s.cells.length):Mag (gC s x u v i):=
 yI hE ⟨fun j hj=>h j (by rw [hz.1];exact hj),fun _ _ _=>hu,fun _ _ _=>hv⟩ hi
theorem sA {s:PSec}{b:PBand}{r:PRange}(hE:aI s=0) (hz:sized s b.lo) (hz':sized s b.hi) (h:nN b.lo) (h':nN b.hi) (hr:MagR r) :
 (∀i,i<(fH s b r).lo.temp.length→Sm (at_ (fH s b r).lo.temp i))∧∀i,i<(fH s b r).hi.temp.length→Sm (at_ (fH s b r).hi.temp i):=by
 constructor
 ·intro i hi;have hi:i<s.cells.length:=by simpa [fH,dJ] using hi
  rw [show at_ (fH s b r).lo.temp i=pL (gC s b.lo r.s0 r.a0 i) from bC hi];exact zX (aBp hE hz h hr.s0 hr.a0 hi)
 ·intro i hi;have hi:i<s.cells.length:=by simpa [fH,dJ] using hi
  rw [show at_ (fH s b r).hi.temp i=uX (gC s b.hi r.s1 r.a1 i) from bC hi];exact aQw (aBp hE hz' h' hr.s1 hr.a1 hi)
def advN (s:PSec) (r:PRange):Nat→PBand→PBand
 | 0,b=>b
 | k+1,b=>fH s (advN s r k b) r
structure OkB (s:PSec) (b:PBand):Prop where
 lo:sized s b.lo
 hi:sized s b.hi
 magl:nN b.lo
 magh:nN b.hi
theorem OkB.adv {s:PSec}{b:PBand}{r:PRange}(hE:aI s=0) (hr:MagR r) (h:OkB s b):OkB s (fH s b r):=by
 obtain⟨h1,h2⟩:=sA hE h.lo h.hi h.magl h.magh hr;exact⟨iW,iW,fun i hi=>(h1 i hi).mag,fun i hi=>(h2 i hi).mag⟩
theorem OkB.advN {s:PSec}{b:PBand}{r:PRange}(hE:aI s=0) (hr:MagR r) (h:OkB s b):∀k,OkB s (advN s r k b)
 | 0=>h
 | k+1=>(OkB.advN hE hr h k).adv hE hr
def kY (p:Nat→Bool):Nat→Nat
 | 0=>0
 | n+1=>if kY p n<n then kY p n else if p n=true then n else n+1
theorem eJ {p:Nat→Bool}:∀ {n:Nat},(∀i,i<n→p i=false)→kY p n=n
 | 0,_=>rfl
 | n+1,h=>by
  unfold kY;rw [eJ fun i hi=>h i (by omega),if_neg (by omega),if_neg (by rw [h n (by omega)];decide)]
theorem fY {p:Nat→Bool}{j:Nat}(h:∀i,i<j→p i=false) (hj:p j=true):∀ {n:Nat},j<n→kY p n=j
 | 0,hn=>by omega
 | n+1,hn=>by
  unfold kY
  by_cases e:j=n
  ·subst e;rw [eJ h,if_neg (by omega),if_pos hj]
  ·rw [fY h hj (by omega),if_pos (by omega)]
def eQ (s:PSec) (b:PBand) (r:PRange) (most:Int):Int:=if kQ s b r≠0 then kQ s b r else if most<0∨2000<most then 1 else 0
def pI (s:PSec) (b:PBand) (r:PRange) (most:Nat):Nat:=kY (fun k=>decide (kM s (advN s r k b).lo)) (most+1)
def aPu (s:PSec) (b:PBand) (r:PRange):Nat→Int
 | 0=>-1
 | k+1=>kO s (advN s r k b).lo
structure Cyc where
 (steps slow fast:Int) (fin:PBand) (e:Int)
def aFs (e:Int):Cyc:=⟨0,0,0,⟨oG,oG⟩,e⟩
def iE (s:PSec) (b:PBand) (r:PRange) (most:Int):Cyc:=
 if eQ s b r most≠0 then aFs (eQ s b r most)
 else if most<pI s b r most.toNat then aFs 5
 else ⟨pI s b r most.toNat,aPu s b r (pI s b r most.toNat),zV s (advN s r (pI s b r most.toNat) b).hi,advN s r (pI s b r most.toNat) b,if cY s (advN s r (pI s b r most.toNat) b).hi then 61 else 0⟩
def aAc (s:PSec) (b:PBand) (r:PRange) (most:Nat):Nat:=kY (fun k=>decide (cY s (advN s r (k+1) b).hi)) most
def qM (s:PSec) (b:PBand) (r:PRange) (most:Int):Int×Int:=
 if eQ s b r most≠0 then (0,eQ s b r most) else if cY s b.hi then (0,61) else (aAc s b r most.toNat,0)
end Go.Proofs.YtpeakfmjibfkpaaGreat

namespace Go.Proofs.YtpeakfmjibfkpaaGreat
open Go.RowKit Num W32
open Sy (Up Sees CallsG Seg)
theorem kG {K d T T':Nat}(h:T≤T'):aK K d T≤aK K d T':=by
 unfold aK;have:=Nat.mul_le_mul_left d (show K+2*T+2≤K+2*T'+2 by omega);omega
theorem pJ {s:PSec}{b:PBand}{r:PRange}{most:Int}(h:eQ s b r most=0):kQ s b r=0∧0≤most∧most≤2000:=by
 unfold eQ at h;split at h
 ·rename_i g;exact absurd h g
 ·rename_i g;split at h
  ·cases h
  ·rename_i g';exact⟨Decidable.not_not.1 g,by omega,by omega⟩
theorem lM {s:PSec}{x:PState}(hz:sized s x) (h:s.cells.length≤24):uC x:=by
 obtain⟨z1,z2,z3⟩:=hz;exact⟨by omega,by omega,by omega⟩
section
variable {k k':World}{R:World→Value→Prop}{c0 c1 c2 c3:Array Value}{s:PSec}{b:PBand}{r:PRange}{K L T W d n0 n1 n2 d0 d1 d2 n3 n4 n5 d3 d4 d5 n6 d6 n7 d7 n8 d8:Nat}{A0 A1 A2 A3 A4 A5 A6 A7 A8:Option Addr}{most:Int}
theorem aLj (hl:StateV (NP T) k A3 n3 A4 n4 A5 n5 b.lo) (hh:StateV (NP T) k A6 n6 A7 n7 A8 n8 b.hi) (hn:uC b.lo) (hn':uC b.hi)
 (C:∀k' B0 m0 e0 B1 m1 e1 B2 m2 e2 B3 m3 e3 B4 m4 e4 B5 m5 e5,Up k k'→StateV (NP T) k' B0 m0 B1 m1 B2 m2 b.lo→StateV (NP T) k' B3 m3 B4 m4 B5 m5 b.hi→R k' (S6 B0 m0 e0 B1 m1 e1 B2 m2 e2 B3 m3 e3 B4 m4 e4 B5 m5 e5)) :
 Cl k 82 #[S6 A3 n3 d3 A4 n4 d4 A5 n5 d5 A6 n6 d6 A7 n7 d7 A8 n8 d8] R:=by
 intro k0 u0;have hM:=aH T;refine aGq (pE (StateV.up hM hl u0) (by rw [hl.temp.1];exact hn.1) (by rw [hl.cure.1];exact hn.2.1) (by rw [hl.spoil.1];exact hn.2.2) fun k1 B0 e0 B1 e1 B2 e2 u1 h1=>⟨_,_,_,_,_,_,_,_,_,rfl,?_⟩);refine pE (StateV.up hM hh (u0.trans u1)) (by rw [hh.temp.1];exact hn'.1) (by rw [hh.cure.1];exact hn'.2.1) (by rw [hh.spoil.1];exact hn'.2.2) fun k3 B3 e3 B4 e4 B5 e5 u3 h3=>⟨_,_,_,_,_,_,_,_,_,rfl,fun k4 u4=>?_⟩;exact C k4 _ _ _ _ _ _ _ _ _ _ _ _ _ _ _ _ _ _ ((u0.trans u1).trans (u3.trans u4)) (StateV.up hM h1 (u3.trans u4)) (StateV.up hM h3 u4)
theorem yY (hs:SecV (NP K) k A0 n0 A1 n1 A2 n2 s) (hl:StateV (NP T) k A3 n3 A4 n4 A5 n5 b.lo) (hh:StateV (NP T) k A6 n6 A7 n7 A8 n8 b.hi) (hr:RangeV (NP K) k c0 c1 c2 c3 r) (hK1:1≤K) (hT1:1≤T) (hK:K≤1000000) (hT:T≤100000000) (C:∀k',Up k k'→R k' (.int .i64 (eQ s b r most))) :
 Cl k 81 #[S3 A0 n0 d0 A1 n1 d1 A2 n2 d2,S6 A3 n3 d3 A4 n4 d4 A5 n5 d5 A6 n6 d6 A7 n7 d7 A8 n8 d8,.agg (c0.toList++(c1.toList++(c2.toList++(c3.toList++([]))))).toArray,.int .i64 most] R:=by
 intro k0 u0;have hN:=aH K;have hNT:=aH T;replace hs:=SecV.up hN hs u0;replace hl:=StateV.up hNT hl u0;replace hh:=StateV.up hNT hh u0;replace hr:=RangeV.up hN hr u0;replace C:=fun k' u=>C k' (u0.trans u);have hT:T≤300000000:=by omega
 refine aGs hr.s0.seg hr.s1.seg hr.a0.seg hr.a1.seg (aQr hs hl hh hK1 hK hT1 hT fun k1 u1=>⟨_,rfl,fun f k2 u2=>?_,fun f=>aLu (RangeV.up hN hr u1) hK1 (by omega) fun k4 u4=>⟨_,rfl,fun g k5 u5=>?_,fun g=>⟨fun h k6 u6=>?_,fun h=>⟨fun h' k7 u7=>?_,fun h' k8 u8=>?_⟩⟩⟩⟩)
 ·have:=C k2 (u1.trans u2);have hA:kQ s b r=fJ s b:=by unfold kQ;rw [if_pos (cU f)]
  unfold eQ at this
  rwa [hA,if_pos (cU f)]at this
 ·have:=C k5 (u1.trans (u4.trans u5));have hA:kQ s b r=nG r:=by unfold kQ;rw [if_neg (by simp [bN f])]
  unfold eQ at this
  rwa [hA,if_pos (cU g)]at this
 all_goals have hA:kQ s b r=0:=by unfold kQ;rw [if_neg (by simp [bN f]),bN g]
 ·have:=C k6 (u1.trans (u4.trans u6));unfold eQ at this
  rwa [hA,if_neg (by simp),if_pos (Or.inl (of_decide_eq_true h))]at this
 ·have:=C k7 (u1.trans (u4.trans u7));unfold eQ at this
  rwa [hA,if_neg (by simp),if_pos (Or.inr (of_decide_eq_true h'))]at this
 ·have:=C k8 (u1.trans (u4.trans u8));have h:=of_decide_eq_false h;have h':=of_decide_eq_false h';unfold eQ at this
  rwa [hA,if_neg (by simp),if_neg (by omega)]at this
set_option maxHeartbeats 1000000 in
theorem aLw (hs:SecV (NP K) k A0 n0 A1 n1 A2 n2 s) (hl:StateV (NP T) k A3 n3 A4 n4 A5 n5 b.lo) (hh:StateV (NP T) k A6 n6 A7 n7 A8 n8 b.hi) (hr:RangeV (NP K) k c0 c1 c2 c3 r) (hd:aI s=0→∀i,i<s.cells.length→(nbm s.links (i:Nat)).length≤d) (hml:nN b.lo) (hmh:nN b.hi) (hmr:MagR r) (hK1:1≤K) (hT1:1≤T) (hK:K≤1000000) (hd2:d≤128) (hm:eQ s b r most=0→aK K d (T+most.toNat*(K+1))≤90000) (hTT:T≤100000000) (hfin:eQ s b r most=0→T+most.toNat*(K+1)≤W)
 (C:∀k' B0 m0 e0 B1 m1 e1 B2 m2 e2 B3 m3 e3 B4 m4 e4 B5 m5 e5,Up k k'→StateV (NP W) k' B0 m0 B1 m1 B2 m2 (iE s b r most).fin.lo→StateV (NP W) k' B3 m3 B4 m4 B5 m5 (iE s b r most).fin.hi→
   R k' (.tuple #[.agg #[.int .i64 (iE s b r most).steps,.int .i64 (iE s b r most).slow,.int .i64 (iE s b r most).fast,.slice B0 m0 e0,.slice B1 m1 e1,.slice B2 m2 e2,.slice B3 m3 e3,.slice B4 m4 e4,.slice B5 m5 e5],.int .i64 (iE s b r most).e])) :
 Cl k 30 #[S3 A0 n0 d0 A1 n1 d1 A2 n2 d2,S6 A3 n3 d3 A4 n4 d4 A5 n5 d5 A6 n6 d6 A7 n7 d7 A8 n8 d8,.agg (c0.toList++(c1.toList++(c2.toList++(c3.toList++([]))))).toArray,.int .i64 most] R:=by
 intro k0 u0;have hN:=aH K;have hNT:=aH T;replace hs:=SecV.up hN hs u0;replace hl:=StateV.up hNT hl u0;replace hh:=StateV.up hNT hh u0;replace hr:=RangeV.up hN hr u0;replace C:=fun k' B0 m0 e0 B1 m1 e1 B2 m2 e2 B3 m3 e3 B4 m4 e4 B5 m5 e5 u=>C k' B0 m0 e0 B1 m1 e1 B2 m2 e2 B3 m3 e3 B4 m4 e4 B5 m5 e5 (u0.trans u);have bad:∀e:Int,iE s b r most=aFs e→∀k',Up k0 k'→R k' (.tuple #[.agg #[.int .i64 0,.int .i64 0,.int .i64 0,.slice none 0 0,.slice none 0 0,.slice none 0 0,.slice none 0 0,.slice none 0 0,.slice none 0 0],.int .i64 e]):=fun e he k' u=>by
  have:=C k' none 0 0 none 0 0 none 0 0 none 0 0 none 0 0 none 0 0 u (by rw [he];exact⟨.nil,.nil,.nil⟩) (by rw [he];exact⟨.nil,.nil,.nil⟩);rw [he]at this;exact this
 refine aHe hr.s0.seg hr.s1.seg hr.a0.seg hr.a1.seg (yY hs hl hh hr hK1 hT1 hK hTT fun k1 u1=>⟨_,rfl,fun f k2 u2=>bad _ (by unfold iE;rw [if_pos (cU f)]) k2 (u1.trans u2),fun f=>?_⟩);have f:=bN f;obtain⟨hA,hm0,hm2⟩:=pJ f;obtain⟨mN,rfl⟩:∃mN:Nat,most=mN:=⟨most.toNat,by omega⟩;have hm:=hm f;rw [Int.toNat_natCast]at hm;have hfin:=hfin f;rw [Int.toNat_natCast]at hfin;obtain⟨hE,hz,hz',_⟩:=nQ (rZ hA);have hOK:OkB s b:=⟨hz,hz',hml,hmh⟩;have hc24:s.cells.length≤24:=by have:=aU hE;unfold bB at this;omega
 have hd:=hd hE;have hW:∀j,j≤mN→aK K d (T+j*(K+1))≤90000∧T+j*(K+1)≤90000:=fun j hj=>by
  have h1:T+j*(K+1)≤T+mN*(K+1):=Nat.add_le_add_left (Nat.mul_le_mul_right _ hj) _;have h2:=Nat.le_trans (kG h1) hm;exact⟨h2,Nat.le_trans lN h2⟩
 have hsucc:∀j:Nat,T+(j+1)*(K+1)=T+j*(K+1)+K+1:=fun j=>by rw [Nat.succ_mul];omega
 refine aCj (SecV.up hN hs u1).links (by have:=aU hE;unfold bB at this;have:=hs.links.1;omega) (fun z hz=>by
  obtain⟨h1,h2⟩:=eD (dD hE) z hz
  omega) fun k4 M u4 hM=>⟨_,_,_,_,_,_,_,_,_,_,rfl,?_⟩
 have v4:=u1.trans u4;refine aLj (StateV.up hNT hl v4) (StateV.up hNT hh v4) (lM hz hc24) (lM hz' hc24) fun k6 B0 m0 e0 B1 m1 e1 B2 m2 e2 B3 m3 e3 B4 m4 e4 B5 m5 e5 u6 gl gh=>⟨_,_,_,_,_,_,_,_,_,_,_,_,_,_,_,_,_,_,rfl,?_⟩;have v6:=v4.trans u6
 refine⟨fun m k vs=>∃(j:Nat) (B0:Option Addr) (m0 e0:Nat) (B1:Option Addr) (m1 e1:Nat) (B2:Option Addr) (m2 e2:Nat) (B3:Option Addr) (m3 e3:Nat) (B4:Option Addr) (m4 e4:Nat) (B5:Option Addr) (m5 e5:Nat),j+m=mN∧vs=[.int .i64 (aPu s b r j),.int .i64 j,S6 B0 m0 e0 B1 m1 e1 B2 m2 e2 B3 m3 e3 B4 m4 e4 B5 m5 e5]∧
  StateV (NP (T+j*(K+1))) k B0 m0 B1 m1 B2 m2 (advN s r j b).lo∧StateV (NP (T+j*(K+1))) k B3 m3 B4 m4 B5 m5 (advN s r j b).hi∧∀i,i<j→¬ kM s (advN s r i b).lo,
  ⟨mN,fun k7 u7=>⟨0,_,_,_,_,_,_,_,_,_,_,_,_,_,_,_,_,_,_,by omega,rfl,StateV.up (aH _) (gl.mono fun _ _ h=>h.mono (by omega)) u7,StateV.up (aH _) (gh.mono fun _ _ h=>h.mono (by omega)) u7,fun i hi=>by omega⟩⟩,?_⟩
 rintro m k7 vs u7 ⟨j,B0,m0,e0,B1,m1,e1,B2,m2,e2,B3,m3,e3,B4,m4,e4,B5,m5,e5,hj,rfl,gl,gh,hno⟩;have v7:=v6.trans u7;have hj0:=hOK.advN hE hmr j;have hWj:=hW j (by omega);refine⟨_,_,_,_,_,_,_,_,_,_,_,_,_,_,_,_,_,_,_,_,rfl,aQv (SecV.up hN hs v7) gl hE hj0.lo hK1 (by omega) (by omega) (by omega) fun k9 u9=>⟨_,rfl,fun g=>?_,fun g=>⟨fun e k16 u16=>?_,fun e=>?_⟩⟩⟩
 ·
  have hNN:pI s b r (mN:Int).toNat=j:=by
   rw [Int.toNat_natCast];exact fY (fun i hi=>decide_eq_false (hno i hi)) g (by omega)
  have hle:¬ (mN:Int)<pI s b r (mN:Int).toNat:=by rw [hNN];omega
  have hmm:j*(K+1)≤mN*(K+1):=Nat.mul_le_mul_right _ (by omega);unfold iE at C;rw [if_neg (by simp [f]),if_neg hle,hNN]at C;refine aQx (b:=advN s r j b) (SecV.up hN hs (v7.trans u9)) (StateV.up (aH _) gh u9) hE hj0.hi hK1 (by omega) (by omega) (by omega) fun k11 u11=>⟨_,rfl,?_⟩;refine pH (SecV.up hN hs (v7.trans (u9.trans u11))) (StateV.up (aH _) gh (u9.trans u11)) hE hj0.hi hK1 (by omega) (by omega) (by omega) fun k13 u13=>⟨_,rfl,fun h k14 u14=>?_,fun h k15 u15=>?_⟩
  ·rw [if_pos (of_decide_eq_true h)]at C;exact C k14 _ _ _ _ _ _ _ _ _ _ _ _ _ _ _ _ _ _ (v7.trans ((u9.trans u11).trans (u13.trans u14))) ((StateV.up (aH _) gl ((u9.trans u11).trans (u13.trans u14))).mono fun _ _ h=>h.mono (by omega)) ((StateV.up (aH _) gh ((u9.trans u11).trans (u13.trans u14))).mono fun _ _ h=>h.mono (by omega))
  ·rw [if_neg (of_decide_eq_false h)]at C;exact C k15 _ _ _ _ _ _ _ _ _ _ _ _ _ _ _ _ _ _ (v7.trans ((u9.trans u11).trans (u13.trans u15))) ((StateV.up (aH _) gl ((u9.trans u11).trans (u13.trans u15))).mono fun _ _ h=>h.mono (by omega)) ((StateV.up (aH _) gh ((u9.trans u11).trans (u13.trans u15))).mono fun _ _ h=>h.mono (by omega))
 ·have e:j=mN:=by simp at e;omega
  refine bad 5 ?_ _ (v7.trans (u9.trans u16));have hNN:pI s b r (mN:Int).toNat=mN+1:=by
   rw [Int.toNat_natCast];exact eJ fun i hi=>decide_eq_false (fun hq=>by rcases Nat.lt_or_ge i j with h|h;exact hno i h hq;rw [show i=j by omega]at hq;exact of_decide_eq_false g hq)
  unfold iE;rw [if_neg (by simp [f]),if_pos (by rw [hNN];omega)]
 ·have e:j≠mN:=by simp at e;omega
  refine aRg (b:=advN s r j b) (SecV.up hN hs (v7.trans u9)) (StateV.up (aH _) gl u9) hE hj0.lo hK1 (by omega) (by omega) (by omega) fun k18 u18=>⟨_,rfl,?_⟩;refine aLc (b:=advN s r j b) (SecV.up hN hs (v7.trans (u9.trans u18))) (StateV.up (aH _) gl (u9.trans u18)) (StateV.up (aH _) gh (u9.trans u18)) (NbV.up hN hM ((u6.trans u7).trans (u9.trans u18))) (RangeV.up hN hr (v7.trans (u9.trans u18))) hE hj0.lo hj0.hi hd hK1 (by omega) hWj.1 hd2 fun k20 B0 m0 e0 B1 m1 e1 B2 m2 e2 B3 m3 e3 B4 m4 e4 B5 m5 e5 u20 g1 g2=>⟨_,_,_,_,_,_,_,_,_,_,_,_,_,_,_,_,_,_,rfl,fun k21 u21=>?_⟩;obtain⟨q1,q2⟩:=sA hE hj0.lo hj0.hi hj0.magl hj0.magh hmr;refine⟨m-1,by omega,j+1,_,_,_,_,_,_,_,_,_,_,_,_,_,_,_,_,_,_,by omega,by rw [aC (by omega)];rfl,?_,?_,bG hno (of_decide_eq_false g)⟩
  ·rw [hsucc];exact StateV.up (aH _) (g1.tightP q1 (by omega)) u21
  ·rw [hsucc];exact StateV.up (aH _) (g2.tightP q2 (by omega)) u21
set_option maxHeartbeats 1000000 in
theorem aQy (hs:SecV (NP K) k A0 n0 A1 n1 A2 n2 s) (hl:StateV (NP T) k A3 n3 A4 n4 A5 n5 b.lo) (hh:StateV (NP T) k A6 n6 A7 n7 A8 n8 b.hi) (hr:RangeV (NP K) k c0 c1 c2 c3 r) (hd:aI s=0→∀i,i<s.cells.length→(nbm s.links (i:Nat)).length≤d) (hml:nN b.lo) (hmh:nN b.hi) (hmr:MagR r) (hK1:1≤K) (hT1:1≤T) (hK:K≤1000000) (hd2:d≤128) (hm:eQ s b r most=0→aK K d (T+most.toNat*(K+1))≤90000) (hTT:T≤100000000)
 (C:∀k',Up k k'→R k' (.tuple #[.int .i64 (qM s b r most).1,.int .i64 (qM s b r most).2])) :
 Cl k 32 #[S3 A0 n0 d0 A1 n1 d1 A2 n2 d2,S6 A3 n3 d3 A4 n4 d4 A5 n5 d5 A6 n6 d6 A7 n7 d7 A8 n8 d8,.agg (c0.toList++(c1.toList++(c2.toList++(c3.toList++([]))))).toArray,.int .i64 most] R:=by
 intro k0 u0;have hN:=aH K;have hNT:=aH T;replace hs:=SecV.up hN hs u0;replace hl:=StateV.up hNT hl u0;replace hh:=StateV.up hNT hh u0;replace hr:=RangeV.up hN hr u0;replace C:=fun k' u=>C k' (u0.trans u);refine aLp hr.s0.seg hr.s1.seg hr.a0.seg hr.a1.seg (yY hs hl hh hr hK1 hT1 hK hTT fun k1 u1=>⟨_,rfl,fun f k2 u2=>?_,fun f=>?_⟩)
 ·have:=C k2 (u1.trans u2);unfold qM at this
  rwa [if_pos (cU f)]at this
 have f:=bN f;obtain⟨hA,hm0,hm2⟩:=pJ f;obtain⟨mN,rfl⟩:∃mN:Nat,most=mN:=⟨most.toNat,by omega⟩;have hm:=hm f;rw [Int.toNat_natCast]at hm;obtain⟨hE,hz,hz',_⟩:=nQ (rZ hA);have hOK:OkB s b:=⟨hz,hz',hml,hmh⟩;have hc24:s.cells.length≤24:=by have:=aU hE;unfold bB at this;omega
 have hd:=hd hE;have hW:∀j,j≤mN→aK K d (T+j*(K+1))≤90000∧T+j*(K+1)≤90000:=fun j hj=>by
  have h1:T+j*(K+1)≤T+mN*(K+1):=Nat.add_le_add_left (Nat.mul_le_mul_right _ hj) _;have h2:=Nat.le_trans (kG h1) hm;exact⟨h2,Nat.le_trans lN h2⟩
 have hsucc:∀j:Nat,T+(j+1)*(K+1)=T+j*(K+1)+K+1:=fun j=>by rw [Nat.succ_mul];omega
 unfold qM at C;rw [if_neg (by simp [f]),Int.toNat_natCast]at C;refine pH (SecV.up hN hs u1) (StateV.up hNT hh u1) hE hz' hK1 (by omega) (by omega) (by omega) fun k4 u4=>⟨_,rfl,fun g k5 u5=>?_,fun g=>?_⟩
 ·have:=C k5 (u1.trans (u4.trans u5))
  rwa [if_pos (of_decide_eq_true g)]at this
 rw [if_neg (of_decide_eq_false g)]at C;have v4:=u1.trans u4
 refine aCj (SecV.up hN hs v4).links (by have:=aU hE;unfold bB at this;have:=hs.links.1;omega) (fun z hz=>by
  obtain⟨h1,h2⟩:=eD (dD hE) z hz
  omega) fun k6 M u6 hM=>⟨_,_,_,_,_,_,_,_,_,_,rfl,?_⟩
 have v6:=v4.trans u6
 refine⟨fun m k vs=>∃(j:Nat) (B0:Option Addr) (m0 e0:Nat) (B1:Option Addr) (m1 e1:Nat) (B2:Option Addr) (m2 e2:Nat) (B3:Option Addr) (m3 e3:Nat) (B4:Option Addr) (m4 e4:Nat) (B5:Option Addr) (m5 e5:Nat),j+m=mN∧vs=[.int .i64 j,S6 B0 m0 e0 B1 m1 e1 B2 m2 e2 B3 m3 e3 B4 m4 e4 B5 m5 e5]∧
  StateV (NP (T+j*(K+1))) k B0 m0 B1 m1 B2 m2 (advN s r j b).lo∧StateV (NP (T+j*(K+1))) k B3 m3 B4 m4 B5 m5 (advN s r j b).hi∧∀i,i<j→¬ cY s (advN s r (i+1) b).hi,
  ⟨mN,fun k7 u7=>⟨0,_,_,_,_,_,_,_,_,_,_,_,_,_,_,_,_,_,_,by omega,rfl,(StateV.up hNT hl (v6.trans u7)).mono fun _ _ h=>h.mono (by omega),(StateV.up hNT hh (v6.trans u7)).mono fun _ _ h=>h.mono (by omega),fun i hi=>by omega⟩⟩,?_⟩
 rintro m k7 vs u7 ⟨j,B0,m0,e0,B1,m1,e1,B2,m2,e2,B3,m3,e3,B4,m4,e4,B5,m5,e5,hj,rfl,gl,gh,hno⟩;have v7:=v6.trans u7;have hj0:=hOK.advN hE hmr j;have hj1:=hOK.advN hE hmr (j+1);have hWj:=hW j (by omega);refine⟨_,_,_,_,_,_,_,_,_,_,_,_,_,_,_,_,_,_,_,rfl,fun hlt=>?_,fun hge k15 u15=>?_⟩
 ·have hlt:=aE hlt;have hWj1:=hW (j+1) (by omega);rw [hsucc]at hWj1;refine aLc (b:=advN s r j b) (SecV.up hN hs v7) (StateV.up (aH _) gl (Up.refl _)) (StateV.up (aH _) gh (Up.refl _)) (NbV.up hN hM u7) (RangeV.up hN hr v7) hE hj0.lo hj0.hi hd hK1 (by omega) hWj.1 hd2 fun k10 B0 m0 e0 B1 m1 e1 B2 m2 e2 B3 m3 e3 B4 m4 e4 B5 m5 e5 u10 g1 g2=>⟨_,_,_,_,_,_,_,_,_,_,_,_,_,_,_,_,_,_,rfl,?_⟩;obtain⟨q1,q2⟩:=sA hE hj0.lo hj0.hi hj0.magl hj0.magh hmr;have t1:=g1.tightP q1 (by omega);have t2:=g2.tightP q2 (by omega);refine pH (SecV.up hN hs (v7.trans u10)) t2 hE hj1.hi hK1 (by omega) (by omega) (by omega) fun k12 u12=>⟨_,rfl,fun g k13 u13=>?_,fun g k14 u14=>?_⟩
  ·have:=C k13 (v7.trans (u10.trans (u12.trans u13)))
   rwa [show aAc s b r mN=j from fY (fun i hi=>decide_eq_false (hno i hi)) g hlt]at this
  ·refine⟨m-1,by omega,j+1,_,_,_,_,_,_,_,_,_,_,_,_,_,_,_,_,_,_,by omega,by rw [aC (by omega)],?_,?_,bG hno (of_decide_eq_false g)⟩
   ·rw [hsucc];exact StateV.up (aH _) t1 (u12.trans u14)
   ·rw [hsucc];exact StateV.up (aH _) t2 (u12.trans u14)
 ·have hge:=aF hge;have:=C k15 (v7.trans u15)
  rwa [show aAc s b r mN=mN from eJ fun i hi=>decide_eq_false (hno i (by omega))]at this
end
end Go.Proofs.YtpeakfmjibfkpaaGreat

namespace Go.Proofs.YtpeakfmjibfkpaaGreat
open Go.RowKit Num W32
open Sy (Up Sees CallsG Seg)
section
variable {k k':World}{R:World→Value→Prop}{c0 c1 c2 c3:Array Value}{s:PSec}{b:PBand}{r:PRange}{K L T W d n0 n1 n2 d0 d1 d2 n3 n4 n5 d3 d4 d5 n6 d6 n7 d7 n8 d8:Nat}{A0 A1 A2 A3 A4 A5 A6 A7 A8:Option Addr}{most:Int}
theorem aBh (hs:SecV (NR K) k A0 n0 A1 n1 A2 n2 s) (hl:StateV (NR T) k A3 n3 A4 n4 A5 n5 b.lo) (hh:StateV (NR T) k A6 n6 A7 n7 A8 n8 b.hi) (hr:RangeV (NR K) k c0 c1 c2 c3 r)  (hK:K≤1000000) (hT:T≤100000000) (C:∀k',Up k k'→R k' (.int .i64 (eQ s b r most))) :
 Cl k 83 #[S3 A0 n0 d0 A1 n1 d1 A2 n2 d2,S6 A3 n3 d3 A4 n4 d4 A5 n5 d5 A6 n6 d6 A7 n7 d7 A8 n8 d8,.agg (c0.toList++(c1.toList++(c2.toList++(c3.toList++([]))))).toArray,.int .i64 most] R:=by
 intro k0 u0;have hN:=aN K;have hNT:=aN T;replace hs:=SecV.up hN hs u0;replace hl:=StateV.up hNT hl u0;replace hh:=StateV.up hNT hh u0;replace hr:=RangeV.up hN hr u0;replace C:=fun k' u=>C k' (u0.trans u);have hT:T≤300000000:=by omega
 refine aEc hr.s0.seg hr.s1.seg hr.a0.seg hr.a1.seg (aLb hs hl hh hK hT fun k1 u1=>⟨_,rfl,fun f k2 u2=>?_,fun f=>aOy (RangeV.up hN hr u1) (by omega) fun k4 u4=>⟨_,rfl,fun g k5 u5=>?_,fun g=>⟨fun h k6 u6=>?_,fun h=>⟨fun h' k7 u7=>?_,fun h' k8 u8=>?_⟩⟩⟩⟩)
 ·have:=C k2 (u1.trans u2);have hA:kQ s b r=fJ s b:=by unfold kQ;rw [if_pos (cU f)]
  unfold eQ at this
  rwa [hA,if_pos (cU f)]at this
 ·have:=C k5 (u1.trans (u4.trans u5));have hA:kQ s b r=nG r:=by unfold kQ;rw [if_neg (by simp [bN f])]
  unfold eQ at this
  rwa [hA,if_pos (cU g)]at this
 all_goals have hA:kQ s b r=0:=by unfold kQ;rw [if_neg (by simp [bN f]),bN g]
 ·have:=C k6 (u1.trans (u4.trans u6));unfold eQ at this
  rwa [hA,if_neg (by simp),if_pos (Or.inl (of_decide_eq_true h))]at this
 ·have:=C k7 (u1.trans (u4.trans u7));unfold eQ at this
  rwa [hA,if_neg (by simp),if_pos (Or.inr (of_decide_eq_true h'))]at this
 ·have:=C k8 (u1.trans (u4.trans u8));have h:=of_decide_eq_false h;have h':=of_decide_eq_false h';unfold eQ at this
  rwa [hA,if_neg (by simp),if_neg (by omega)]at this
set_option maxHeartbeats 1000000 in
theorem aTq (hs:SecV (NR K) k A0 n0 A1 n1 A2 n2 s) (hl:StateV (NR T) k A3 n3 A4 n4 A5 n5 b.lo) (hh:StateV (NR T) k A6 n6 A7 n7 A8 n8 b.hi) (hr:RangeV (NR K) k c0 c1 c2 c3 r) (hd:aI s=0→∀i,i<s.cells.length→(nbm s.links (i:Nat)).length≤d) (hml:nN b.lo) (hmh:nN b.hi) (hmr:MagR r) (hK2:2≤K) (hT2:2≤T) (hK:K≤1000000) (hm:eQ s b r most=0→aK K d (T+most.toNat*(K+1))≤90000) (hTT:T≤100000000) (hfin:eQ s b r most=0→T+most.toNat*(K+1)≤W)
 (C:∀k' B0 m0 e0 B1 m1 e1 B2 m2 e2 B3 m3 e3 B4 m4 e4 B5 m5 e5,Up k k'→StateV (NR W) k' B0 m0 B1 m1 B2 m2 (iE s b r most).fin.lo→StateV (NR W) k' B3 m3 B4 m4 B5 m5 (iE s b r most).fin.hi→
   R k' (.tuple #[.agg #[.int .i64 (iE s b r most).steps,.int .i64 (iE s b r most).slow,.int .i64 (iE s b r most).fast],S6 B0 m0 e0 B1 m1 e1 B2 m2 e2 B3 m3 e3 B4 m4 e4 B5 m5 e5,.int .i64 (iE s b r most).e])) :
 Cl k 31 #[S3 A0 n0 d0 A1 n1 d1 A2 n2 d2,S6 A3 n3 d3 A4 n4 d4 A5 n5 d5 A6 n6 d6 A7 n7 d7 A8 n8 d8,.agg (c0.toList++(c1.toList++(c2.toList++(c3.toList++([]))))).toArray,.int .i64 most] R:=by
 intro k0 u0;have hN:=aN K;have hNT:=aN T;replace hs:=SecV.up hN hs u0;replace hl:=StateV.up hNT hl u0;replace hh:=StateV.up hNT hh u0;replace hr:=RangeV.up hN hr u0;replace C:=fun k' B0 m0 e0 B1 m1 e1 B2 m2 e2 B3 m3 e3 B4 m4 e4 B5 m5 e5 u=>C k' B0 m0 e0 B1 m1 e1 B2 m2 e2 B3 m3 e3 B4 m4 e4 B5 m5 e5 (u0.trans u);have bad:∀e:Int,iE s b r most=aFs e→∀k',Up k0 k'→R k' (.tuple #[.agg #[.int .i64 0,.int .i64 0,.int .i64 0],S6 none 0 0 none 0 0 none 0 0 none 0 0 none 0 0 none 0 0,.int .i64 e]):=fun e he k' u=>by
  have:=C k' none 0 0 none 0 0 none 0 0 none 0 0 none 0 0 none 0 0 u (by rw [he];exact⟨.nil,.nil,.nil⟩) (by rw [he];exact⟨.nil,.nil,.nil⟩);rw [he]at this;exact this
 refine aJt hr.s0.seg hr.s1.seg hr.a0.seg hr.a1.seg (aBh hs hl hh hr hK hTT fun k1 u1=>⟨_,rfl,fun f k2 u2=>bad _ (by unfold iE;rw [if_pos (cU f)]) k2 (u1.trans u2),fun f=>?_⟩);have f:=bN f;obtain⟨hA,hm0,hm2⟩:=pJ f;obtain⟨mN,rfl⟩:∃mN:Nat,most=mN:=⟨most.toNat,by omega⟩;have hm:=hm f;rw [Int.toNat_natCast]at hm;have hfin:=hfin f;rw [Int.toNat_natCast]at hfin;obtain⟨hE,hz,hz',_⟩:=nQ (rZ hA);have hOK:OkB s b:=⟨hz,hz',hml,hmh⟩;have hc24:s.cells.length≤24:=by have:=aU hE;unfold bB at this;omega
 have hd:=hd hE;have hW:∀j,j≤mN→aK K d (T+j*(K+1))≤90000∧T+j*(K+1)≤90000:=fun j hj=>by
  have h1:T+j*(K+1)≤T+mN*(K+1):=Nat.add_le_add_left (Nat.mul_le_mul_right _ hj) _;have h2:=Nat.le_trans (kG h1) hm;exact⟨h2,Nat.le_trans lN h2⟩
 have hsucc:∀j:Nat,T+(j+1)*(K+1)=T+j*(K+1)+K+1:=fun j=>by rw [Nat.succ_mul];omega
 refine⟨fun m k vs=>∃(j:Nat) (B0:Option Addr) (m0 e0:Nat) (B1:Option Addr) (m1 e1:Nat) (B2:Option Addr) (m2 e2:Nat) (B3:Option Addr) (m3 e3:Nat) (B4:Option Addr) (m4 e4:Nat) (B5:Option Addr) (m5 e5:Nat),j+m=mN+1∧vs=[.int .i64 (aPu s b r j),.int .i64 j,S6 B0 m0 e0 B1 m1 e1 B2 m2 e2 B3 m3 e3 B4 m4 e4 B5 m5 e5]∧
  StateV (NR (T+j*(K+1))) k B0 m0 B1 m1 B2 m2 (advN s r j b).lo∧StateV (NR (T+j*(K+1))) k B3 m3 B4 m4 B5 m5 (advN s r j b).hi∧∀i,i<j→¬ kM s (advN s r i b).lo,
  ⟨mN+1,fun k7 u7=>⟨0,_,_,_,_,_,_,_,_,_,_,_,_,_,_,_,_,_,_,by omega,rfl,(StateV.up hNT hl (u1.trans u7)).mono fun _ _ h=>h.mono (by omega),(StateV.up hNT hh (u1.trans u7)).mono fun _ _ h=>h.mono (by omega),fun i hi=>by omega⟩⟩,?_⟩
 rintro m k7 vs u7 ⟨j,B0,m0,e0,B1,m1,e1,B2,m2,e2,B3,m3,e3,B4,m4,e4,B5,m5,e5,hj,rfl,gl,gh,hno⟩;have v7:=u1.trans u7;have hj0:=hOK.advN hE hmr j;refine⟨_,_,_,_,_,_,_,_,_,_,_,_,_,_,_,_,_,_,_,_,rfl,fun hlt=>?_,fun hge k17 u17=>?_⟩
 ·have hlt:j≤mN:=by have:=of_decide_eq_true hlt;omega
  have hWj:=hW j hlt;refine aVf (SecV.up hN hs v7) gl hE hj0.lo (by omega) (by omega) fun k9 u9=>⟨_,rfl,fun g=>?_,fun g=>?_⟩
  ·
   have hNN:pI s b r (mN:Int).toNat=j:=by
    rw [Int.toNat_natCast];exact fY (fun i hi=>decide_eq_false (hno i hi)) g (by omega)
   have hle:¬ (mN:Int)<pI s b r (mN:Int).toNat:=by rw [hNN];omega
   have hmm:j*(K+1)≤mN*(K+1):=Nat.mul_le_mul_right _ (by omega);unfold iE at C;rw [if_neg (by simp [f]),if_neg hle,hNN]at C;refine aVg (b:=advN s r j b) (SecV.up hN hs (v7.trans u9)) (StateV.up (aN _) gh u9) hE hj0.hi (by omega) (by omega) fun k11 u11=>⟨_,rfl,?_⟩;refine uE (SecV.up hN hs (v7.trans (u9.trans u11))) (StateV.up (aN _) gh (u9.trans u11)) hE hj0.hi (by omega) (by omega) fun k13 u13=>⟨_,rfl,fun h k14 u14=>?_,fun h k15 u15=>?_⟩
   ·rw [if_pos (of_decide_eq_true h)]at C;exact C k14 _ _ _ _ _ _ _ _ _ _ _ _ _ _ _ _ _ _ (v7.trans ((u9.trans u11).trans (u13.trans u14))) ((StateV.up (aN _) gl ((u9.trans u11).trans (u13.trans u14))).mono fun _ _ h=>h.mono (by omega)) ((StateV.up (aN _) gh ((u9.trans u11).trans (u13.trans u14))).mono fun _ _ h=>h.mono (by omega))
   ·rw [if_neg (of_decide_eq_false h)]at C;exact C k15 _ _ _ _ _ _ _ _ _ _ _ _ _ _ _ _ _ _ (v7.trans ((u9.trans u11).trans (u13.trans u15))) ((StateV.up (aN _) gl ((u9.trans u11).trans (u13.trans u15))).mono fun _ _ h=>h.mono (by omega)) ((StateV.up (aN _) gh ((u9.trans u11).trans (u13.trans u15))).mono fun _ _ h=>h.mono (by omega))
  ·
   refine aWl (b:=advN s r j b) (SecV.up hN hs (v7.trans u9)) (StateV.up (aN _) gl u9) hE hj0.lo (by omega) (by omega) fun k18 u18=>⟨_,rfl,?_⟩;refine aOx (b:=advN s r j b) (SecV.up hN hs (v7.trans (u9.trans u18))) (StateV.up (aN _) gl (u9.trans u18)) (StateV.up (aN _) gh (u9.trans u18)) (RangeV.up hN hr (v7.trans (u9.trans u18))) hE hj0.lo hj0.hi hd hK2 (by omega) hK hWj.1 fun k20 B0 m0 e0 B1 m1 e1 B2 m2 e2 B3 m3 e3 B4 m4 e4 B5 m5 e5 u20 g1 g2=>⟨_,_,_,_,_,_,_,_,_,_,_,_,_,_,_,_,_,_,rfl,fun k21 u21=>?_⟩;obtain⟨q1,q2⟩:=sA hE hj0.lo hj0.hi hj0.magl hj0.magh hmr;refine⟨m-1,by omega,j+1,_,_,_,_,_,_,_,_,_,_,_,_,_,_,_,_,_,_,by omega,by rw [aC (by omega)];rfl,?_,?_,bG hno (of_decide_eq_false g)⟩
   ·rw [hsucc];exact StateV.up (aN _) (g1.tightR q1 (by omega)) u21
   ·rw [hsucc];exact StateV.up (aN _) (g2.tightR q2 (by omega)) u21
 ·have hge:¬ j≤mN:=fun h=>of_decide_eq_false hge (by omega);refine bad 5 ?_ _ (v7.trans u17);have hNN:pI s b r (mN:Int).toNat=mN+1:=by
   rw [Int.toNat_natCast];exact eJ fun i hi=>decide_eq_false (hno i (by omega))
  unfold iE;rw [if_neg (by simp [f]),if_pos (by rw [hNN];omega)]
set_option maxHeartbeats 1000000 in
theorem aVn (hs:SecV (NR K) k A0 n0 A1 n1 A2 n2 s) (hl:StateV (NR T) k A3 n3 A4 n4 A5 n5 b.lo) (hh:StateV (NR T) k A6 n6 A7 n7 A8 n8 b.hi) (hr:RangeV (NR K) k c0 c1 c2 c3 r) (hd:aI s=0→∀i,i<s.cells.length→(nbm s.links (i:Nat)).length≤d) (hml:nN b.lo) (hmh:nN b.hi) (hmr:MagR r) (hK2:2≤K) (hT2:2≤T) (hK:K≤1000000) (hm:eQ s b r most=0→aK K d (T+most.toNat*(K+1))≤90000) (hTT:T≤100000000)
 (C:∀k',Up k k'→R k' (.tuple #[.int .i64 (qM s b r most).1,.int .i64 (qM s b r most).2])) :
 Cl k 33 #[S3 A0 n0 d0 A1 n1 d1 A2 n2 d2,S6 A3 n3 d3 A4 n4 d4 A5 n5 d5 A6 n6 d6 A7 n7 d7 A8 n8 d8,.agg (c0.toList++(c1.toList++(c2.toList++(c3.toList++([]))))).toArray,.int .i64 most] R:=by
 intro k0 u0;have hN:=aN K;have hNT:=aN T;replace hs:=SecV.up hN hs u0;replace hl:=StateV.up hNT hl u0;replace hh:=StateV.up hNT hh u0;replace hr:=RangeV.up hN hr u0;replace C:=fun k' u=>C k' (u0.trans u);refine aPf hr.s0.seg hr.s1.seg hr.a0.seg hr.a1.seg (aBh hs hl hh hr hK hTT fun k1 u1=>⟨_,rfl,fun f k2 u2=>?_,fun f=>?_⟩)
 ·have:=C k2 (u1.trans u2);unfold qM at this
  rwa [if_pos (cU f)]at this
 have f:=bN f;obtain⟨hA,hm0,hm2⟩:=pJ f;obtain⟨mN,rfl⟩:∃mN:Nat,most=mN:=⟨most.toNat,by omega⟩;have hm:=hm f;rw [Int.toNat_natCast]at hm;obtain⟨hE,hz,hz',_⟩:=nQ (rZ hA);have hOK:OkB s b:=⟨hz,hz',hml,hmh⟩;have hc24:s.cells.length≤24:=by have:=aU hE;unfold bB at this;omega
 have hd:=hd hE;have hW:∀j,j≤mN→aK K d (T+j*(K+1))≤90000∧T+j*(K+1)≤90000:=fun j hj=>by
  have h1:T+j*(K+1)≤T+mN*(K+1):=Nat.add_le_add_left (Nat.mul_le_mul_right _ hj) _;have h2:=Nat.le_trans (kG h1) hm;exact⟨h2,Nat.le_trans lN h2⟩
 have hsucc:∀j:Nat,T+(j+1)*(K+1)=T+j*(K+1)+K+1:=fun j=>by rw [Nat.succ_mul];omega
 unfold qM at C;rw [if_neg (by simp [f]),Int.toNat_natCast]at C;refine uE (SecV.up hN hs u1) (StateV.up hNT hh u1) hE hz' (by omega) (by omega) fun k4 u4=>⟨_,rfl,fun g k5 u5=>?_,fun g=>?_⟩
 ·have:=C k5 (u1.trans (u4.trans u5))
  rwa [if_pos (of_decide_eq_true g)]at this
 rw [if_neg (of_decide_eq_false g)]at C;have v4:=u1.trans u4
 refine⟨fun m k vs=>∃(j:Nat) (B0:Option Addr) (m0 e0:Nat) (B1:Option Addr) (m1 e1:Nat) (B2:Option Addr) (m2 e2:Nat) (B3:Option Addr) (m3 e3:Nat) (B4:Option Addr) (m4 e4:Nat) (B5:Option Addr) (m5 e5:Nat),j+m=mN∧vs=[.int .i64 j,S6 B0 m0 e0 B1 m1 e1 B2 m2 e2 B3 m3 e3 B4 m4 e4 B5 m5 e5]∧
  StateV (NR (T+j*(K+1))) k B0 m0 B1 m1 B2 m2 (advN s r j b).lo∧StateV (NR (T+j*(K+1))) k B3 m3 B4 m4 B5 m5 (advN s r j b).hi∧∀i,i<j→¬ cY s (advN s r (i+1) b).hi,
  ⟨mN,fun k7 u7=>⟨0,_,_,_,_,_,_,_,_,_,_,_,_,_,_,_,_,_,_,by omega,rfl,(StateV.up hNT hl (v4.trans u7)).mono fun _ _ h=>h.mono (by omega),(StateV.up hNT hh (v4.trans u7)).mono fun _ _ h=>h.mono (by omega),fun i hi=>by omega⟩⟩,?_⟩
 rintro m k7 vs u7 ⟨j,B0,m0,e0,B1,m1,e1,B2,m2,e2,B3,m3,e3,B4,m4,e4,B5,m5,e5,hj,rfl,gl,gh,hno⟩;have v7:=v4.trans u7;have hj0:=hOK.advN hE hmr j;have hj1:=hOK.advN hE hmr (j+1);have hWj:=hW j (by omega);refine⟨_,_,_,_,_,_,_,_,_,_,_,_,_,_,_,_,_,_,_,rfl,fun hlt=>?_,fun hge k15 u15=>?_⟩
 ·have hlt:=aE hlt;have hWj1:=hW (j+1) (by omega);rw [hsucc]at hWj1;refine aOx (b:=advN s r j b) (SecV.up hN hs v7) (StateV.up (aN _) gl (Up.refl _)) (StateV.up (aN _) gh (Up.refl _)) (RangeV.up hN hr v7) hE hj0.lo hj0.hi hd hK2 (by omega) hK hWj.1 fun k10 B0 m0 e0 B1 m1 e1 B2 m2 e2 B3 m3 e3 B4 m4 e4 B5 m5 e5 u10 g1 g2=>⟨_,_,_,_,_,_,_,_,_,_,_,_,_,_,_,_,_,_,rfl,?_⟩;obtain⟨q1,q2⟩:=sA hE hj0.lo hj0.hi hj0.magl hj0.magh hmr;have t1:=g1.tightR q1 (by omega);have t2:=g2.tightR q2 (by omega);refine uE (SecV.up hN hs (v7.trans u10)) t2 hE hj1.hi (by omega) (by omega) fun k12 u12=>⟨_,rfl,fun g k13 u13=>?_,fun g k14 u14=>?_⟩
  ·have:=C k13 (v7.trans (u10.trans (u12.trans u13)))
   rwa [show aAc s b r mN=j from fY (fun i hi=>decide_eq_false (hno i hi)) g hlt]at this
  ·refine⟨m-1,by omega,j+1,_,_,_,_,_,_,_,_,_,_,_,_,_,_,_,_,_,_,by omega,by rw [aC (by omega)],?_,?_,bG hno (of_decide_eq_false g)⟩
   ·rw [hsucc];exact StateV.up (aN _) t1 (u12.trans u14)
   ·rw [hsucc];exact StateV.up (aN _) t2 (u12.trans u14)
 ·have hge:=aF hge;have:=C k15 (v7.trans u15)
  rwa [show aAc s b r mN=mN from eJ fun i hi=>decide_eq_false (hno i (by omega))]at this
end
end Go.Proofs.YtpeakfmjibfkpaaGreat

namespace Go.Proofs.YtpeakfmjibfkpaaGreat
open Go.RowKit Num W32
open Sy (Up Sees CallsG Seg ReadAt)
theorem oI {y z:Int}(hy:In64 y) (hz:In64 z):Mag (ofQ y z):=by
 have key:∀q:Rat,q.num.natAbs≤2^63→Mag q:=fun q h=>by
  have hd:=q.den_pos;have h2:MM≤MM*(q.den:Int):=by unfold MM;omega
  refine⟨aNa.2 ?_,aMt.2 ?_⟩
  ·rw [Int.neg_mul];unfold MM at h2 ⊢;omega
  ·unfold MM at h2 ⊢;omega
 refine key _ ?_;unfold In64 at hy hz;unfold ofQ
 by_cases h:z=0
 ·rw [if_pos h,Rat.num_intCast];omega
 ·rw [if_neg h,←lF y z h,jJ _ (by omega),oP];have h1:=Nat.div_le_self y.natAbs (Nat.gcd y.natAbs z.natAbs);omega
theorem uF {k:World}{A B C:Option Addr}{n n' n'':Nat}{x:PState}(h:StateA k A n B n' C n'' x):nN x:=fun i hi=>by
 obtain⟨a,_,⟨y,z,hy,hz,_,e⟩,_⟩:=h.temp.el hi (by decide);rw [e];exact oI hy hz
theorem same3' {a c e:Int}:¬ (!(if (a == a)=true then (if (c == c)=true then (if (e == e)=true then true else false) else false) else false))=true:=by simp
theorem aHx {s:PSec}{x:PBand}{r:PRange}{most:Int}(hc24:aI s=0→s.cells.length≤24):small5 (iE s x r most).fin.lo∧small5 (iE s x r most).fin.hi:=by
 have none:small5 oG:=⟨Nat.zero_le _,Nat.zero_le _,Nat.zero_le _⟩;unfold iE;split
 ·exact⟨none,none⟩
 ·rename_i h;split
  ·exact⟨none,none⟩
  ·obtain⟨hA,_⟩:=pJ (Decidable.not_not.1 h);obtain⟨hE,hz,hz',_⟩:=nQ (rZ hA);have hc:=hc24 hE;have key:∀j,sized s (advN s r j x).lo∧sized s (advN s r j x).hi:=fun j=>by
    cases j with
    | zero=>exact⟨hz,hz'⟩
    | succ j=>exact⟨iW,iW⟩
   obtain⟨⟨a1,a2,a3⟩,b1,b2,b3⟩:=key (pI s x r most.toNat);exact⟨⟨by simp only;omega,by simp only;omega,by simp only;omega⟩,by simp only;omega,by simp only;omega,by simp only;omega⟩
section
variable {k:World}{R:World→Value→Prop}{s:PSec}{x:PBand}{n0 n1 n2 d0 d1 d2 n3 n4 n5 d3 d4 d5 n6 d6 n7 d7 n8 d8:Nat}{A0 A1 A2 A3 A4 A5 A6 A7 A8:Option Addr}{i0 i1 i2 i3 i4 i5 i6 i7 most:Int}
set_option maxHeartbeats 2000000 in
theorem sI (hs:SecA k A0 n0 A1 n1 A2 n2 s) (hxl:StateA k A3 n3 A4 n4 A5 n5 x.lo) (hxh:StateA k A6 n6 A7 n7 A8 n8 x.hi)
 (j0:In64 i0) (j1:In64 i1) (j2:In64 i2) (j3:In64 i3) (j4:In64 i4) (j5:In64 i5) (j6:In64 i6) (j7:In64 i7) (_:In64 most) (C:∀k',Up k k'→R k' (.bool true)) :
 Cl k 5 #[S3 A0 n0 d0 A1 n1 d1 A2 n2 d2,S6 A3 n3 d3 A4 n4 d4 A5 n5 d5 A6 n6 d6 A7 n7 d7 A8 n8 d8,.agg #[.int .i64 i0,.int .i64 i1,.int .i64 i2,.int .i64 i3,.int .i64 i4,.int .i64 i5,.int .i64 i6,.int .i64 i7],.int .i64 most] R:=by
 intro k0 u0;replace hs:=hs.up u0;replace hxl:=hxl.up u0;replace hxh:=hxh.up u0;replace C:=fun k' u=>C k' (u0.trans u);have aw:∀k1,Up k0 k1→Cl k1 13 #[] fun k8 r7=>∃b10,some (Value.bool b10)=some r7∧∀k9,Up k8 k9→R k9 (Value.bool b10):=
  fun k1 u1=>yW fun k3 u3=>⟨_,rfl,fun k4 u4=>C k4 ((u1.trans u3).trans u4)⟩
 have P1:=aH 1;have R2:=aN 2;have gml:=uF hxl;have gmh:=uF hxh;have gmr:MagR ⟨ofQ i0 i1,ofQ i2 i3,ofQ i4 i5,ofQ i6 i7⟩:=⟨oI j0 j1,oI j2 j3,oI j4 j5,oI j6 j7⟩;have few_most:∀ {r:PRange},(most≤40∨2000<most)→eQ s x r most=0→most.toNat≤40:=fun h e=>by have:=pJ e;omega
 have hm1:(most≤40∨2000<most)→∀ {r:PRange},eQ s x r most=0→aK 1 3 (1+most.toNat*(1+1))≤90000:=fun h _ e=>by
  have:=few_most h e;unfold aK;omega
 have hm2:(most≤40∨2000<most)→∀ {r:PRange},eQ s x r most=0→aK 2 3 (2+most.toNat*(2+1))≤90000:=fun h _ e=>by
  have:=few_most h e;unfold aK;omega
 have hw1:(most≤40∨2000<most)→∀ {r:PRange},eQ s x r most=0→1+most.toNat*(1+1)≤100:=fun h _ e=>by have:=few_most h e;omega
 have hw2:(most≤40∨2000<most)→∀ {r:PRange},eQ s x r most=0→2+most.toNat*(2+1)≤200:=fun h _ e=>by have:=few_most h e;omega
 refine aIl (aXi (most:=4) hs (by decide) fun k1 b1 u1 hb1=>⟨_,rfl,fun _=>aw k1 u1,fun f1=>?_⟩);refine aHw hxl.temp.1 hxl.cure.1 hxl.spoil.1 hxh.temp.1 hxh.cure.1 hxh.spoil.1 fun k2 b2 u2 hb2=>⟨_,rfl,fun _=>aw k2 (u1.trans u2),fun f2=>?_⟩;have hf:=hb1 (oH f1);obtain⟨fxl,fxh⟩:=hb2 (oH f2);have hd:aI s=0→∀i,i<s.cells.length→(nbm s.links (i:Nat)).length≤3:=fun hE i hi=>by have:=aSo hE hi;have:=hf.cells;omega
 have hc24:aI s=0→s.cells.length≤24:=fun h=>by have:=aU h;unfold bB at this;omega
 have v2:=u1.trans u2;refine⟨fun g=>⟨fun _=>aw k2 v2,fun g'=>?_⟩,fun g=>?_⟩
 all_goals
  have gg:most≤40∨2000<most:=by first|(have:=of_decide_eq_false g';omega)|(have:=of_decide_eq_false g;omega)
  refine aSd (hs.up v2) hf (by decide) fun k5 B0 m0 e0 B1 m1 e1 B2 m2 e2 D0 p0 g0 D1 p1 g1 D2 p2 g2 u5 hp hr=>⟨_,_,_,_,_,_,_,_,_,_,_,_,_,_,_,_,_,_,rfl,?_⟩;have v5:=v2.trans u5;refine aMz (hxl.up v5) (hxh.up v5) fxl fxh fun k6 B3 m3 e3 B4 m4 e4 B5 m5 e5 B6 m6 e6 B7 m7 e7 B8 m8 e8 D3 p3 g3 D4 p4 g4 D5 p5 g5 D6 p6 g6 D7 p7 g7 D8 p8 g8 u6 pxl pxh rxl rxh=>⟨_,_,_,_,_,_,_,_,_,_,_,_,_,_,_,_,_,_,_,_,_,_,_,_,_,_,_,_,_,_,_,_,_,_,_,_,rfl,?_⟩;refine aIj j0 j1 j2 j3 j4 j5 j6 j7 fun k7 c0 c1 c2 c3 o0 o1 o2 o3 u7 pr rr=>⟨_,pr.s0.seg,_,pr.s1.seg,_,pr.a0.seg,_,pr.a1.seg,_,rr.s0.seg,_,rr.s1.seg,_,rr.a0.seg,_,rr.a1.seg,rfl,?_⟩;have w7:=u6.trans u7;refine aLw (K:=1) (T:=1) (W:=100) (d:=3) (b:=x) (SecV.up P1 hp w7) (StateV.up P1 pxl u7) (StateV.up P1 pxh u7) pr hd gml gmh gmr (by decide) (by decide) (by decide) (by decide) (hm1 gg) (by decide) (hw1 gg) fun k8 G0 t0 a0 G1 t1 a1 G2 t2 a2 G3 t3 a3 G4 t4 a4 G5 t5 a5 u8 el eh=>⟨_,_,_,_,_,_,_,_,_,_,_,_,_,_,_,_,_,_,_,_,_,_,rfl,?_⟩;refine aTq (K:=2) (T:=2) (W:=200) (d:=3) (b:=x) (SecV.up R2 hr (w7.trans u8)) (StateV.up R2 rxl (u7.trans u8)) (StateV.up R2 rxh (u7.trans u8)) (RangeV.up R2 rr u8) hd gml gmh gmr (by decide) (by decide) (by decide) (hm2 gg) (by decide) (hw2 gg) fun k9 H0 s0 y0 H1 s1 y1 H2 s2 y2 H3 s3 y3 H4 s4 y4 H5 s5 y5 u9 el' eh'=>⟨_,_,_,_,_,_,_,_,_,_,_,_,_,_,_,_,_,_,_,_,_,_,rfl,fun h=>absurd h aGm,fun _=>⟨fun h=>absurd h same3',fun _=>?_⟩⟩;refine aMu (StateV.up (aH _) el u9) (StateV.up (aH _) eh u9) el' eh' (aHx hc24) (by decide) (by decide) fun k10 u10=>⟨_,rfl,fun h=>absurd h (by decide),fun _=>?_⟩;have v10:=w7.trans (u8.trans (u9.trans u10));have w10:=u7.trans (u8.trans (u9.trans u10));refine aQy (K:=1) (T:=1) (d:=3) (b:=x) (SecV.up P1 hp v10) (StateV.up P1 pxl w10) (StateV.up P1 pxh w10) (RangeV.up P1 pr (u8.trans (u9.trans u10))) hd gml gmh gmr (by decide) (by decide) (by decide) (by decide) (hm1 gg) (by decide) fun k11 u11=>⟨_,_,rfl,?_⟩;refine aVn (K:=2) (T:=2) (d:=3) (b:=x) (SecV.up R2 hr (v10.trans u11)) (StateV.up R2 rxl (w10.trans u11)) (StateV.up R2 rxh (w10.trans u11)) (RangeV.up R2 rr ((u8.trans (u9.trans u10)).trans u11)) hd gml gmh gmr (by decide) (by decide) (by decide) (hm2 gg) (by decide) fun k12 u12=>⟨_,_,rfl,fun _=>⟨fun _=>?_,fun h=>absurd h uW⟩,fun h=>absurd h uW⟩;exact yW fun k13 u13=>⟨_,rfl,fun k14 u14=>C k14 (v5.trans (v10.trans (u11.trans (u12.trans (u13.trans u14)))))⟩
end
