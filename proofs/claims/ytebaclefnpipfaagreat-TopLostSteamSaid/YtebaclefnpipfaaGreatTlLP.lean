/- Several texts in one. (Printed by prep.py.) -/
import Derived.Test.YtebaclefnpipfaaGreatTlDL
namespace Go.Proofs.YtebaclefnpipfaaGreat
theorem aOj {l:List PRate}(h:bL l=0) {i:Nat}(hi:i<l.length):0≤(at_ l i).v:=by
 unfold bL at h;split at h
 ·cases h
 ·have:=dA h i hi;unfold fZ at this;split at this
  ·cases this
  ·split at this
   ·cases this
   ·rename_i hn;exact zt.1 hn
theorem aSj {l:List PRate}(h:bL l=0) (t:Rat):0≤spd l t:=by
 unfold spd;split
 ·exact yw
 ·have h1:upto l t≤l.length:=(List.takeWhile_sublist _).length_le;exact aOj h oq
section
variable {s:PSec}{x:PState}{u v:Rat}
theorem aUr (h:aF s=0) {i:Nat}(hi:i<s.mats.length):bL (at_ s.mats i).cure=0∧bL (at_ s.mats i).spoil=0:=by
 have:=dA (lL h) i hi;unfold nT at this
 by_cases c1:bL (at_ s.mats i).cure=0
 ·rw [oh (by simp [c1])]at this
  by_cases c2:bL (at_ s.mats i).spoil=0
  ·exact⟨c1,c2⟩
  ·rw [og c2]at this;exact absurd this c2
 ·rw [og c1]at this;exact absurd this c1
theorem sQ {B t:Rat}{T:PLink→Rat}:∀(ls:List PLink) (a c:Rat),a≤c*(B-t)→(∀l∈ls,0≤l.v∧T l≤B)→ls.foldl (fun a l=>a+l.v*(T l-t)) a≤ls.foldl (fun c l=>c+l.v) c*(B-t)
 | [],a,c,h,_=>h
 | l :: ls,a,c,h,hl=>by
  obtain⟨h0,h1⟩:=hl l (by simp);rw [vo,vo];refine sQ ls _ _ ?_ fun y hy=>hl y (by simp [hy]);have:=zu (show T l-t≤B-t by grind) h0
  grind
theorem sO {B t:Rat}{T:PLink→Rat}:∀(ls:List PLink) (a c:Rat),c*(B-t)≤a→(∀l∈ls,0≤l.v∧B≤T l)→ls.foldl (fun c l=>c+l.v) c*(B-t)≤ls.foldl (fun a l=>a+l.v*(T l-t)) a
 | [],a,c,h,_=>h
 | l :: ls,a,c,h,hl=>by
  obtain⟨h0,h1⟩:=hl l (by simp);rw [vo,vo];refine sO ls _ _ ?_ fun y hy=>hl y (by simp [hy]);have:=zu (show B-t≤T l-t by grind) h0
  grind
theorem aNt (h:aF s=0) {i:Nat}(hi:i<s.cells.length):tot s.links i ((at_ s.cells i).steam+(at_ s.cells i).air)≤(at_ s.cells i).cap:=by
 have:=dA (aRy h) i hi;unfold qD at this;split at this
 ·cases this
 ·rename_i hn;exact zt.1 hn
theorem aAo (h:aF s=0) {z:PLink}(hz:z∈s.links):0≤z.v:=by
 obtain⟨j,hj,e⟩:=wn hz;rw [←e,←cH hj];exact (aRx h hj).2.2.2
theorem mM (h:aF s=0) {i:Nat}(_hi:i<s.cells.length) {z:PLink}(hz:z∈nbm s.links i):(z.a+z.b-(i:Int)).toNat<s.cells.length:=by
 obtain⟨h1,h2⟩:=lJ hz;have:=fO (eL h) z h1;omega
structure Btw (s:PSec) (x:PState) (u v:Rat) (lo hi:Rat):Prop where
 temp:∀j,j<s.cells.length→lo≤at_ x.temp j∧at_ x.temp j≤hi
 steam:∀j,j<s.cells.length→(at_ s.cells j).steam≠0→lo≤u∧u≤hi
 air:∀j,j<s.cells.length→(at_ s.cells j).air≠0→lo≤v∧v≤hi
theorem tM {w T B t:Rat}(hw:0≤w) (h:w≠0→T≤B):w*(T-t)≤w*(B-t):=by
 by_cases c:w=0
 ·rw [c];grind
 ·exact zu (by have:=h c;grind) hw
theorem tL {w T B t:Rat}(hw:0≤w) (h:w≠0→B≤T):w*(B-t)≤w*(T-t):=by
 by_cases c:w=0
 ·rw [c];grind
 ·exact zu (by have:=h c;grind) hw
theorem yR {lo hi:Rat}(h:aF s=0) (hb:Btw s x u v lo hi) {i:Nat}(hi':i<s.cells.length):lo≤fQ s x u v i∧fQ s x u v i≤hi:=by
 obtain⟨_,_,hc,hs,ha⟩:=iH h hi';have ht:=aNt h hi';obtain⟨b0,b1⟩:=hb.temp i hi';have hne:(at_ s.cells i).cap≠0:=fun e=>by rw [e]at hc;exact absurd hc oz
 have hd:flow s x u v i/(at_ s.cells i).cap*(at_ s.cells i).cap=flow s x u v i:=ko hne;have nb:∀l∈nbm s.links (i:Int),0≤l.v∧(lo≤at_ x.temp (l.a+l.b-(i:Int)).toNat∧at_ x.temp (l.a+l.b-(i:Int)).toNat≤hi):=fun l hl=>⟨aAo h (lJ hl).1,hb.temp _ (mM h hi' hl)⟩;have up:flow s x u v i≤tot s.links i ((at_ s.cells i).steam+(at_ s.cells i).air)*(hi-at_ x.temp i):=by
  refine sQ _ _ _ ?_ fun l hl=>⟨(nb l hl).1,(nb l hl).2.2⟩;have p:=tM (T:=u) (B:=hi) (t:=at_ x.temp i) hs fun e=>(hb.steam i hi' e).2;have q:=tM (T:=v) (B:=hi) (t:=at_ x.temp i) ha fun e=>(hb.air i hi' e).2
  grind
 have dn:tot s.links i ((at_ s.cells i).steam+(at_ s.cells i).air)*(lo-at_ x.temp i)≤flow s x u v i:=by
  refine sO _ _ _ ?_ fun l hl=>⟨(nb l hl).1,(nb l hl).2.1⟩;have p:=tL (T:=u) (B:=lo) (t:=at_ x.temp i) hs fun e=>(hb.steam i hi' e).1;have q:=tL (T:=v) (B:=lo) (t:=at_ x.temp i) ha fun e=>(hb.air i hi' e).1
  grind
 have up2:=vq ht (show 0≤hi-at_ x.temp i by grind);have dn2:=vq ht (show 0≤at_ x.temp i-lo by grind);unfold fQ;constructor
 ·by_cases c:lo≤at_ x.temp i+flow s x u v i/(at_ s.cells i).cap
  ·exact c
  ·have hp:0<((lo-at_ x.temp i)-flow s x u v i/(at_ s.cells i).cap)*(at_ s.cells i).cap:=Rat.mul_pos (by grind) hc
   grind
 ·by_cases c:at_ x.temp i+flow s x u v i/(at_ s.cells i).cap≤hi
  ·exact c
  ·have hp:0<(flow s x u v i/(at_ s.cells i).cap-(hi-at_ x.temp i))*(at_ s.cells i).cap:=Rat.mul_pos (by grind) hc
   grind
end
open Go.RowKit Num W32
open Sy (Up Sees CallsG Seg)
def MM:Int:=9223372036854775808
def Mag (q:Rat):Prop:=((-MM:Int):Rat)≤q∧q≤((MM:Int):Rat)
def Sm (q:Rat):Prop:=∃a:Int,q=mkRat a (2^40)∧-(MM*2^40)≤a∧a≤MM*2^40
theorem aMx {q:Rat}{m:Int}:(m:Rat)≤q↔m*q.den≤q.num:=by
 rw [Rat.le_iff];simp
theorem aMp {q:Rat}{m:Int}:q≤(m:Rat)↔q.num≤m*q.den:=by
 rw [Rat.le_iff];simp
theorem Mag.neg {q:Rat}(h:Mag q):Mag (-q):=by
 obtain⟨h1,h2⟩:=h;constructor
 ·have:=Rat.neg_le_neg h2
  rwa [←wv]at this
 ·have:=Rat.neg_le_neg h1
  rwa [←wv,Int.neg_neg]at this
theorem Sm.neg {q:Rat}(h:Sm q):Sm (-q):=by
 obtain⟨a,rfl,h1,h2⟩:=h;exact⟨-a,(tD _ _).symm,oq,oq⟩
theorem Sm.mag {q:Rat}(h:Sm q):Mag q:=by
 obtain⟨a,rfl,h1,h2⟩:=h;have e:∀m:Int,(m:Rat)=mkRat (m*2^40) (2^40):=fun m=>by
  rw [kP];have:(((2^40:Nat):Int):Rat)≠0:=by decide +kernel
  rw [show ((m*2^40:Int):Rat)=(m:Rat)*(((2^40:Nat):Int):Rat) from zp m ((2^40:Nat):Int)];exact (Rat.mul_div_cancel this).symm
 have le:∀x y:Int,x≤y→mkRat x (2^40)≤mkRat y (2^40):=fun x y h=>by
  rw [kP,kP,Rat.div_def,Rat.div_def];exact vq (xx.2 h) (by decide +kernel)
 exact⟨by rw [e];exact le _ _ (by rw [Int.neg_mul];exact h1),by rw [e];exact le _ _ h2⟩
theorem aAg {q:Rat}(h:Mag q):Sm (jN q):=by
 obtain⟨h1,h2⟩:=h;rw [aMx]at h1;rw [aMp]at h2;have hd:(0:Int)<q.den:=by have:=q.den_pos;omega
 refine⟨q.num*((2^40:Nat):Int) / (q.den:Int),rfl,?_,?_⟩
 ·rw [Int.le_ediv_iff_mul_le hd];have:=Int.mul_le_mul_of_nonneg_right h1 (show (0:Int)≤2^40 by decide);rw [show -(MM*2^40)*(q.den:Int)=-MM*q.den*2^40 by rw [←Int.neg_mul,Int.mul_right_comm]];exact this
 ·refine Int.ediv_le_of_le_mul hd ?_;have:=Int.mul_le_mul_of_nonneg_right h2 (show (0:Int)≤2^40 by decide);rw [show MM*2^40*(q.den:Int)=MM*q.den*2^40 by rw [Int.mul_right_comm]];exact this
theorem aQf {q:Rat}(h:Mag q):Sm (pQ q):=(aAg h.neg).neg
theorem Sm.wd {q:Rat}(h:Sm q):Wd q 2:=by
 obtain⟨a,e,h1,h2⟩:=h;refine⟨a,2^40,oz,e,?_,oz⟩;unfold MM at h1 h2;have:B64^2=340282366920938463463374607431768211456:=oz
 rw [this];omega
theorem Lst.monoI {α:Type}[Inhabited α] {k:World}{A:Option Addr}{n s:Nat}{P Q:Array Value→α→Prop}{l:List α}(h:Lst k A n s P l) (hP:∀i a,i<l.length→P a (at_ l i)→Q a (at_ l i)):Lst k A n s Q l:=by
 obtain⟨e,xs,h1,h2,h3⟩:=h;exact⟨e,xs,h1,h2,Arr.mono h3 fun i a hi h=>hP i a oq h⟩
theorem StateW.tightP {k:World}{A B C:Option Addr}{n n' n'' W T:Nat}{x:PState}(h:StateW (NP W) (NP T) k A n B n' C n'' x) (hs:∀i,i<x.temp.length→Sm (at_ x.temp i)) (hT:2≤T):StateV (NP T) k A n B n' C n'' x:=
 ⟨h.temp.monoI fun i _ hi g=>(g.cut (hs i hi).wd).mono hT,h.cure,h.spoil⟩
def xE (x:PState):Prop:=∀i,i<x.temp.length→Mag (at_ x.temp i)
structure MagR (r:PRange):Prop where
 s0:Mag r.s0
 s1:Mag r.s1
 a0:Mag r.a0
 a1:Mag r.a1
theorem uJ {s:PSec}{x:PState}{u v:Rat}(hE:aF s=0) (hz:sized s x) (h:xE x) (hu:Mag u) (hv:Mag v) {i:Nat}(hi:i<s.cells.length):Mag (fQ s x u v i):=
 yR hE ⟨fun j hj=>h j (by rw [hz.1];exact hj),fun _ _ _=>hu,fun _ _ _=>hv⟩ hi
theorem aKv {s:PSec}{b:PBand}{r:PRange}(hE:aF s=0) (hz:sized s b.lo) (hz':sized s b.hi) (h:xE b.lo) (h':xE b.hi) (hr:MagR r) :
 (∀i,i<(jI s b r).lo.temp.length→Sm (at_ (jI s b r).lo.temp i))∧∀i,i<(jI s b r).hi.temp.length→Sm (at_ (jI s b r).hi.temp i):=by
 constructor
 ·intro i hi;have hi:i<s.cells.length:=by simpa [jI,dJ] using hi
  rw [show at_ (jI s b r).lo.temp i=jN (fQ s b.lo r.s0 r.a0 i) from aP hi];exact aAg (uJ hE hz h hr.s0 hr.a0 hi)
 ·intro i hi;have hi:i<s.cells.length:=by simpa [jI,dJ] using hi
  rw [show at_ (jI s b r).hi.temp i=pQ (fQ s b.hi r.s1 r.a1 i) from aP hi];exact aQf (uJ hE hz' h' hr.s1 hr.a1 hi)
def advN (s:PSec) (r:PRange):Nat→PBand→PBand
 | 0,b=>b
 | k+1,b=>jI s (advN s r k b) r
structure OkB (s:PSec) (b:PBand):Prop where
 lo:sized s b.lo
 hi:sized s b.hi
 magl:xE b.lo
 magh:xE b.hi
theorem OkB.adv {s:PSec}{b:PBand}{r:PRange}(hE:aF s=0) (hr:MagR r) (h:OkB s b):OkB s (jI s b r):=by
 obtain⟨h1,h2⟩:=aKv hE h.lo h.hi h.magl h.magh hr;exact⟨qQ,qQ,fun i hi=>(h1 i hi).mag,fun i hi=>(h2 i hi).mag⟩
theorem OkB.advN {s:PSec}{b:PBand}{r:PRange}(hE:aF s=0) (hr:MagR r) (h:OkB s b):∀k,OkB s (advN s r k b)
 | 0=>h
 | k+1=>(OkB.advN hE hr h k).adv hE hr
def xT (p:Nat→Bool):Nat→Nat
 | 0=>0
 | n+1=>if xT p n<n then xT p n else if p n=true then n else n+1
def aQu (s:PSec) (b:PBand) (r:PRange) (most:Int):Int:=if rT s b r≠0 then rT s b r else if most<0∨2000<most then 1 else 0
def aHq (s:PSec) (b:PBand) (r:PRange) (most:Nat):Nat:=xT (fun k=>decide (iB s (advN s r k b).lo)) (most+1)
def aWk (s:PSec) (b:PBand) (r:PRange):Nat→Int
 | 0=>-1
 | k+1=>jY s (advN s r k b).lo
structure Cyc where
 (steps slow fast:Int) (fin:PBand) (e:Int)
def aTh (e:Int):Cyc:=⟨0,0,0,⟨rK,rK⟩,e⟩
def aXg (s:PSec) (b:PBand) (r:PRange) (most:Int):Cyc:=
 if aQu s b r most≠0 then aTh (aQu s b r most)
 else if most<aHq s b r most.toNat then aTh 5
 else ⟨aHq s b r most.toNat,aWk s b r (aHq s b r most.toNat),aAd s (advN s r (aHq s b r most.toNat) b).hi,advN s r (aHq s b r most.toNat) b,if aU s (advN s r (aHq s b r most.toNat) b).hi then 61 else 0⟩
def aWh (s:PSec) (b:PBand) (r:PRange) (most:Nat):Nat:=xT (fun k=>decide (aU s (advN s r (k+1) b).hi)) most
def aXe (s:PSec) (b:PBand) (r:PRange) (most:Int):Int×Int:=
 if aQu s b r most≠0 then (0,aQu s b r most) else if aU s b.hi then (0,61) else (aWh s b r most.toNat,0)
theorem aEq {K d T T':Nat}(h:T≤T'):bA K d T≤bA K d T':=by
 unfold bA;have:=qr d (show K+2*T+2≤K+2*T'+2 by omega);omega
theorem kW {s:PSec}{x:PState}(hz:sized s x) (h:s.cells.length≤24):uE x:=by
 obtain⟨z1,z2,z3⟩:=hz;exact⟨oq,oq,oq⟩
section
variable {k k':World}{R:World→Value→Prop}{c0 c1 c2 c3:Array Value}{s:PSec}{b:PBand}{r:PRange}{K L T W d n0 n1 n2 d0 d1 d2 n3 n4 n5 d3 d4 d5 n6 d6 n7 d7 n8 d8:Nat}{A0 A1 A2 A3 A4 A5 A6 A7 A8:Option Addr}{most:Int}
theorem aLj (hl:StateV (NP T) k A3 n3 A4 n4 A5 n5 b.lo) (hh:StateV (NP T) k A6 n6 A7 n7 A8 n8 b.hi) (hn:uE b.lo) (hn':uE b.hi)
 (C:∀k' B0 m0 e0 B1 m1 e1 B2 m2 e2 B3 m3 e3 B4 m4 e4 B5 m5 e5,Up k k'→StateV (NP T) k' B0 m0 B1 m1 B2 m2 b.lo→StateV (NP T) k' B3 m3 B4 m4 B5 m5 b.hi→R k' (S6 B0 m0 e0 B1 m1 e1 B2 m2 e2 B3 m3 e3 B4 m4 e4 B5 m5 e5)) :
 Cl k 38 #[S6 A3 n3 d3 A4 n4 d4 A5 n5 d5 A6 n6 d6 A7 n7 d7 A8 n8 d8] R:=by
 intro k0 u0;have hM:=aD T;refine aGt (oP (StateV.up hM hl u0) (by rw [hl.temp.1];exact hn.1) (by rw [hl.cure.1];exact hn.2.1) (by rw [hl.spoil.1];exact hn.2.2) fun k1 B0 e0 B1 e1 B2 e2 u1 h1=>⟨_,_,_,_,_,_,_,_,_,rfl,?_⟩);refine oP (StateV.up hM hh (u0.trans u1)) (by rw [hh.temp.1];exact hn'.1) (by rw [hh.cure.1];exact hn'.2.1) (by rw [hh.spoil.1];exact hn'.2.2) fun k3 B3 e3 B4 e4 B5 e5 u3 h3=>⟨_,_,_,_,_,_,_,_,_,rfl,fun k4 u4=>?_⟩;exact C k4 _ _ _ _ _ _ _ _ _ _ _ _ _ _ _ _ _ _ ((u0.trans u1).trans (u3.trans u4)) (StateV.up hM h1 (u3.trans u4)) (StateV.up hM h3 u4)
end
open IntKind (wrap)
open Sy (Up Sees CallsG Seg ReadAt)
structure PPhase where
 (steps:Int) (r:PRange)
instance:Inhabited PPhase:=⟨⟨0,⟨0,0,0,0⟩⟩⟩
def phE (p:PPhase):Int:=if p.steps<0 then 1 else eM p.r
def dM:List PPhase→Int
 | []=>0
 | p :: l=>p.steps+dM l
def yF (l:List PPhase):Int:=if 16<l.length then 4 else if gB (fun i=>phE (at_ l i)) l.length≠0 then gB (fun i=>phE (at_ l i)) l.length else if 2000<dM l then 4 else 0
def advL (s:PSec) (rs:List PRange) (b:PBand):PBand:=rs.foldl (jI s) b
def iW:List PPhase→List PRange
 | []=>[]
 | p :: l=>List.replicate p.steps.toNat p.r++iW l
def mL (s:PSec) (b:PBand) (l:List PPhase):Int:=if cQ s b≠0 then cQ s b else yF l
def aId (s:PSec) (b:PBand) (l:List PPhase):PBand:=uR (mL s b l) (advL s (iW l) b)
theorem aBv (l m:List PPhase):dM (l++m)=dM l+dM m:=by
 induction l with
 | nil=>simp [dM]
 | cons p l ih=>simp only [kj,dM,ih];omega
theorem aIb (l m:List PPhase):iW (l++m)=iW l++iW m:=by
 induction l with
 | nil=>rfl
 | cons p l ih=>simp [iW,ih]
theorem aGf {α:Type}[Inhabited α] {l:List α}{j:Nat}(h:j<l.length):l.take (j+1)=l.take j++[at_ l j]:=by
 rw [jd h,cH h]
theorem wZ {l:List PPhase}{j:Nat}(h:j<l.length):dM (l.take (j+1))=dM (l.take j)+(at_ l j).steps:=by
 rw [aGf h,aBv];simp [dM]
theorem aBw {l:List PPhase}(h:∀p∈l,0≤p.steps):0≤dM l:=by
 induction l with
 | nil=>exact Int.le_refl 0
 | cons p l ih=>have:=h p (by simp);have:=ih fun q hq=>h q (by simp [hq]);simp only [dM];omega
theorem rP {l:List PPhase}(h:∀j,j<l.length→0≤(at_ l j).steps) (i:Nat):0≤dM (l.take i)∧dM (l.take i)≤dM l:=by
 have hm:∀p∈l,0≤p.steps:=fun p hp=>by
  obtain⟨j,hj,rfl⟩:=wn hp;rw [←cH hj];exact h j hj
 have h1:=aBw fun p (hp:p∈l.take i)=>hm p (List.mem_of_mem_take hp);have h2:=aBw fun p (hp:p∈l.drop i)=>hm p (List.mem_of_mem_drop hp);have h3:=aBv (l.take i) (l.drop i);rw [List.take_append_drop]at h3;omega
theorem aIc {l:List PPhase}(h:∀j,j<l.length→0≤(at_ l j).steps):((iW l).length:Int)=dM l:=by
 induction l with
 | nil=>rfl
 | cons p l ih=>
  have h0:=h 0 (by simp);have:=ih fun j hj=>h (j+1) (by simpa using hj);simp only [iW,dM,qg,zo];have e:(at_ (p :: l) 0)=p:=rfl;rw [e]at h0;omega
theorem aTi {p:PPhase}(h:phE p=0):0≤p.steps∧eM p.r=0:=by
 unfold phE at h;split at h
 ·cases h
 ·exact⟨oq,h⟩
theorem aUt {l:List PPhase}(h:yF l=0):l.length≤16∧(∀j,j<l.length→phE (at_ l j)=0)∧dM l≤2000:=by
 unfold yF at h;split at h
 ·cases h
 ·split at h
  ·rename_i h1;exact absurd h h1
  ·rename_i h0 h1;split at h
   ·cases h
   ·exact⟨oq,dA (vu.1 h1),oq⟩
theorem aUe {s:PSec}{b:PBand}{l:List PPhase}(h:mL s b l=0):cQ s b=0∧yF l=0:=by
 unfold mL at h;split at h
 ·rename_i h1;exact absurd h h1
 ·rename_i h1;exact⟨vu.1 h1,h⟩
theorem OkB.advL {s:PSec}(hE:aF s=0):∀ {rs:List PRange}{b:PBand},(∀r∈rs,MagR r)→OkB s b→OkB s (advL s rs b)
 | [],_,_,h=>h
 | r :: rs,_,hr,h=>OkB.advL hE (rs:=rs) (fun q hq=>hr q (by simp [hq])) (h.adv hE (hr r (by simp)))
theorem uX {s:PSec}{rs:List PRange}{r:PRange}{b:PBand}:advL s (rs++[r]) b=jI s (advL s rs b) r:=by simp [_root_.Go.Proofs.YtebaclefnpipfaaGreat.advL]
def PhV (N:World→Array Value→Rat→Prop) (k:World) (a:Array Value) (p:PPhase):Prop:=∃c0 c1 c2 c3,a=((Value.int .i64 p.steps) :: (c0.toList++(c1.toList++(c2.toList++(c3.toList++[]))))).toArray∧RangeV N k c0 c1 c2 c3 p.r
theorem PhV.seg {N:World→Array Value→Rat→Prop}(hN:Num3 N) {k:World}{a:Array Value}{p:PPhase}(h:PhV N k a p):Seg 13 a:=by
 obtain⟨c0,c1,c2,c3,rfl,h⟩:=h;have s0:=hN.seg h.s0;have s1:=hN.seg h.s1;have s2:=hN.seg h.a0;have s3:=hN.seg h.a1;refine⟨by simp [s0.1,s1.1,s2.1,s3.1],fun u hu=>?_⟩;simp only [List.append_nil,List.mem_cons,List.mem_append]at hu;rcases hu with rfl|hu|hu|hu|hu
 ·exact⟨rfl,rfl⟩
 ·exact s0.2 u hu
 ·exact s1.2 u hu
 ·exact s2.2 u hu
 ·exact s3.2 u hu
theorem PhV.up {N:World→Array Value→Rat→Prop}(hN:Num3 N) {k k':World}{a:Array Value}{p:PPhase}(h:PhV N k a p) (u:Up k k'):PhV N k' a p:=by
 obtain⟨c0,c1,c2,c3,e,h⟩:=h;exact⟨c0,c1,c2,c3,e,RangeV.up hN h u⟩
section
variable {k k':World}{R:World→Value→Prop}{l:List PPhase}{s:PSec}{b:PBand}{K T n0 n1 n2 n3 n4 n5 n6 n7 n8 n9 d0 d1 d2 d3 d4 d5 d6 d7 d8 d9:Nat}{A0 A1 A2 A3 A4 A5 A6 A7 A8 A9:Option Addr}
theorem tN {N:World→Array Value→Rat→Prop}(hN:Num3 N) (h:Lst k A9 n9 13 (PhV N k) l) (u:Up k k'):Lst k' A9 n9 13 (PhV N k') l:=h.up u fun _ _ h=>PhV.up hN h u
theorem aUc (hl:Lst k A9 n9 13 (PhV (NP K) k) l) (hK1:1≤K) (hK:K≤300000000) (C:∀k',Up k k'→R k' (.int .i64 (yF l))) :
 Cl k 71 #[.slice A9 n9 d9] R:=by
 intro k0 u0;have hN:=aD K;replace hl:=tN hN hl u0;replace C:=fun k' u=>C k' (u0.trans u);have hn:=hl.1;refine aQl ⟨rfl,fun h k1 u1=>?_,fun h=>⟨rfl,?_⟩⟩
 ·have:=C k1 u1;unfold yF at this
  rwa [og (by have:=ow h;omega)]at this
 have h:=ov h;have h16:¬ 16<l.length:=oq
 refine⟨fun m k vs=>∃j:Nat,j+m=n9∧vs=[.int .i64 j]∧∀i,i<j→phE (at_ l i)=0,⟨n9,fun k1 u1=>⟨0,oq,rfl,fun i hi=>oq⟩⟩,?_⟩;rintro m k1 vs u1 ⟨j,hj,rfl,hz⟩;have hl1:=tN hN hl u1;refine⟨j,rfl,fun hlt=>?_,fun hge=>?_⟩
 ·have hlt:=aL hlt;obtain⟨a,_,⟨c0,c1,c2,c3,rfl,hr⟩,ha,hb,hrd,_⟩:=hl1.el (i:=j) oq oz;have stop:∀(e:Int),e≠0→phE (at_ l j)=e→∀k',Up k1 k'→R k' (.int .i64 e):=fun e he h k' u=>by
   have:=C k' (u1.trans u);unfold yF at this;have hf:gB (fun i=>phE (at_ l i)) l.length=e:=jO hz h he oq
   rwa [oh h16,og (by rw [hf];exact he),hf]at this
  refine⟨ha,hb,_,c0,hr.s0.seg,c1,hr.s1.seg,c2,hr.a0.seg,c3,hr.a1.seg,hrd k1 (Up.refl _),fun hp k2 u2=>?_,fun hp=>?_⟩
  ·exact stop 1 oz (by unfold phE;rw [og (ow hp)]) k2 u2
  ·have hp:=ov hp;refine aLv hr hK1 hK fun k4 u4=>⟨_,rfl,fun f k5 u5=>?_,fun f k6 u6=>?_⟩
   ·exact stop _ (cV f) (by unfold phE;rw [oh hp]) k5 (u4.trans u5)
   ·exact⟨m-1,oq,j+1,oq,by rw [aH oq],dZ hz (by unfold phE;rw [oh hp];exact cU f)⟩
 ·have hge:=aM hge;have hz':∀i,i<l.length→phE (at_ l i)=0:=fun i hi=>hz i oq;have hst:∀i,i<l.length→0≤(at_ l i).steps:=fun i hi=>(aTi (hz' i hi)).1;have hf:¬ gB (fun i=>phE (at_ l i)) l.length≠0:=by rw [dN hz'];simp
  replace C:=fun k' u=>C k' (u1.trans u);unfold yF at C;rw [oh h16,oh hf]at C;refine⟨rfl,fun m k vs=>∃j:Nat,j+m=n9∧vs=[.int .i64 (2000-dM (l.take j)),.int .i64 j]∧dM (l.take j)≤2000,⟨n9,fun k7 u7=>⟨0,oq,rfl,by simp [dM]⟩⟩,?_⟩;rintro m' k7 vs u7 ⟨i,hi,rfl,hle⟩;refine⟨_,_,rfl,fun hlt=>?_,fun hge=>?_⟩
  ·have hlt:=aL hlt;obtain⟨a,_,⟨c0,c1,c2,c3,rfl,hr⟩,ha,hb,hrd,_⟩:=(tN hN hl1 u7).el (i:=i) oq oz;have hs:=wZ (l:=l) (j:=i) oq;have h0:=hst i oq;have hall:=rP hst (i+1);have hall0:=rP hst i;refine⟨ha,hb,_,c0,hr.s0.seg,c1,hr.s1.seg,c2,hr.a0.seg,c3,hr.a1.seg,hrd k7 (Up.refl _),fun hp k8 u8=>?_,fun hp k9 u9=>?_⟩
   ·have hp:=ow hp;have:=C k8 (u7.trans u8)
    rwa [og oq]at this
   ·have hp:=ov hp;refine⟨m'-1,oq,i+1,oq,?_,oq⟩;rw [aH oq,show wrap .i64 (2000-dM (l.take i)-(at_ l i).steps)=2000-dM (l.take (i+1)) by rw [jm];omega]
  ·have hge:=aM hge;intro k10 u10;have:=C k10 (u7.trans u10);rw [zd oq]at hle
   rwa [oh oq]at this
theorem aFj (hs:SecV (NP K) k A0 n0 A1 n1 A2 n2 s) (hl:StateV (NP T) k A3 n3 A4 n4 A5 n5 b.lo) (hh:StateV (NP T) k A6 n6 A7 n7 A8 n8 b.hi) (hp:Lst k A9 n9 13 (PhV (NP K) k) l) (hK1:1≤K) (hK:K≤1000000) (hT1:1≤T) (hT:T≤300000000)
 (C:∀k',Up k k'→R k' (.int .i64 (mL s b l))) :
 Cl k 37 #[.agg #[.slice A0 n0 d0,.slice A1 n1 d1,.slice A2 n2 d2],.agg #[.slice A3 n3 d3,.slice A4 n4 d4,.slice A5 n5 d5,.slice A6 n6 d6,.slice A7 n7 d7,.slice A8 n8 d8],.slice A9 n9 d9] R:=by
 intro k0 u0;have hN:=aD K;have hNT:=aD T;replace C:=fun k' u=>C k' (u0.trans u);unfold mL at C;refine aLi (aFi (SecV.up hN hs u0) (StateV.up hNT hl u0) (StateV.up hNT hh u0) hK1 hK hT1 hT fun k1 u1=>⟨_,rfl,fun f k2 u2=>?_,fun f=>?_⟩)
 ·have:=C k2 (u1.trans u2)
  rwa [og (cV f)]at this
 ·refine aUc (tN hN hp (u0.trans u1)) hK1 oq fun k4 u4=>⟨_,rfl,fun k5 u5=>?_⟩;have:=C k5 (u1.trans (u4.trans u5))
  rwa [oh (by rw [cU f];simp)]at this
end
theorem yE {q:Rat}:q*((q.den:Int):Rat)=(q.num:Rat):=by
 have hd:((q.den:Int):Rat)≠0:=fun e=>by have:=q.den_pos;have:=Rat.intCast_eq_zero_iff.1 e;omega
 have:=ko (a:=(q.num:Rat)) hd
 rwa [←kP,uj]at this
theorem pow40:(0:Rat)<(((2^40:Nat):Int):Rat):=by decide +kernel
theorem scaled {m:Int}{q:Rat}:(m:Rat)≤q*(((2^40:Nat):Int):Rat)↔m*(q.den:Int)≤q.num*((2^40:Nat):Int):=by
 have hd:(0:Rat)<((q.den:Int):Rat):=Rat.intCast_pos.2 (by have:=q.den_pos;omega);have e:q*(((2^40:Nat):Int):Rat)*((q.den:Int):Rat)=((q.num*((2^40:Nat):Int):Int):Rat):=by
  rw [show q*(((2^40:Nat):Int):Rat)*((q.den:Int):Rat)=q*((q.den:Int):Rat)*(((2^40:Nat):Int):Rat) by grind,yE,zp]
 constructor
 ·intro h;have:=vq h (Rat.le_of_lt hd);rw [e,←zp]at this;exact xx.1 this
 ·intro h;have h2:((m*(q.den:Int):Int):Rat)≤((q.num*((2^40:Nat):Int):Int):Rat):=xx.2 h;rw [←e,zp]at h2
  by_cases c:(m:Rat)≤q*(((2^40:Nat):Int):Rat)
  ·exact c
  ·have:=Rat.mul_pos (show (0:Rat)<(m:Rat)-q*(((2^40:Nat):Int):Rat) by grind) hd
   grind
theorem mk40 {m:Int}{q:Rat}:mkRat m (2^40)≤q↔(m:Rat)≤q*(((2^40:Nat):Int):Rat):=by
 have hp:=pow40;have e:mkRat m (2^40)*(((2^40:Nat):Int):Rat)=(m:Rat):=by
  rw [kP];exact ko (by decide +kernel)
 constructor
 ·intro h;have:=vq h (Rat.le_of_lt hp)
  rwa [e]at this
 ·intro h
  by_cases c:mkRat m (2^40)≤q
  ·exact c
  ·have:=Rat.mul_pos (show (0:Rat)<mkRat m (2^40)-q by grind) hp
   grind
theorem vW (q:Rat):jN q≤q:=by
 have hd:(0:Int)<q.den:=by have:=q.den_pos;omega
 exact mk40.2 (scaled.2 (Int.ediv_mul_le _ oq))
theorem aLl (q:Rat):q≤pQ q:=by
 have:=vW (-q);show q≤-jN (-q)
 grind
theorem tR {l:List PRate}(h:bL l=0) {i:Nat}:∀ {j:Nat},i≤j→j<l.length→(at_ l i).v≤(at_ l j).v
 | 0,hij,_=>by obtain rfl:i=0:=oq
               exact yw
 | j+1,hij,hj=>by
  by_cases e:i=j+1
  ·subst e;exact yw
  ·refine ww (tR h (j:=j) oq oq) ?_;unfold bL at h;split at h
   ·cases h
   ·have:=dA h (j+1) hj;unfold fZ at this;split at this
    ·cases this
    ·split at this
     ·cases this
     ·split at this
      ·cases this
      ·rename_i hn;have:=zt.1 fun hlt=>hn ⟨Nat.succ_pos j,hlt⟩
       rwa [xp]at this
theorem xD {t t':Rat}(h:t≤t'):∀l:List PRate,upto l t≤upto l t'
 | []=>oy _
 | r :: l=>by
  have ih:=xD h l;unfold upto at ih ⊢
  by_cases c:r.f≤t
  ·have c':=ww c h;rw [List.takeWhile_cons,List.takeWhile_cons,og (by simpa using c),og (by simpa using c')];simp only [ze];omega
  ·rw [List.takeWhile_cons,oh (by simpa using c)];exact jb _
theorem aBs {l:List PRate}(h:bL l=0) {t t':Rat}(ht:t≤t'):spd l t≤spd l t':=by
 have hu:=xD ht l;have h1:upto l t'≤l.length:=(List.takeWhile_sublist _).length_le
 by_cases c:upto l t=0
 ·have:=aSj h t';rw [show spd l t=0 from og c];exact this
 ·rw [show spd l t=_ from oh c,show spd l t'=_ from oh (show ¬ upto l t'=0 by omega)];exact tR h oq oq
theorem vX {tx ty:Rat}{X Y:PLink→Rat}:∀(ls:List PLink) (a b c:Rat),a+c*(tx-ty)≤b→(∀l∈ls,0≤l.v∧X l≤Y l)→
 ls.foldl (fun a l=>a+l.v*(X l-tx)) a+ls.foldl (fun c l=>c+l.v) c*(tx-ty)≤ls.foldl (fun b l=>b+l.v*(Y l-ty)) b
 | [],_,_,_,h,_=>h
 | l :: ls,a,b,c,h,hl=>by
  obtain⟨h0,h1⟩:=hl l (by simp);rw [vo,vo,vo];refine vX ls _ _ _ ?_ fun y hy=>hl y (by simp [hy]);have:=zu (show X l-ty≤Y l-ty by grind) h0
  grind
section
variable {s:PSec}{x y:PState}{u v u' v':Rat}{b b':PBand}{r r':PRange}
theorem aKf (h:aF s=0) (hT:∀j,j<s.cells.length→at_ x.temp j≤at_ y.temp j) (hu:u≤u') (hv:v≤v') {i:Nat}(hi:i<s.cells.length):fQ s x u v i≤fQ s y u' v' i:=by
 obtain⟨_,_,hc,hs,ha⟩:=iH h hi;have ht:=aNt h hi;have hne:(at_ s.cells i).cap≠0:=fun e=>by rw [e]at hc;exact absurd hc oz
 have dx:flow s x u v i/(at_ s.cells i).cap*(at_ s.cells i).cap=flow s x u v i:=ko hne;have dy:flow s y u' v' i/(at_ s.cells i).cap*(at_ s.cells i).cap=flow s y u' v' i:=ko hne;have hf:flow s x u v i+tot s.links i ((at_ s.cells i).steam+(at_ s.cells i).air)*(at_ x.temp i-at_ y.temp i)≤flow s y u' v' i:=by
  refine vX _ _ _ _ ?_ fun l hl=>⟨aAo h (lJ hl).1,hT _ (mM h hi hl)⟩;have p:=zu (show u-at_ y.temp i≤u'-at_ y.temp i by grind) hs;have q:=zu (show v-at_ y.temp i≤v'-at_ y.temp i by grind) ha
  grind
 have h0:=hT i hi;have up:=vq ht (show 0≤at_ y.temp i-at_ x.temp i by grind);unfold fQ
 by_cases c:at_ x.temp i+flow s x u v i/(at_ s.cells i).cap≤at_ y.temp i+flow s y u' v' i/(at_ s.cells i).cap
 ·exact c
 ·have hp:0<(at_ x.temp i-at_ y.temp i+flow s x u v i/(at_ s.cells i).cap-flow s y u' v' i/(at_ s.cells i).cap)*(at_ s.cells i).cap:=Rat.mul_pos (by grind) hc
  grind
theorem vO (h:aF s=0) {i:Nat}(hi:i<s.cells.length) (hT:at_ x.temp i≤at_ y.temp i) (hC:at_ x.cure i≤at_ y.cure i) (hS:at_ x.spoil i≤at_ y.spoil i):pU s x i≤pU s y i∧kY s x i≤kY s y i:=by
 obtain⟨h0,h1,_⟩:=iH h hi;have hm:=aUr h (i:=(at_ s.cells i).m.toNat) oq;have a:=aBs hm.1 hT;have b:=aBs hm.2 hT;unfold pU kY;constructor <;> grind
structure Und (n:Nat) (x y:PState):Prop where
 temp:∀i,i<n→at_ x.temp i≤at_ y.temp i
 cure:∀i,i<n→at_ x.cure i≤at_ y.cure i
 spoil:∀i,i<n→at_ x.spoil i≤at_ y.spoil i
theorem Und.trans {n:Nat}{z:PState}(h:Und n x y) (h':Und n y z):Und n x z:=⟨fun i hi=>ww (h.temp i hi) (h'.temp i hi),fun i hi=>ww (h.cure i hi) (h'.cure i hi),fun i hi=>ww (h.spoil i hi) (h'.spoil i hi)⟩
theorem gM (hx:sized s x) (hy:sized s y):iR x y↔Und s.cells.length x y:=by
 obtain⟨x1,x2,x3⟩:=hx;obtain⟨y1,y2,y3⟩:=hy;constructor
 ·rintro⟨_,h1,h2,h3⟩;exact⟨fun i hi=>zt.1 (h1 i oq),fun i hi=>zt.1 (h2 i oq),fun i hi=>zt.1 (h3 i oq)⟩
 ·intro h;exact⟨⟨oq,oq,oq⟩,fun i hi=>zt.2 (h.temp i oq),fun i hi=>zt.2 (h.cure i oq),fun i hi=>zt.2 (h.spoil i oq)⟩
theorem pF (h:aF s=0) (hU:Und s.cells.length x y) (hu:u≤u') (hv:v≤v'):Und s.cells.length (bS s x u v) (bS s y u' v'):=by
 refine⟨fun i hi=>?_,fun i hi=>?_,fun i hi=>?_⟩
 ·rw [show at_ (bS s x u v).temp i=_ from aP hi,show at_ (bS s y u' v').temp i=_ from aP hi];exact aKf h hU.temp hu hv hi
 ·rw [show at_ (bS s x u v).cure i=_ from aP hi,show at_ (bS s y u' v').cure i=_ from aP hi];exact (vO h hi (hU.temp i hi) (hU.cure i hi) (hU.spoil i hi)).1
 ·rw [show at_ (bS s x u v).spoil i=_ from aP hi,show at_ (bS s y u' v').spoil i=_ from aP hi];exact (vO h hi (hU.temp i hi) (hU.cure i hi) (hU.spoil i hi)).2
theorem step_floor:Und s.cells.length (dJ jN s x u v) (bS s x u v):=by
 refine⟨fun i hi=>?_,fun i hi=>?_,fun i hi=>?_⟩
 ·rw [show at_ (dJ jN s x u v).temp i=_ from aP hi,show at_ (bS s x u v).temp i=_ from aP hi];exact vW _
 ·exact yw
 ·exact yw
theorem wX:Und s.cells.length (bS s x u v) (dJ pQ s x u v):=by
 refine⟨fun i hi=>?_,fun i hi=>?_,fun i hi=>?_⟩
 ·rw [show at_ (bS s x u v).temp i=_ from aP hi,show at_ (dJ pQ s x u v).temp i=_ from aP hi];exact aLl _
 ·exact yw
 ·exact yw
def Enc (s:PSec) (b:PBand) (x:PState):Prop:=Und s.cells.length b.lo x∧Und s.cells.length x b.hi
def Bt (p q r:Rat):Prop:=p≤q∧q≤r
theorem aMh (h:aF s=0) (hE:Enc s b x) (hu:Bt r.s0 u r.s1) (hv:Bt r.a0 v r.a1):Enc s (jI s b r) (bS s x u v):=
 ⟨step_floor.trans (pF h hE.1 hu.1 hv.1),(pF h hE.2 hu.2 hv.2).trans wX⟩
theorem aGl (h:aF s=0) (hb:Und s.cells.length b.lo b.hi) (hr:eM r=0):Und s.cells.length (jI s b r).lo (jI s b r).hi:=by
 have ⟨h1,h2⟩:r.s0≤r.s1∧r.a0≤r.a1:=by
  unfold eM at hr;split at hr
  ·cases hr
  ·rename_i hn;exact⟨zt.1 fun c=>hn (.inl c),zt.1 fun c=>hn (.inr c)⟩
 exact step_floor.trans ((pF h hb h1 h2).trans wX)
theorem rU (h:aF s=0):∀ {rs:List PRange}{b:PBand},(∀r∈rs,eM r=0)→Und s.cells.length b.lo b.hi→Und s.cells.length (advL s rs b).lo (advL s rs b).hi
 | [],_,_,hb=>hb
 | r :: rs,_,hr,hb=>rU h (rs:=rs) (fun q hq=>hr q (by simp [hq])) (aGl h hb (hr r (by simp)))
def Wit (s:PSec) (b b':PBand):Prop:=Und s.cells.length b'.lo b.lo∧Und s.cells.length b.hi b'.hi
end
section
variable {k k':World}{R:World→Value→Prop}{c0 c1 c2 c3:Array Value}{s:PSec}{b:PBand}{r:PRange}{K L T W d n0 n1 n2 d0 d1 d2 n3 n4 n5 d3 d4 d5 n6 d6 n7 d7 n8 d8:Nat}{A0 A1 A2 A3 A4 A5 A6 A7 A8:Option Addr}{most:Int}
end
section
variable {k:World}{R:World→Value→Prop}{s:PSec}{x:PBand}{n0 n1 n2 d0 d1 d2 n3 n4 n5 d3 d4 d5 n6 d6 n7 d7 n8 d8:Nat}{A0 A1 A2 A3 A4 A5 A6 A7 A8:Option Addr}{i0 i1 i2 i3 i4 i5 i6 i7 most:Int}
end
def aXh (x y:Rat) (n:Int):Rat:=x+(y-x)*((n:Rat) / ((255:Int):Rat))
section
variable {s:PSec}{x y:PState}
end
section
variable {k k':World}{R:World→Value→Prop}{c0 c1 c2 c3:Array Value}{s:PSec}{x:PState}{b:PBand}{K T n0 n1 n2 d0 d1 d2 n3 n4 n5 d3 d4 d5 n6 d6 n7 d7 n8 d8 n9 d9:Nat}{A0 A1 A2 A3 A4 A5 A6 A7 A8 A9:Option Addr}{u v:Rat}{n i0 i1 i2 i3 i4 i5 i6 i7 j0 j1 j2 j3 most:Int}
def U8A (a:Array Value) (v:Int):Prop:=0≤v∧v≤255∧a=#[.int .u8 v]
end
