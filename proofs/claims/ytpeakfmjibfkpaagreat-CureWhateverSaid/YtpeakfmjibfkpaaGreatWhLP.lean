/- Several texts in one. (Printed by prep.py.) -/
import Derived.Test.YtpeakfmjibfkpaaGreatWhDL
namespace Go.Proofs.YtpeakfmjibfkpaaGreat
theorem aRn {l:List PRate}(h:bB l=0) {i:Nat}(hi:i<l.length):0≤(at_ l i).v:=by
 unfold bB at h;split at h
 ·cases h
 ·have:=cX h i hi;unfold dB at this;split at this
  ·cases this
  ·split at this
   ·cases this
   ·rename_i hn;exact Rat.not_lt.1 hn
theorem aVz {l:List PRate}(h:bB l=0) (t:Rat):0≤spd l t:=by
 unfold spd;split
 ·exact Rat.le_refl
 ·have h1:upto l t≤l.length:=(List.takeWhile_sublist _).length_le;exact aRn h oq
section
variable {s:PSec}{x:PState}{u v:Rat}
theorem aYj (h:aI s=0) {i:Nat}(hi:i<s.mats.length):bB (at_ s.mats i).cure=0∧bB (at_ s.mats i).spoil=0:=by
 have:=cX (oX h) i hi;unfold nJ at this
 by_cases c1:bB (at_ s.mats i).cure=0
 ·rw [if_neg (by simp [c1])]at this
  by_cases c2:bB (at_ s.mats i).spoil=0
  ·exact⟨c1,c2⟩
  ·rw [if_pos c2]at this;exact absurd this c2
 ·rw [if_pos c1]at this;exact absurd this c1
theorem uB {B t:Rat}{T:PLink→Rat}:∀(ls:List PLink) (a c:Rat),a≤c*(B-t)→(∀l∈ls,0≤l.v∧T l≤B)→ls.foldl (fun a l=>a+l.v*(T l-t)) a≤ls.foldl (fun c l=>c+l.v) c*(B-t)
 | [],a,c,h,_=>h
 | l :: ls,a,c,h,hl=>by
  obtain⟨h0,h1⟩:=hl l (by simp);rw [List.foldl_cons,List.foldl_cons];refine uB ls _ _ ?_ fun y hy=>hl y (by simp [hy]);have:=Rat.mul_le_mul_of_nonneg_left (show T l-t≤B-t by grind) h0
  grind
theorem uA {B t:Rat}{T:PLink→Rat}:∀(ls:List PLink) (a c:Rat),c*(B-t)≤a→(∀l∈ls,0≤l.v∧B≤T l)→ls.foldl (fun c l=>c+l.v) c*(B-t)≤ls.foldl (fun a l=>a+l.v*(T l-t)) a
 | [],a,c,h,_=>h
 | l :: ls,a,c,h,hl=>by
  obtain⟨h0,h1⟩:=hl l (by simp);rw [List.foldl_cons,List.foldl_cons];refine uA ls _ _ ?_ fun y hy=>hl y (by simp [hy]);have:=Rat.mul_le_mul_of_nonneg_left (show B-t≤T l-t by grind) h0
  grind
theorem aQn (h:aI s=0) {i:Nat}(hi:i<s.cells.length):tot s.links i ((at_ s.cells i).steam+(at_ s.cells i).air)≤(at_ s.cells i).cap:=by
 have:=cX (aVd h) i hi;unfold lE at this;split at this
 ·cases this
 ·rename_i hn;exact Rat.not_lt.1 hn
theorem aCc (h:aI s=0) {z:PLink}(hz:z∈s.links):0≤z.v:=by
 obtain⟨j,hj,e⟩:=List.getElem_of_mem hz;rw [←e,←eC hj];exact (aHz h hj).2.2.2
theorem uK (h:aI s=0) {i:Nat}(_hi:i<s.cells.length) {z:PLink}(hz:z∈nbm s.links i):(z.a+z.b-(i:Int)).toNat<s.cells.length:=by
 obtain⟨h1,h2⟩:=gT hz;have:=dP (cZ h) z h1;omega
structure Btw (s:PSec) (x:PState) (u v:Rat) (lo hi:Rat):Prop where
 temp:∀j,j<s.cells.length→lo≤at_ x.temp j∧at_ x.temp j≤hi
 steam:∀j,j<s.cells.length→(at_ s.cells j).steam≠0→lo≤u∧u≤hi
 air:∀j,j<s.cells.length→(at_ s.cells j).air≠0→lo≤v∧v≤hi
theorem vD {w T B t:Rat}(hw:0≤w) (h:w≠0→T≤B):w*(T-t)≤w*(B-t):=by
 by_cases c:w=0
 ·rw [c];grind
 ·exact Rat.mul_le_mul_of_nonneg_left (by have:=h c;grind) hw
theorem vC {w T B t:Rat}(hw:0≤w) (h:w≠0→B≤T):w*(B-t)≤w*(T-t):=by
 by_cases c:w=0
 ·rw [c];grind
 ·exact Rat.mul_le_mul_of_nonneg_left (by have:=h c;grind) hw
theorem aAo {lo hi:Rat}(h:aI s=0) (hb:Btw s x u v lo hi) {i:Nat}(hi':i<s.cells.length):lo≤eS s x u v i∧eS s x u v i≤hi:=by
 obtain⟨_,_,hc,hs,ha⟩:=mC h hi';have ht:=aQn h hi';obtain⟨b0,b1⟩:=hb.temp i hi';have hne:(at_ s.cells i).cap≠0:=fun e=>by rw [e]at hc;exact absurd hc oz
 have hd:flow s x u v i/(at_ s.cells i).cap*(at_ s.cells i).cap=flow s x u v i:=Rat.div_mul_cancel hne;have nb:∀l∈nbm s.links (i:Int),0≤l.v∧(lo≤at_ x.temp (l.a+l.b-(i:Int)).toNat∧at_ x.temp (l.a+l.b-(i:Int)).toNat≤hi):=fun l hl=>⟨aCc h (gT hl).1,hb.temp _ (uK h hi' hl)⟩;have up:flow s x u v i≤tot s.links i ((at_ s.cells i).steam+(at_ s.cells i).air)*(hi-at_ x.temp i):=by
  refine uB _ _ _ ?_ fun l hl=>⟨(nb l hl).1,(nb l hl).2.2⟩;have p:=vD (T:=u) (B:=hi) (t:=at_ x.temp i) hs fun e=>(hb.steam i hi' e).2;have q:=vD (T:=v) (B:=hi) (t:=at_ x.temp i) ha fun e=>(hb.air i hi' e).2
  grind
 have dn:tot s.links i ((at_ s.cells i).steam+(at_ s.cells i).air)*(lo-at_ x.temp i)≤flow s x u v i:=by
  refine uA _ _ _ ?_ fun l hl=>⟨(nb l hl).1,(nb l hl).2.1⟩;have p:=vC (T:=u) (B:=lo) (t:=at_ x.temp i) hs fun e=>(hb.steam i hi' e).1;have q:=vC (T:=v) (B:=lo) (t:=at_ x.temp i) ha fun e=>(hb.air i hi' e).1
  grind
 have up2:=Rat.mul_le_mul_of_nonneg_right ht (show 0≤hi-at_ x.temp i by grind);have dn2:=Rat.mul_le_mul_of_nonneg_right ht (show 0≤at_ x.temp i-lo by grind);unfold eS;constructor
 ·by_cases c:lo≤at_ x.temp i+flow s x u v i/(at_ s.cells i).cap
  ·exact c
  ·have hp:0<((lo-at_ x.temp i)-flow s x u v i/(at_ s.cells i).cap)*(at_ s.cells i).cap:=Rat.mul_pos (by grind) hc
   grind
 ·by_cases c:at_ x.temp i+flow s x u v i/(at_ s.cells i).cap≤hi
  ·exact c
  ·have hp:0<(flow s x u v i/(at_ s.cells i).cap-(hi-at_ x.temp i))*(at_ s.cells i).cap:=Rat.mul_pos (by grind) hc
   grind
end
open Go.RowKit Num W32
open Sy (Up Sees CallsG Seg)
def MM:Int:=9223372036854775808
def Mag (q:Rat):Prop:=((-MM:Int):Rat)≤q∧q≤((MM:Int):Rat)
def Sm (q:Rat):Prop:=∃a:Int,q=mkRat a (2^40)∧-(MM*2^40)≤a∧a≤MM*2^40
theorem aPm {q:Rat}{m:Int}:(m:Rat)≤q↔m*q.den≤q.num:=by
 rw [Rat.le_iff];simp
theorem aPg {q:Rat}{m:Int}:q≤(m:Rat)↔q.num≤m*q.den:=by
 rw [Rat.le_iff];simp
theorem Mag.neg {q:Rat}(h:Mag q):Mag (-q):=by
 obtain⟨h1,h2⟩:=h;constructor
 ·have:=Rat.neg_le_neg h2
  rwa [←Rat.intCast_neg]at this
 ·have:=Rat.neg_le_neg h1
  rwa [←Rat.intCast_neg,Int.neg_neg]at this
theorem Sm.neg {q:Rat}(h:Sm q):Sm (-q):=by
 obtain⟨a,rfl,h1,h2⟩:=h;exact⟨-a,(nL _ _).symm,oq,oq⟩
theorem Sm.mag {q:Rat}(h:Sm q):Mag q:=by
 obtain⟨a,rfl,h1,h2⟩:=h;have e:∀m:Int,(m:Rat)=mkRat (m*2^40) (2^40):=fun m=>by
  rw [gF];have:(((2^40:Nat):Int):Rat)≠0:=by decide +kernel
  rw [show ((m*2^40:Int):Rat)=(m:Rat)*(((2^40:Nat):Int):Rat) from Rat.intCast_mul m ((2^40:Nat):Int)];exact (Rat.mul_div_cancel this).symm
 have le:∀x y:Int,x≤y→mkRat x (2^40)≤mkRat y (2^40):=fun x y h=>by
  rw [gF,gF,Rat.div_def,Rat.div_def];exact Rat.mul_le_mul_of_nonneg_right (Rat.intCast_le_intCast.2 h) (by decide +kernel)
 exact⟨by rw [e];exact le _ _ (by rw [Int.neg_mul];exact h1),by rw [e];exact le _ _ h2⟩
theorem aBx {q:Rat}(h:Mag q):Sm (fD q):=by
 obtain⟨h1,h2⟩:=h;rw [aPm]at h1;rw [aPg]at h2;have hd:(0:Int)<q.den:=by have:=q.den_pos;omega
 refine⟨q.num*((2^40:Nat):Int) / (q.den:Int),rfl,?_,?_⟩
 ·rw [Int.le_ediv_iff_mul_le hd];have:=Int.mul_le_mul_of_nonneg_right h1 (show (0:Int)≤2^40 by decide);rw [show -(MM*2^40)*(q.den:Int)=-MM*q.den*2^40 by rw [←Int.neg_mul,Int.mul_right_comm]];exact this
 ·refine Int.ediv_le_of_le_mul hd ?_;have:=Int.mul_le_mul_of_nonneg_right h2 (show (0:Int)≤2^40 by decide);rw [show MM*2^40*(q.den:Int)=MM*q.den*2^40 by rw [Int.mul_right_comm]];exact this
theorem aTg {q:Rat}(h:Mag q):Sm (kX q):=(aBx h.neg).neg
theorem Sm.wd {q:Rat}(h:Sm q):Wd q 2:=by
 obtain⟨a,e,h1,h2⟩:=h;refine⟨a,2^40,oz,e,?_,oz⟩;unfold MM at h1 h2;have:B64^2=340282366920938463463374607431768211456:=oz
 rw [this];omega
theorem Lst.monoI {α:Type}[Inhabited α] {k:World}{A:Option Addr}{n s:Nat}{P Q:Array Value→α→Prop}{l:List α}(h:Lst k A n s P l) (hP:∀i a,i<l.length→P a (at_ l i)→Q a (at_ l i)):Lst k A n s Q l:=by
 obtain⟨e,xs,h1,h2,h3⟩:=h;exact⟨e,xs,h1,h2,Arr.mono h3 fun i a hi h=>hP i a oq h⟩
theorem StateW.tightP {k:World}{A B C:Option Addr}{n n' n'' W T:Nat}{x:PState}(h:StateW (NP W) (NP T) k A n B n' C n'' x) (hs:∀i,i<x.temp.length→Sm (at_ x.temp i)) (hT:2≤T):StateV (NP T) k A n B n' C n'' x:=
 ⟨h.temp.monoI fun i _ hi g=>(g.cut (hs i hi).wd).mono hT,h.cure,h.spoil⟩
def tI (x:PState):Prop:=∀i,i<x.temp.length→Mag (at_ x.temp i)
structure MagR (r:PRange):Prop where
 s0:Mag r.s0
 s1:Mag r.s1
 a0:Mag r.a0
 a1:Mag r.a1
theorem aDt {s:PSec}{x:PState}{u v:Rat}(hE:aI s=0) (hz:sized s x) (h:tI x) (hu:Mag u) (hv:Mag v) {i:Nat}(hi:i<s.cells.length):Mag (eS s x u v i):=
 aAo hE ⟨fun j hj=>h j (by rw [hz.1];exact hj),fun _ _ _=>hu,fun _ _ _=>hv⟩ hi
theorem yY {s:PSec}{b:PBand}{r:PRange}(hE:aI s=0) (hz:sized s b.lo) (hz':sized s b.hi) (h:tI b.lo) (h':tI b.hi) (hr:MagR r) :
 (∀i,i<(cG s b r).lo.temp.length→Sm (at_ (cG s b r).lo.temp i))∧∀i,i<(cG s b r).hi.temp.length→Sm (at_ (cG s b r).hi.temp i):=by
 constructor
 ·intro i hi;have hi:i<s.cells.length:=by simpa [cG,cE] using hi
  rw [show at_ (cG s b r).lo.temp i=fD (eS s b.lo r.s0 r.a0 i) from aN hi];exact aBx (aDt hE hz h hr.s0 hr.a0 hi)
 ·intro i hi;have hi:i<s.cells.length:=by simpa [cG,cE] using hi
  rw [show at_ (cG s b r).hi.temp i=kX (eS s b.hi r.s1 r.a1 i) from aN hi];exact aTg (aDt hE hz' h' hr.s1 hr.a1 hi)
def wG (s:PSec) (r:PRange):Nat→PBand→PBand
 | 0,b=>b
 | k+1,b=>cG s (wG s r k b) r
structure OkB (s:PSec) (b:PBand):Prop where
 lo:sized s b.lo
 hi:sized s b.hi
 magl:tI b.lo
 magh:tI b.hi
theorem OkB.adv {s:PSec}{b:PBand}{r:PRange}(hE:aI s=0) (hr:MagR r) (h:OkB s b):OkB s (cG s b r):=by
 obtain⟨h1,h2⟩:=yY hE h.lo h.hi h.magl h.magh hr;exact⟨sI,sI,fun i hi=>(h1 i hi).mag,fun i hi=>(h2 i hi).mag⟩
def zO (p:Nat→Bool):Nat→Nat
 | 0=>0
 | n+1=>if zO p n<n then zO p n else if p n=true then n else n+1
def aTq (s:PSec) (b:PBand) (r:PRange) (most:Int):Int:=if fL s b r≠0 then fL s b r else if most<0∨2000<most then 1 else 0
def aJv (s:PSec) (b:PBand) (r:PRange) (most:Nat):Nat:=zO (fun k=>decide (aHm s (wG s r k b).lo)) (most+1)
def bAk (s:PSec) (b:PBand) (r:PRange):Nat→Int
 | 0=>-1
 | k+1=>bAl s (wG s r k b).lo
structure Cyc where
 (steps slow fast:Int) (fin:PBand) (e:Int)
def aWw (e:Int):Cyc:=⟨0,0,0,⟨tC,tC⟩,e⟩
def bBi (s:PSec) (b:PBand) (r:PRange) (most:Int):Cyc:=
 if aTq s b r most≠0 then aWw (aTq s b r most)
 else if most<aJv s b r most.toNat then aWw 5
 else ⟨aJv s b r most.toNat,bAk s b r (aJv s b r most.toNat),bAc s (wG s r (aJv s b r most.toNat) b).hi,wG s r (aJv s b r most.toNat) b,if kO s (wG s r (aJv s b r most.toNat) b).hi then 61 else 0⟩
def bAh (s:PSec) (b:PBand) (r:PRange) (most:Nat):Nat:=zO (fun k=>decide (kO s (wG s r (k+1) b).hi)) most
def bBg (s:PSec) (b:PBand) (r:PRange) (most:Int):Int×Int:=
 if aTq s b r most≠0 then (0,aTq s b r most) else if kO s b.hi then (0,61) else (bAh s b r most.toNat,0)
theorem aGq {K d T T':Nat}(h:T≤T'):aK K d T≤aK K d T':=by
 unfold aK;have:=Nat.mul_le_mul_left d (show K+2*T+2≤K+2*T'+2 by omega);omega
theorem lR {s:PSec}{x:PState}(hz:sized s x) (h:s.cells.length≤24):lQ x:=by
 obtain⟨z1,z2,z3⟩:=hz;exact⟨oq,oq,oq⟩
section
variable {k k':World}{R:World→Value→Prop}{c0 c1 c2 c3:Array Value}{s:PSec}{b:PBand}{r:PRange}{K L T W d n0 n1 n2 d0 d1 d2 n3 n4 n5 d3 d4 d5 n6 d6 n7 d7 n8 d8:Nat}{A0 A1 A2 A3 A4 A5 A6 A7 A8:Option Addr}{most:Int}
theorem aOb (hl:StateV (NP T) k A3 n3 A4 n4 A5 n5 b.lo) (hh:StateV (NP T) k A6 n6 A7 n7 A8 n8 b.hi) (hn:lQ b.lo) (hn':lQ b.hi)
 (C:∀k' B0 m0 e0 B1 m1 e1 B2 m2 e2 B3 m3 e3 B4 m4 e4 B5 m5 e5,Up k k'→StateV (NP T) k' B0 m0 B1 m1 B2 m2 b.lo→StateV (NP T) k' B3 m3 B4 m4 B5 m5 b.hi→R k' (S6 B0 m0 e0 B1 m1 e1 B2 m2 e2 B3 m3 e3 B4 m4 e4 B5 m5 e5)) :
 Cl k 82 #[S6 A3 n3 d3 A4 n4 d4 A5 n5 d5 A6 n6 d6 A7 n7 d7 A8 n8 d8] R:=by
 intro k0 u0;have hM:=aF T;refine aJb (qE (StateV.up hM hl u0) (by rw [hl.temp.1];exact hn.1) (by rw [hl.cure.1];exact hn.2.1) (by rw [hl.spoil.1];exact hn.2.2) fun k1 B0 e0 B1 e1 B2 e2 u1 h1=>⟨_,_,_,_,_,_,_,_,_,rfl,?_⟩);refine qE (StateV.up hM hh (u0.trans u1)) (by rw [hh.temp.1];exact hn'.1) (by rw [hh.cure.1];exact hn'.2.1) (by rw [hh.spoil.1];exact hn'.2.2) fun k3 B3 e3 B4 e4 B5 e5 u3 h3=>⟨_,_,_,_,_,_,_,_,_,rfl,fun k4 u4=>?_⟩;exact C k4 _ _ _ _ _ _ _ _ _ _ _ _ _ _ _ _ _ _ ((u0.trans u1).trans (u3.trans u4)) (StateV.up hM h1 (u3.trans u4)) (StateV.up hM h3 u4)
end
open IntKind (wrap)
open Sy (Up Sees CallsG Seg ReadAt)
structure PPhase where
 (steps:Int) (r:PRange)
instance:Inhabited PPhase:=⟨⟨0,⟨0,0,0,0⟩⟩⟩
def phE (p:PPhase):Int:=if p.steps<0 then 1 else dH p.r
def eF:List PPhase→Int
 | []=>0
 | p :: l=>p.steps+eF l
def aAb (l:List PPhase):Int:=if 16<l.length then 4 else if gS (fun i=>phE (at_ l i)) l.length≠0 then gS (fun i=>phE (at_ l i)) l.length else if 2000<eF l then 4 else 0
def advL (s:PSec) (rs:List PRange) (b:PBand):PBand:=rs.foldl (cG s) b
def jJ:List PPhase→List PRange
 | []=>[]
 | p :: l=>List.replicate p.steps.toNat p.r++jJ l
def nH (s:PSec) (b:PBand) (l:List PPhase):Int:=if eA s b≠0 then eA s b else aAb l
def aKj (s:PSec) (b:PBand) (l:List PPhase):PBand:=fQ (nH s b l) (advL s (jJ l) b)
theorem aDr (l m:List PPhase):eF (l++m)=eF l+eF m:=by
 induction l with
 | nil=>simp [eF]
 | cons p l ih=>simp only [List.cons_append,eF,ih];omega
theorem aKg (l m:List PPhase):jJ (l++m)=jJ l++jJ m:=by
 induction l with
 | nil=>rfl
 | cons p l ih=>simp [jJ,ih]
theorem aIn {α:Type}[Inhabited α] {l:List α}{j:Nat}(h:j<l.length):l.take (j+1)=l.take j++[at_ l j]:=by
 rw [List.take_succ_eq_append_getElem h,eC h]
theorem yO {l:List PPhase}{j:Nat}(h:j<l.length):eF (l.take (j+1))=eF (l.take j)+(at_ l j).steps:=by
 rw [aIn h,aDr];simp [eF]
theorem aDs {l:List PPhase}(h:∀p∈l,0≤p.steps):0≤eF l:=by
 induction l with
 | nil=>exact Int.le_refl 0
 | cons p l ih=>have:=h p (by simp);have:=ih fun q hq=>h q (by simp [hq]);simp only [eF];omega
theorem tG {l:List PPhase}(h:∀j,j<l.length→0≤(at_ l j).steps) (i:Nat):0≤eF (l.take i)∧eF (l.take i)≤eF l:=by
 have hm:∀p∈l,0≤p.steps:=fun p hp=>by
  obtain⟨j,hj,rfl⟩:=List.getElem_of_mem hp;rw [←eC hj];exact h j hj
 have h1:=aDs fun p (hp:p∈l.take i)=>hm p (List.mem_of_mem_take hp);have h2:=aDs fun p (hp:p∈l.drop i)=>hm p (List.mem_of_mem_drop hp);have h3:=aDr (l.take i) (l.drop i);rw [List.take_append_drop]at h3;omega
theorem aKh {l:List PPhase}(h:∀j,j<l.length→0≤(at_ l j).steps):((jJ l).length:Int)=eF l:=by
 induction l with
 | nil=>rfl
 | cons p l ih=>
  have h0:=h 0 (by simp);have:=ih fun j hj=>h (j+1) (by simpa using hj);simp only [jJ,eF,List.length_append,List.length_replicate];have e:(at_ (p :: l) 0)=p:=rfl;rw [e]at h0;omega
theorem aWx {p:PPhase}(h:phE p=0):0≤p.steps∧dH p.r=0:=by
 unfold phE at h;split at h
 ·cases h
 ·exact⟨oq,h⟩
theorem aYm {l:List PPhase}(h:aAb l=0):l.length≤16∧(∀j,j<l.length→phE (at_ l j)=0)∧eF l≤2000:=by
 unfold aAb at h;split at h
 ·cases h
 ·split at h
  ·rename_i h1;exact absurd h h1
  ·rename_i h0 h1;split at h
   ·cases h
   ·exact⟨oq,cX (Decidable.not_not.1 h1),oq⟩
theorem aXv {s:PSec}{b:PBand}{l:List PPhase}(h:nH s b l=0):eA s b=0∧aAb l=0:=by
 unfold nH at h;split at h
 ·rename_i h1;exact absurd h h1
 ·rename_i h1;exact⟨Decidable.not_not.1 h1,h⟩
theorem OkB.advL {s:PSec}(hE:aI s=0):∀ {rs:List PRange}{b:PBand},(∀r∈rs,MagR r)→OkB s b→OkB s (advL s rs b)
 | [],_,_,h=>h
 | r :: rs,_,hr,h=>OkB.advL hE (rs:=rs) (fun q hq=>hr q (by simp [hq])) (h.adv hE (hr r (by simp)))
theorem wO {s:PSec}{rs:List PRange}{r:PRange}{b:PBand}:advL s (rs++[r]) b=cG s (advL s rs b) r:=by simp [_root_.Go.Proofs.YtpeakfmjibfkpaaGreat.advL]
def PhV (N:World→Array Value→Rat→Prop) (k:World) (a:Array Value) (p:PPhase):Prop:=∃c0 c1 c2 c3,a=((Value.int .i64 p.steps) :: (c0.toList++(c1.toList++(c2.toList++(c3.toList++[]))))).toArray∧RangeV N k c0 c1 c2 c3 p.r
theorem PhV.seg {N:World→Array Value→Rat→Prop}(hN:Num3 N) {k:World}{a:Array Value}{p:PPhase}(h:PhV N k a p):Seg 13 a:=by
 obtain⟨c0,c1,c2,c3,rfl,h⟩:=h;have s0:=hN.seg h.s0;have s1:=hN.seg h.s1;have s2:=hN.seg h.a0;have s3:=hN.seg h.a1;refine⟨by simp [s0.1,s1.1,s2.1,s3.1],fun u hu=>?_⟩;simp only [List.append_nil,List.mem_cons,List.mem_append]at hu;rcases hu with rfl|hu|hu|hu|hu
 ·exact⟨rfl,rfl⟩
 ·exact s0.2 u hu
 ·exact s1.2 u hu
 ·exact s2.2 u hu
 ·exact s3.2 u hu
theorem PhV.up {N:World→Array Value→Rat→Prop}(hN:Num3 N) {k k':World}{a:Array Value}{p:PPhase}(h:PhV N k a p) (u:Up k k'):PhV N k' a p:=by
 obtain⟨c0,c1,c2,c3,e,h⟩:=h;exact⟨c0,c1,c2,c3,e,RangeV.up hN h u⟩
section
variable {k k':World}{R:World→Value→Prop}{l:List PPhase}{s:PSec}{b:PBand}{K T n0 n1 n2 n3 n4 n5 n6 n7 n8 n9 d0 d1 d2 d3 d4 d5 d6 d7 d8 d9:Nat}{A0 A1 A2 A3 A4 A5 A6 A7 A8 A9:Option Addr}
theorem qL {N:World→Array Value→Rat→Prop}(hN:Num3 N) (h:Lst k A9 n9 13 (PhV N k) l) (u:Up k k'):Lst k' A9 n9 13 (PhV N k') l:=h.up u fun _ _ h=>PhV.up hN h u
theorem aXq (hl:Lst k A9 n9 13 (PhV (NP K) k) l) (hK1:1≤K) (hK:K≤300000000) (C:∀k',Up k k'→R k' (.int .i64 (aAb l))) :
 Cl k 126 #[.slice A9 n9 d9] R:=by
 intro k0 u0;have hN:=aF K;replace hl:=qL hN hl u0;replace C:=fun k' u=>C k' (u0.trans u);have hn:=hl.1;refine aTk ⟨rfl,fun h k1 u1=>?_,fun h=>⟨rfl,?_⟩⟩
 ·have:=C k1 u1;unfold aAb at this
  rwa [if_pos (by have:=ow h;omega)]at this
 have h:=ov h;have h16:¬ 16<l.length:=oq
 refine⟨fun m k vs=>∃j:Nat,j+m=n9∧vs=[.int .i64 j]∧∀i,i<j→phE (at_ l i)=0,⟨n9,fun k1 u1=>⟨0,oq,rfl,fun i hi=>oq⟩⟩,?_⟩;rintro m k1 vs u1 ⟨j,hj,rfl,hz⟩;have hl1:=qL hN hl u1;refine⟨j,rfl,fun hlt=>?_,fun hge=>?_⟩
 ·have hlt:=aH hlt;obtain⟨a,_,⟨c0,c1,c2,c3,rfl,hr⟩,ha,hb,hrd,_⟩:=hl1.el (i:=j) oq oz;have stop:∀(e:Int),e≠0→phE (at_ l j)=e→∀k',Up k1 k'→R k' (.int .i64 e):=fun e he h k' u=>by
   have:=C k' (u1.trans u);unfold aAb at this;have hf:gS (fun i=>phE (at_ l i)) l.length=e:=eK hz h he oq
   rwa [if_neg h16,if_pos (by rw [hf];exact he),hf]at this
  refine⟨ha,hb,_,c0,hr.s0.seg,c1,hr.s1.seg,c2,hr.a0.seg,c3,hr.a1.seg,hrd k1 (Up.refl _),fun hp k2 u2=>?_,fun hp=>?_⟩
  ·exact stop 1 oz (by unfold phE;rw [if_pos (ow hp)]) k2 u2
  ·have hp:=ov hp;refine aBl hr hK1 hK fun k4 u4=>⟨_,rfl,fun f k5 u5=>?_,fun f k6 u6=>?_⟩
   ·exact stop _ (bZ f) (by unfold phE;rw [if_neg hp]) k5 (u4.trans u5)
   ·exact⟨m-1,oq,j+1,oq,by rw [aD oq],cK hz (by unfold phE;rw [if_neg hp];exact bE f)⟩
 ·have hge:=aG hge;have hz':∀i,i<l.length→phE (at_ l i)=0:=fun i hi=>hz i oq;have hst:∀i,i<l.length→0≤(at_ l i).steps:=fun i hi=>(aWx (hz' i hi)).1;have hf:¬ gS (fun i=>phE (at_ l i)) l.length≠0:=by rw [cW hz'];simp
  replace C:=fun k' u=>C k' (u1.trans u);unfold aAb at C;rw [if_neg h16,if_neg hf]at C;refine⟨rfl,fun m k vs=>∃j:Nat,j+m=n9∧vs=[.int .i64 (2000-eF (l.take j)),.int .i64 j]∧eF (l.take j)≤2000,⟨n9,fun k7 u7=>⟨0,oq,rfl,by simp [eF]⟩⟩,?_⟩;rintro m' k7 vs u7 ⟨i,hi,rfl,hle⟩;refine⟨_,_,rfl,fun hlt=>?_,fun hge=>?_⟩
  ·have hlt:=aH hlt;obtain⟨a,_,⟨c0,c1,c2,c3,rfl,hr⟩,ha,hb,hrd,_⟩:=(qL hN hl1 u7).el (i:=i) oq oz;have hs:=yO (l:=l) (j:=i) oq;have h0:=hst i oq;have hall:=tG hst (i+1);have hall0:=tG hst i;refine⟨ha,hb,_,c0,hr.s0.seg,c1,hr.s1.seg,c2,hr.a0.seg,c3,hr.a1.seg,hrd k7 (Up.refl _),fun hp k8 u8=>?_,fun hp k9 u9=>?_⟩
   ·have hp:=ow hp;have:=C k8 (u7.trans u8)
    rwa [if_pos oq]at this
   ·have hp:=ov hp;refine⟨m'-1,oq,i+1,oq,?_,oq⟩;rw [aD oq,show wrap .i64 (2000-eF (l.take i)-(at_ l i).steps)=2000-eF (l.take (i+1)) by rw [IntKind.wrap_i64];omega]
  ·have hge:=aG hge;intro k10 u10;have:=C k10 (u7.trans u10);rw [List.take_of_length_le oq]at hle
   rwa [if_neg oq]at this
theorem aHi (hs:SecV (NP K) k A0 n0 A1 n1 A2 n2 s) (hl:StateV (NP T) k A3 n3 A4 n4 A5 n5 b.lo) (hh:StateV (NP T) k A6 n6 A7 n7 A8 n8 b.hi) (hp:Lst k A9 n9 13 (PhV (NP K) k) l) (hK1:1≤K) (hK:K≤1000000) (hT1:1≤T) (hT:T≤300000000)
 (C:∀k',Up k k'→R k' (.int .i64 (nH s b l))) :
 Cl k 84 #[.agg #[.slice A0 n0 d0,.slice A1 n1 d1,.slice A2 n2 d2],.agg #[.slice A3 n3 d3,.slice A4 n4 d4,.slice A5 n5 d5,.slice A6 n6 d6,.slice A7 n7 d7,.slice A8 n8 d8],.slice A9 n9 d9] R:=by
 intro k0 u0;have hN:=aF K;have hNT:=aF T;replace C:=fun k' u=>C k' (u0.trans u);unfold nH at C;refine aOa (aHh (SecV.up hN hs u0) (StateV.up hNT hl u0) (StateV.up hNT hh u0) hK1 hK hT1 hT fun k1 u1=>⟨_,rfl,fun f k2 u2=>?_,fun f=>?_⟩)
 ·have:=C k2 (u1.trans u2)
  rwa [if_pos (bZ f)]at this
 ·refine aXq (qL hN hp (u0.trans u1)) hK1 oq fun k4 u4=>⟨_,rfl,fun k5 u5=>?_⟩;have:=C k5 (u1.trans (u4.trans u5))
  rwa [if_neg (by rw [bE f];simp)]at this
end
theorem aUt {q:Rat}:q*((q.den:Int):Rat)=(q.num:Rat):=by
 have hd:((q.den:Int):Rat)≠0:=fun e=>by have:=q.den_pos;have:=Rat.intCast_eq_zero_iff.1 e;omega
 have:=Rat.div_mul_cancel (a:=(q.num:Rat)) hd
 rwa [←gF,Rat.mkRat_self]at this
theorem pow40:(0:Rat)<(((2^40:Nat):Int):Rat):=by decide +kernel
theorem scaled {m:Int}{q:Rat}:(m:Rat)≤q*(((2^40:Nat):Int):Rat)↔m*(q.den:Int)≤q.num*((2^40:Nat):Int):=by
 have hd:(0:Rat)<((q.den:Int):Rat):=Rat.intCast_pos.2 (by have:=q.den_pos;omega);have e:q*(((2^40:Nat):Int):Rat)*((q.den:Int):Rat)=((q.num*((2^40:Nat):Int):Int):Rat):=by
  rw [show q*(((2^40:Nat):Int):Rat)*((q.den:Int):Rat)=q*((q.den:Int):Rat)*(((2^40:Nat):Int):Rat) by grind,aUt,Rat.intCast_mul]
 constructor
 ·intro h;have:=Rat.mul_le_mul_of_nonneg_right h (Rat.le_of_lt hd);rw [e,←Rat.intCast_mul]at this;exact Rat.intCast_le_intCast.1 this
 ·intro h;have h2:((m*(q.den:Int):Int):Rat)≤((q.num*((2^40:Nat):Int):Int):Rat):=Rat.intCast_le_intCast.2 h;rw [←e,Rat.intCast_mul]at h2
  by_cases c:(m:Rat)≤q*(((2^40:Nat):Int):Rat)
  ·exact c
  ·have:=Rat.mul_pos (show (0:Rat)<(m:Rat)-q*(((2^40:Nat):Int):Rat) by grind) hd
   grind
theorem mk40 {m:Int}{q:Rat}:mkRat m (2^40)≤q↔(m:Rat)≤q*(((2^40:Nat):Int):Rat):=by
 have hp:=pow40;have e:mkRat m (2^40)*(((2^40:Nat):Int):Rat)=(m:Rat):=by
  rw [gF];exact Rat.div_mul_cancel (by decide +kernel)
 constructor
 ·intro h;have:=Rat.mul_le_mul_of_nonneg_right h (Rat.le_of_lt hp)
  rwa [e]at this
 ·intro h
  by_cases c:mkRat m (2^40)≤q
  ·exact c
  ·have:=Rat.mul_pos (show (0:Rat)<mkRat m (2^40)-q by grind) hp
   grind
theorem qJ (q:Rat):fD q≤q:=by
 have hd:(0:Int)<q.den:=by have:=q.den_pos;omega
 exact mk40.2 (scaled.2 (Int.ediv_mul_le _ oq))
theorem rT {q r:Rat}(h:q≤r):fD q≤fD r:=by
 have hd:(0:Int)<r.den:=by have:=r.den_pos;omega
 have h1:mkRat (q.num*((2^40:Nat):Int) / (q.den:Int)) (2^40)≤r:=Rat.le_trans (qJ q) h;have h2:=scaled.1 (mk40.1 h1);have h3:q.num*((2^40:Nat):Int) / (q.den:Int)≤r.num*((2^40:Nat):Int) / (r.den:Int):=(Int.le_ediv_iff_mul_le hd).2 h2;show mkRat _ _≤mkRat _ _;rw [gF,gF,Rat.div_def,Rat.div_def];exact Rat.mul_le_mul_of_nonneg_right (Rat.intCast_le_intCast.2 h3) (by decide +kernel)
theorem aOc (q:Rat):q≤kX q:=by
 have:=qJ (-q);show q≤-fD (-q)
 grind
theorem aEm {q r:Rat}(h:q≤r):kX q≤kX r:=by
 have:=rT (show -r≤-q by grind);show -fD (-q)≤-fD (-r)
 grind
theorem vJ {l:List PRate}(h:bB l=0) {i:Nat}:∀ {j:Nat},i≤j→j<l.length→(at_ l i).v≤(at_ l j).v
 | 0,hij,_=>by obtain rfl:i=0:=oq
               exact Rat.le_refl
 | j+1,hij,hj=>by
  by_cases e:i=j+1
  ·subst e;exact Rat.le_refl
  ·refine Rat.le_trans (vJ h (j:=j) oq oq) ?_;unfold bB at h;split at h
   ·cases h
   ·have:=cX h (j+1) hj;unfold dB at this;split at this
    ·cases this
    ·split at this
     ·cases this
     ·split at this
      ·cases this
      ·rename_i hn;have:=Rat.not_lt.1 fun hlt=>hn ⟨Nat.succ_pos j,hlt⟩
       rwa [Nat.add_sub_cancel]at this
theorem yT {t t':Rat}(h:t≤t'):∀l:List PRate,upto l t≤upto l t'
 | []=>oy _
 | r :: l=>by
  have ih:=yT h l;unfold upto at ih ⊢
  by_cases c:r.f≤t
  ·have c':=Rat.le_trans c h;rw [List.takeWhile_cons,List.takeWhile_cons,if_pos (by simpa using c),if_pos (by simpa using c')];simp only [List.length_cons];omega
  ·rw [List.takeWhile_cons,if_neg (by simpa using c)];exact Nat.zero_le _
theorem aDn {l:List PRate}(h:bB l=0) {t t':Rat}(ht:t≤t'):spd l t≤spd l t':=by
 have hu:=yT ht l;have h1:upto l t'≤l.length:=(List.takeWhile_sublist _).length_le
 by_cases c:upto l t=0
 ·have:=aVz h t';rw [show spd l t=0 from if_pos c];exact this
 ·rw [show spd l t=_ from if_neg c,show spd l t'=_ from if_neg (show ¬ upto l t'=0 by omega)];exact vJ h oq oq
theorem xH {tx ty:Rat}{X Y:PLink→Rat}:∀(ls:List PLink) (a b c:Rat),a+c*(tx-ty)≤b→(∀l∈ls,0≤l.v∧X l≤Y l)→
 ls.foldl (fun a l=>a+l.v*(X l-tx)) a+ls.foldl (fun c l=>c+l.v) c*(tx-ty)≤ls.foldl (fun b l=>b+l.v*(Y l-ty)) b
 | [],_,_,_,h,_=>h
 | l :: ls,a,b,c,h,hl=>by
  obtain⟨h0,h1⟩:=hl l (by simp);rw [List.foldl_cons,List.foldl_cons,List.foldl_cons];refine xH ls _ _ _ ?_ fun y hy=>hl y (by simp [hy]);have:=Rat.mul_le_mul_of_nonneg_left (show X l-ty≤Y l-ty by grind) h0
  grind
section
variable {s:PSec}{x y:PState}{u v u' v':Rat}{b b':PBand}{r r':PRange}
theorem yR (h:aI s=0) (hT:∀j,j<s.cells.length→at_ x.temp j≤at_ y.temp j) (hu:u≤u') (hv:v≤v') {i:Nat}(hi:i<s.cells.length):eS s x u v i≤eS s y u' v' i:=by
 obtain⟨_,_,hc,hs,ha⟩:=mC h hi;have ht:=aQn h hi;have hne:(at_ s.cells i).cap≠0:=fun e=>by rw [e]at hc;exact absurd hc oz
 have dx:flow s x u v i/(at_ s.cells i).cap*(at_ s.cells i).cap=flow s x u v i:=Rat.div_mul_cancel hne;have dy:flow s y u' v' i/(at_ s.cells i).cap*(at_ s.cells i).cap=flow s y u' v' i:=Rat.div_mul_cancel hne;have hf:flow s x u v i+tot s.links i ((at_ s.cells i).steam+(at_ s.cells i).air)*(at_ x.temp i-at_ y.temp i)≤flow s y u' v' i:=by
  refine xH _ _ _ _ ?_ fun l hl=>⟨aCc h (gT hl).1,hT _ (uK h hi hl)⟩;have p:=Rat.mul_le_mul_of_nonneg_left (show u-at_ y.temp i≤u'-at_ y.temp i by grind) hs;have q:=Rat.mul_le_mul_of_nonneg_left (show v-at_ y.temp i≤v'-at_ y.temp i by grind) ha
  grind
 have h0:=hT i hi;have up:=Rat.mul_le_mul_of_nonneg_right ht (show 0≤at_ y.temp i-at_ x.temp i by grind);unfold eS
 by_cases c:at_ x.temp i+flow s x u v i/(at_ s.cells i).cap≤at_ y.temp i+flow s y u' v' i/(at_ s.cells i).cap
 ·exact c
 ·have hp:0<(at_ x.temp i-at_ y.temp i+flow s x u v i/(at_ s.cells i).cap-flow s y u' v' i/(at_ s.cells i).cap)*(at_ s.cells i).cap:=Rat.mul_pos (by grind) hc
  grind
theorem xA (h:aI s=0) {i:Nat}(hi:i<s.cells.length) (hT:at_ x.temp i≤at_ y.temp i) (hC:at_ x.cure i≤at_ y.cure i) (hS:at_ x.spoil i≤at_ y.spoil i):rQ s x i≤rQ s y i∧lS s x i≤lS s y i:=by
 obtain⟨h0,h1,_⟩:=mC h hi;have hm:=aYj h (i:=(at_ s.cells i).m.toNat) oq;have a:=aDn hm.1 hT;have b:=aDn hm.2 hT;unfold rQ lS;constructor <;> grind
structure Und (n:Nat) (x y:PState):Prop where
 temp:∀i,i<n→at_ x.temp i≤at_ y.temp i
 cure:∀i,i<n→at_ x.cure i≤at_ y.cure i
 spoil:∀i,i<n→at_ x.spoil i≤at_ y.spoil i
theorem Und.refl {n:Nat}:Und n x x:=⟨fun _ _=>Rat.le_refl,fun _ _=>Rat.le_refl,fun _ _=>Rat.le_refl⟩
theorem Und.trans {n:Nat}{z:PState}(h:Und n x y) (h':Und n y z):Und n x z:=⟨fun i hi=>Rat.le_trans (h.temp i hi) (h'.temp i hi),fun i hi=>Rat.le_trans (h.cure i hi) (h'.cure i hi),fun i hi=>Rat.le_trans (h.spoil i hi) (h'.spoil i hi)⟩
theorem rG (hx:sized s x) (hy:sized s y):fU x y↔Und s.cells.length x y:=by
 obtain⟨x1,x2,x3⟩:=hx;obtain⟨y1,y2,y3⟩:=hy;constructor
 ·rintro⟨_,h1,h2,h3⟩;exact⟨fun i hi=>Rat.not_lt.1 (h1 i oq),fun i hi=>Rat.not_lt.1 (h2 i oq),fun i hi=>Rat.not_lt.1 (h3 i oq)⟩
 ·intro h;exact⟨⟨oq,oq,oq⟩,fun i hi=>Rat.not_lt.2 (h.temp i oq),fun i hi=>Rat.not_lt.2 (h.cure i oq),fun i hi=>Rat.not_lt.2 (h.spoil i oq)⟩
theorem mL (h:aI s=0) (hU:Und s.cells.length x y) (hu:u≤u') (hv:v≤v'):Und s.cells.length (aY s x u v) (aY s y u' v'):=by
 refine⟨fun i hi=>?_,fun i hi=>?_,fun i hi=>?_⟩
 ·rw [show at_ (aY s x u v).temp i=_ from aN hi,show at_ (aY s y u' v').temp i=_ from aN hi];exact yR h hU.temp hu hv hi
 ·rw [show at_ (aY s x u v).cure i=_ from aN hi,show at_ (aY s y u' v').cure i=_ from aN hi];exact (xA h hi (hU.temp i hi) (hU.cure i hi) (hU.spoil i hi)).1
 ·rw [show at_ (aY s x u v).spoil i=_ from aN hi,show at_ (aY s y u' v').spoil i=_ from aN hi];exact (xA h hi (hU.temp i hi) (hU.cure i hi) (hU.spoil i hi)).2
theorem step_floor:Und s.cells.length (cE fD s x u v) (aY s x u v):=by
 refine⟨fun i hi=>?_,fun i hi=>?_,fun i hi=>?_⟩
 ·rw [show at_ (cE fD s x u v).temp i=_ from aN hi,show at_ (aY s x u v).temp i=_ from aN hi];exact qJ _
 ·exact Rat.le_refl
 ·exact Rat.le_refl
theorem yM:Und s.cells.length (aY s x u v) (cE kX s x u v):=by
 refine⟨fun i hi=>?_,fun i hi=>?_,fun i hi=>?_⟩
 ·rw [show at_ (aY s x u v).temp i=_ from aN hi,show at_ (cE kX s x u v).temp i=_ from aN hi];exact aOc _
 ·exact Rat.le_refl
 ·exact Rat.le_refl
theorem vX {f:Rat→Rat}(hf:∀ {p q:Rat},p≤q→f p≤f q) (h:aI s=0) (hU:Und s.cells.length x y) (hu:u≤u') (hv:v≤v'):Und s.cells.length (cE f s x u v) (cE f s y u' v'):=by
 have hm:=mL h hU hu hv;refine⟨fun i hi=>?_,hm.cure,hm.spoil⟩;rw [show at_ (cE f s x u v).temp i=_ from aN hi,show at_ (cE f s y u' v').temp i=_ from aN hi];exact hf (yR h hU.temp hu hv hi)
def Enc (s:PSec) (b:PBand) (x:PState):Prop:=Und s.cells.length b.lo x∧Und s.cells.length x b.hi
def Bt (p q r:Rat):Prop:=p≤q∧q≤r
theorem aOv (h:aI s=0) (hE:Enc s b x) (hu:Bt r.s0 u r.s1) (hv:Bt r.a0 v r.a1):Enc s (cG s b r) (aY s x u v):=
 ⟨step_floor.trans (mL h hE.1 hu.1 hv.1),(mL h hE.2 hu.2 hv.2).trans yM⟩
theorem aIt (h:aI s=0) (hb:Und s.cells.length b.lo b.hi) (hr:dH r=0):Und s.cells.length (cG s b r).lo (cG s b r).hi:=by
 have ⟨h1,h2⟩:r.s0≤r.s1∧r.a0≤r.a1:=by
  unfold dH at hr;split at hr
  ·cases hr
  ·rename_i hn;exact⟨Rat.not_lt.1 fun c=>hn (.inl c),Rat.not_lt.1 fun c=>hn (.inr c)⟩
 exact step_floor.trans ((mL h hb h1 h2).trans yM)
def Wit (s:PSec) (b b':PBand):Prop:=Und s.cells.length b'.lo b.lo∧Und s.cells.length b.hi b'.hi
theorem aEb (h:aI s=0) (hW:Wit s b b') (h1:r'.s0≤r.s0) (h2:r.s1≤r'.s1) (h3:r'.a0≤r.a0) (h4:r.a1≤r'.a1):Wit s (cG s b r) (cG s b' r'):=
 ⟨vX rT h hW.1 h1 h3,vX aEm h hW.2 h2 h4⟩
end
section
variable {k k':World}{R:World→Value→Prop}{c0 c1 c2 c3:Array Value}{s:PSec}{b:PBand}{r:PRange}{K L T W d n0 n1 n2 d0 d1 d2 n3 n4 n5 d3 d4 d5 n6 d6 n7 d7 n8 d8:Nat}{A0 A1 A2 A3 A4 A5 A6 A7 A8:Option Addr}{most:Int}
end
theorem mB {y z:Int}(hy:In64 y) (hz:In64 z):Mag (ofQ y z):=by
 have key:∀q:Rat,q.num.natAbs≤2^63→Mag q:=fun q h=>by
  have hd:=q.den_pos;have h2:MM≤MM*(q.den:Int):=by unfold MM;omega
  refine⟨aPm.2 ?_,aPg.2 ?_⟩
  ·rw [Int.neg_mul];unfold MM at h2 ⊢;omega
  ·unfold MM at h2 ⊢;omega
 refine key _ ?_;unfold In64 at hy hz;unfold ofQ
 by_cases h:z=0
 ·rw [if_pos h,Rat.num_intCast];omega
 ·rw [if_neg h,←lI y z h,jP _ oq,pF];have h1:=Nat.div_le_self y.natAbs (Nat.gcd y.natAbs z.natAbs);omega
section
variable {k:World}{R:World→Value→Prop}{s:PSec}{x:PBand}{n0 n1 n2 d0 d1 d2 n3 n4 n5 d3 d4 d5 n6 d6 n7 d7 n8 d8:Nat}{A0 A1 A2 A3 A4 A5 A6 A7 A8:Option Addr}{i0 i1 i2 i3 i4 i5 i6 i7 most:Int}
end
def aKz (x y:Rat) (n:Int):Rat:=x+(y-x)*((n:Rat) / ((255:Int):Rat))
theorem aFj {x y:Rat}{n:Int}(h:x≤y) (h0:0≤n) (h1:n≤255):x≤aKz x y n∧aKz x y n≤y:=by
 have e:(n:Rat) / ((255:Int):Rat)*((255:Int):Rat)=(n:Rat):=Rat.div_mul_cancel (by decide +kernel);have n0:(0:Rat)≤(n:Rat):=Rat.intCast_nonneg.2 h0;have n1:(n:Rat)≤((255:Int):Rat):=Rat.intCast_le_intCast.2 h1;have hp:(0:Rat)<((255:Int):Rat):=by decide +kernel
 have q0:0≤(n:Rat) / ((255:Int):Rat):=by
  by_cases c:0≤(n:Rat) / ((255:Int):Rat)
  ·exact c
  ·have:=Rat.mul_pos (show (0:Rat) < -((n:Rat) / ((255:Int):Rat)) by grind) hp
   grind
 have q1:(n:Rat) / ((255:Int):Rat)≤1:=by
  by_cases c:(n:Rat) / ((255:Int):Rat)≤1
  ·exact c
  ·have:=Rat.mul_pos (show (0:Rat)<(n:Rat) / ((255:Int):Rat)-1 by grind) hp
   grind
 have a:=Rat.mul_le_mul_of_nonneg_left q0 (show 0≤y-x by grind);have b:=Rat.mul_le_mul_of_nonneg_left q1 (show 0≤y-x by grind);unfold aKz;constructor <;> grind
section
variable {s:PSec}{x y:PState}
end
section
variable {k k':World}{R:World→Value→Prop}{c0 c1 c2 c3:Array Value}{s:PSec}{x:PState}{b:PBand}{K T n0 n1 n2 d0 d1 d2 n3 n4 n5 d3 d4 d5 n6 d6 n7 d7 n8 d8 n9 d9:Nat}{A0 A1 A2 A3 A4 A5 A6 A7 A8 A9:Option Addr}{u v:Rat}{n i0 i1 i2 i3 i4 i5 i6 i7 j0 j1 j2 j3 most:Int}
theorem uL (hu:RatV k c0 u K) (hv:RatV k c1 v K) (hK1:1≤K) (hK:K≤1000000) (h0:0≤n) (h1:n≤255) (C:∀k' ds,Up k k'→RatV k' ds (aKz u v n) (8*K+7)→R k' (.agg ds)) :
 Cl k 44 #[.agg (c0.toList++(c1.toList++([]))).toArray,.int .u8 n] R:=by
 intro k0 u0;have e:wrap .i64 n=n:=by rw [IntKind.wrap_i64];omega
 refine aKs hu.seg hv.seg ?_;rw [e];refine aNh oq oq oz oz fun k1 a1 u1 w1=>⟨a1,w1.seg,_,rfl,?_⟩;have v1:=u0.trans u1;refine aNi (hv.up v1) (hu.up v1) hK1 oq fun k3 a3 u3 w3=>⟨a3,w3.seg,rfl,?_⟩;refine aNf (K:=2*K+1) w3 ((w1.up u3).mono oq) oq oq fun k5 a5 u5 w5=>⟨a5,w5.seg,rfl,?_⟩;refine aNe (K:=4*K+3) ((hu.up (v1.trans (u3.trans u5))).mono oq) (w5.mono oq) oq oq fun k7 a7 u7 w7=>⟨a7,w7.seg,rfl,fun k8 u8=>?_⟩;exact C k8 a7 (v1.trans (u3.trans (u5.trans (u7.trans u8)))) ((w7.up u8).mono oq)
theorem aAp (h3:n3=n1) (h4:n4=n1) (h5:n5=n1) (C:∀k',Up k k'→R k' (.bool true)) :
 Cl k 42 #[S3 A0 n0 d0 A1 n1 d1 A2 n2 d2,S3 A3 n3 d3 A4 n4 d4 A5 n5 d5] R:=by
 intro k0 u0;subst h3 h4 h5;have e:(((n5:Nat):Int) == ((n5:Nat):Int))=true:=by simp
 exact aKx ⟨rfl,rfl,fun _=>⟨rfl,fun _=>⟨rfl,fun k1 u1=>by rw [e];exact C k1 (u0.trans u1)⟩,fun h=>by rw [e]at h;cases h⟩,fun h=>by rw [e]at h;cases h⟩
theorem aUk (h3:n3=n1) (h4:n4=n1) (h5:n5=n1) (h6:n6=n1) (h7:n7=n1) (h8:n8=n1) (C:∀k',Up k k'→R k' (.bool true)) :
 Cl k 43 #[S3 A0 n0 d0 A1 n1 d1 A2 n2 d2,S6 A3 n3 d3 A4 n4 d4 A5 n5 d5 A6 n6 d6 A7 n7 d7 A8 n8 d8] R:=by
 intro k0 u0;refine aPw (aAp h3 h4 h5 fun k1 u1=>⟨_,rfl,fun _=>aAp h6 h7 h8 fun k3 u3=>⟨_,rfl,fun k4 u4=>C k4 ((u0.trans u1).trans (u3.trans u4))⟩,fun h=>absurd h oz⟩)
def U8A (a:Array Value) (v:Int):Prop:=0≤v∧v≤255∧a=#[.int .u8 v]
set_option maxHeartbeats 1000000 in
theorem aFg {most d:Nat}(hs:SecA k A0 n0 A1 n1 A2 n2 s) (g0:In64 j0) (g1:In64 j1) (g2:In64 j2) (g3:In64 j3) (h0:In64 i0) (h1:In64 i1) (h2:In64 i2) (h3:In64 i3) (h4:In64 i4) (h5:In64 i5) (h6:In64 i6) (h7:In64 i7) (hm:most≤d+1) (hd5:d≤5)
 (C:∀k' B0 m0 e0 B1 m1 e1 B2 m2 e2 B3 m3 e3 B4 m4 e4 B5 m5 e5 B6 m6 e6 B7 m7 e7 B8 m8 e8 c0 c1 c2 c3 (f:Bool),Up k k'→Seg 3 c0→Seg 3 c1→Seg 3 c2→Seg 3 c3→(f=true→FewP s most∧fL s (eD s (ofQ j0 j1) (ofQ j2 j3)) ⟨ofQ i0 i1,ofQ i2 i3,ofQ i4 i5,ofQ i6 i7⟩=0∧¬ ofQ j2 j3<ofQ j0 j1∧SecV (NP 1) k' B0 m0 B1 m1 B2 m2 s∧
   StateV (NP 1) k' B3 m3 B4 m4 B5 m5 (eD s (ofQ j0 j1) (ofQ j2 j3)).lo∧StateV (NP 1) k' B6 m6 B7 m7 B8 m8 (eD s (ofQ j0 j1) (ofQ j2 j3)).hi∧RangeV (NP 1) k' c0 c1 c2 c3 ⟨ofQ i0 i1,ofQ i2 i3,ofQ i4 i5,ofQ i6 i7⟩)→
   R k' (.tuple #[S3 B0 m0 e0 B1 m1 e1 B2 m2 e2,S6 B3 m3 e3 B4 m4 e4 B5 m5 e5 B6 m6 e6 B7 m7 e7 B8 m8 e8,Rg c0 c1 c2 c3,.bool f])) :
 Cl k 39 #[S3 A0 n0 d0 A1 n1 d1 A2 n2 d2,.agg #[.int .i64 j0,.int .i64 j1],.agg #[.int .i64 j2,.int .i64 j3],.agg #[.int .i64 i0,.int .i64 i1,.int .i64 i2,.int .i64 i3,.int .i64 i4,.int .i64 i5,.int .i64 i6,.int .i64 i7],.int .i64 (most:Nat)] R:=by
 intro k0 u0;replace hs:=hs.up u0;replace C:=fun k' B0 m0 e0 B1 m1 e1 B2 m2 e2 B3 m3 e3 B4 m4 e4 B5 m5 e5 B6 m6 e6 B7 m7 e7 B8 m8 e8 c0 c1 c2 c3 f u=>C k' B0 m0 e0 B1 m1 e1 B2 m2 e2 B3 m3 e3 B4 m4 e4 B5 m5 e5 B6 m6 e6 B7 m7 e7 B8 m8 e8 c0 c1 c2 c3 f (u0.trans u);have P1:=aF 1;have R2:=cJ 2;have zseg:Seg 3 #[Value.bool false,.slice none 0 0,.slice none 0 0]:=⟨rfl,by simp [Value.scalar,Value.noWord]⟩;have bad:∀k1,Up k0 k1→R k1 (.tuple #[S3 none 0 0 none 0 0 none 0 0,S6 none 0 0 none 0 0 none 0 0 none 0 0 none 0 0 none 0 0,.agg #[.bool false,.slice none 0 0,.slice none 0 0,.bool false,.slice none 0 0,.slice none 0 0,.bool false,.slice none 0 0,.slice none 0 0,.bool false,.slice none 0 0,.slice none 0 0],.bool false]):=fun k1 u1=>
  C k1 none 0 0 none 0 0 none 0 0 none 0 0 none 0 0 none 0 0 none 0 0 none 0 0 none 0 0 #[.bool false,.slice none 0 0,.slice none 0 0] #[.bool false,.slice none 0 0,.slice none 0 0] #[.bool false,.slice none 0 0,.slice none 0 0] #[.bool false,.slice none 0 0,.slice none 0 0] false u1 zseg zseg zseg zseg (by intro h;cases h)
 refine aCg (bAd (most:=most) hs oq fun k1 b1 u1 hb1=>⟨_,rfl,fun _ k2 u2=>bad k2 (u1.trans u2),fun f1=>?_⟩);have hf:=hb1 (oV f1);have hd:aI s=0→∀i,i<s.cells.length→(nbm s.links (i:Nat)).length≤d:=fun hE i hi=>by have:=aHw hE hi;have:=hf.cells;omega
 refine aUh (hs.up u1) hf oq fun k4 B0 m0 e0 B1 m1 e1 B2 m2 e2 D0 p0 q0 D1 p1 q1 D2 p2 q2 u4 hp hr=>⟨_,_,_,_,_,_,_,_,_,_,_,_,_,_,_,_,_,_,rfl,?_⟩;refine aKu h0 h1 h2 h3 h4 h5 h6 h7 fun k6 c0 c1 c2 c3 o0 o1 o2 o3 u6 pr rr=>⟨_,pr.s0.seg,_,pr.s1.seg,_,pr.a0.seg,_,pr.a1.seg,_,rr.s0.seg,_,rr.s1.seg,_,rr.a0.seg,_,rr.a1.seg,rfl,?_⟩;have v6:=u1.trans (u4.trans u6);refine oW g0 g1 fun k8 x8 u8 w8=>⟨x8,w8.seg,rfl,?_⟩;refine oW g2 g3 fun k10 x10 u10 w10=>⟨x10,w10.seg,rfl,?_⟩;have v10:=u8.trans u10;refine aRo (K:=2) (SecV.up R2 hr (u6.trans v10)) (w8.up u10) w10 oz oz fun k12 F0 r0 l0 F1 r1 l1 F2 r2 l2 F3 r3 l3 F4 r4 l4 F5 r5 l5 u12 bl' bh'=>⟨_,_,_,_,_,_,_,_,_,_,_,_,_,_,_,_,_,_,_,rfl,fun f k13 u13=>bad k13 ((v6.trans v10).trans (u12.trans u13)),fun f=>?_⟩;have hB:dD s (ofQ j0 j1) (ofQ j2 j3)=0:=bE f;have hlh:¬ ofQ j2 j3<ofQ j0 j1:=fun c=>by
  unfold dD at hB
  by_cases hv:aI s=0
  ·rw [if_neg (by simp [hv]),if_pos c]at hB;cases hB
  ·rw [if_pos hv]at hB;exact hv hB
 have eB:fQ (dD s (ofQ j0 j1) (ofQ j2 j3)) (eD s (ofQ j0 j1) (ofQ j2 j3))=eD s (ofQ j0 j1) (ofQ j2 j3):=by unfold fQ;rw [if_neg (by rw [hB];simp)]
 rw [eB]at bl' bh';have v12:=v10.trans u12;refine aRp (K:=2) (T:=2) (d:=d) (SecV.up R2 hr (u6.trans v12)) bl' bh' (RangeV.up R2 rr v12) hd oz oz oz (by unfold aK;omega) fun k15 H0 s0 y0 H1 s1 y1 H2 s2 y2 H3 s3 y3 H4 s4 y4 H5 s5 y5 u15 _ _=>⟨_,_,_,_,_,_,_,_,_,_,_,_,_,_,_,_,_,_,_,rfl,?_⟩;refine mN g0 g1 fun k17 x17 u17 w17=>⟨x17,w17.seg,rfl,?_⟩;refine mN g2 g3 fun k19 x19 u19 w19=>⟨x19,w19.seg,rfl,?_⟩;have v19:=v12.trans (u15.trans (u17.trans u19));refine aNw (K:=1) (SecV.up P1 hp (u6.trans v19)) (w17.up u19) w19 oz oz fun k21 E0 q0 h0 E1 q1 h1 E2 q2 h2 E3 q3 h3 E4 q4 h4 E5 q5 h5 u21 bl bh=>⟨_,_,_,_,_,_,_,_,_,_,_,_,_,_,_,_,_,_,_,rfl,fun k22 u22=>?_⟩;rw [eB]at bl bh;have v22:=v19.trans (u21.trans u22);have p':=RangeV.up P1 pr v22;refine C k22 _ _ _ _ _ _ _ _ _ _ _ _ _ _ _ _ _ _ _ _ _ _ _ _ _ _ _ c0 c1 c2 c3 _ (v6.trans v22) p'.s0.seg p'.s1.seg p'.a0.seg p'.a1.seg fun e=>⟨hf,?_,hlh,SecV.up P1 hp (u6.trans v22),StateV.up P1 bl u22,StateV.up P1 bh u22,p'⟩;exact gA e
end
