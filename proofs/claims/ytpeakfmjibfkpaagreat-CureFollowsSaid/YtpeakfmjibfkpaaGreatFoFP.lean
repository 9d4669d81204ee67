/- Several texts in one. (Printed by prep.py.) -/
import Derived.Test.YtpeakfmjibfkpaaGreatFoDL
namespace Go.Proofs.YtpeakfmjibfkpaaGreat
section
variable {s:PSec}{x:PState}{u v:Rat}
theorem sM {B t:Rat}{T:PLink→Rat}:∀(ls:List PLink) (a c:Rat),a≤c*(B-t)→(∀l∈ls,0≤l.v∧T l≤B)→ls.foldl (fun a l=>a+l.v*(T l-t)) a≤ls.foldl (fun c l=>c+l.v) c*(B-t)
 | [],a,c,h,_=>h
 | l :: ls,a,c,h,hl=>by
  obtain⟨h0,h1⟩:=hl l (by simp);rw [List.foldl_cons,List.foldl_cons];refine sM ls _ _ ?_ fun y hy=>hl y (by simp [hy]);have:=Rat.mul_le_mul_of_nonneg_left (show T l-t≤B-t by grind) h0
  grind
theorem sL {B t:Rat}{T:PLink→Rat}:∀(ls:List PLink) (a c:Rat),c*(B-t)≤a→(∀l∈ls,0≤l.v∧B≤T l)→ls.foldl (fun c l=>c+l.v) c*(B-t)≤ls.foldl (fun a l=>a+l.v*(T l-t)) a
 | [],a,c,h,_=>h
 | l :: ls,a,c,h,hl=>by
  obtain⟨h0,h1⟩:=hl l (by simp);rw [List.foldl_cons,List.foldl_cons];refine sL ls _ _ ?_ fun y hy=>hl y (by simp [hy]);have:=Rat.mul_le_mul_of_nonneg_left (show B-t≤T l-t by grind) h0
  grind
theorem aWl (h:aL s=0) {i:Nat}(hi:i<s.cells.length):tot s.links i ((at_ s.cells i).steam+(at_ s.cells i).air)≤(at_ s.cells i).cap:=by
 have:=dX (aTc h) i hi;unfold kS at this;split at this
 ·cases this
 ·rename_i hn;exact Rat.not_lt.1 hn
theorem aNl (h:aL s=0) {z:PLink}(hz:z∈s.links):0≤z.v:=by
 obtain⟨j,hj,e⟩:=List.getElem_of_mem hz;rw [←e,←cT hj];exact (aGh h hj).2.2.2
theorem aDj (h:aL s=0) {i:Nat}(_hi:i<s.cells.length) {z:PLink}(hz:z∈nbm s.links i):(z.a+z.b-(i:Int)).toNat<s.cells.length:=by
 obtain⟨h1,h2⟩:=iL hz;have:=eO (dJ h) z h1;omega
structure Btw (s:PSec) (x:PState) (u v:Rat) (lo hi:Rat):Prop where
 temp:∀j,j<s.cells.length→lo≤at_ x.temp j∧at_ x.temp j≤hi
 steam:∀j,j<s.cells.length→(at_ s.cells j).steam≠0→lo≤u∧u≤hi
 air:∀j,j<s.cells.length→(at_ s.cells j).air≠0→lo≤v∧v≤hi
theorem tI {w T B t:Rat}(hw:0≤w) (h:w≠0→T≤B):w*(T-t)≤w*(B-t):=by
 by_cases c:w=0
 ·rw [c];grind
 ·exact Rat.mul_le_mul_of_nonneg_left (by have:=h c;grind) hw
theorem tH {w T B t:Rat}(hw:0≤w) (h:w≠0→B≤T):w*(B-t)≤w*(T-t):=by
 by_cases c:w=0
 ·rw [c];grind
 ·exact Rat.mul_le_mul_of_nonneg_left (by have:=h c;grind) hw
theorem yU {lo hi:Rat}(h:aL s=0) (hb:Btw s x u v lo hi) {i:Nat}(hi':i<s.cells.length):lo≤fU s x u v i∧fU s x u v i≤hi:=by
 obtain⟨_,_,hc,hs,ha⟩:=rP h hi';have ht:=aWl h hi';obtain⟨b0,b1⟩:=hb.temp i hi';have hne:(at_ s.cells i).cap≠0:=fun e=>by rw [e]at hc;exact absurd hc (by decide)
 have hd:flow s x u v i/(at_ s.cells i).cap*(at_ s.cells i).cap=flow s x u v i:=Rat.div_mul_cancel hne;have nb:∀l∈nbm s.links (i:Int),0≤l.v∧(lo≤at_ x.temp (l.a+l.b-(i:Int)).toNat∧at_ x.temp (l.a+l.b-(i:Int)).toNat≤hi):=fun l hl=>⟨aNl h (iL hl).1,hb.temp _ (aDj h hi' hl)⟩;have up:flow s x u v i≤tot s.links i ((at_ s.cells i).steam+(at_ s.cells i).air)*(hi-at_ x.temp i):=by
  refine sM _ _ _ ?_ fun l hl=>⟨(nb l hl).1,(nb l hl).2.2⟩;have p:=tI (T:=u) (B:=hi) (t:=at_ x.temp i) hs fun e=>(hb.steam i hi' e).2;have q:=tI (T:=v) (B:=hi) (t:=at_ x.temp i) ha fun e=>(hb.air i hi' e).2
  grind
 have dn:tot s.links i ((at_ s.cells i).steam+(at_ s.cells i).air)*(lo-at_ x.temp i)≤flow s x u v i:=by
  refine sL _ _ _ ?_ fun l hl=>⟨(nb l hl).1,(nb l hl).2.1⟩;have p:=tH (T:=u) (B:=lo) (t:=at_ x.temp i) hs fun e=>(hb.steam i hi' e).1;have q:=tH (T:=v) (B:=lo) (t:=at_ x.temp i) ha fun e=>(hb.air i hi' e).1
  grind
 have up2:=Rat.mul_le_mul_of_nonneg_right ht (show 0≤hi-at_ x.temp i by grind);have dn2:=Rat.mul_le_mul_of_nonneg_right ht (show 0≤at_ x.temp i-lo by grind);unfold fU;constructor
 ·by_cases c:lo≤at_ x.temp i+flow s x u v i/(at_ s.cells i).cap
  ·exact c
  ·have hp:0<((lo-at_ x.temp i)-flow s x u v i/(at_ s.cells i).cap)*(at_ s.cells i).cap:=Rat.mul_pos (by grind) hc
   grind
 ·by_cases c:at_ x.temp i+flow s x u v i/(at_ s.cells i).cap≤hi
  ·exact c
  ·have hp:0<(flow s x u v i/(at_ s.cells i).cap-(hi-at_ x.temp i))*(at_ s.cells i).cap:=Rat.mul_pos (by grind) hc
   grind
end
open Go.RowKit Num W32
open Sy (Up Sees CallsG Seg)
def MM:Int:=9223372036854775808
def Mag (q:Rat):Prop:=((-MM:Int):Rat)≤q∧q≤((MM:Int):Rat)
def Sm (q:Rat):Prop:=∃a:Int,q=mkRat a (2^40)∧-(MM*2^40)≤a∧a≤MM*2^40
theorem aNf {q:Rat}{m:Int}:(m:Rat)≤q↔m*q.den≤q.num:=by
 rw [Rat.le_iff];simp
theorem aMx {q:Rat}{m:Int}:q≤(m:Rat)↔q.num≤m*q.den:=by
 rw [Rat.le_iff];simp
theorem Mag.neg {q:Rat}(h:Mag q):Mag (-q):=by
 obtain⟨h1,h2⟩:=h;constructor
 ·have:=Rat.neg_le_neg h2
  rwa [←Rat.intCast_neg]at this
 ·have:=Rat.neg_le_neg h1
  rwa [←Rat.intCast_neg,Int.neg_neg]at this
theorem Sm.neg {q:Rat}(h:Sm q):Sm (-q):=by
 obtain⟨a,rfl,h1,h2⟩:=h;exact⟨-a,(mN _ _).symm,by omega,by omega⟩
theorem Sm.mag {q:Rat}(h:Sm q):Mag q:=by
 obtain⟨a,rfl,h1,h2⟩:=h;have e:∀m:Int,(m:Rat)=mkRat (m*2^40) (2^40):=fun m=>by
  rw [nX];have:(((2^40:Nat):Int):Rat)≠0:=by decide +kernel
  rw [show ((m*2^40:Int):Rat)=(m:Rat)*(((2^40:Nat):Int):Rat) from Rat.intCast_mul m ((2^40:Nat):Int)];exact (Rat.mul_div_cancel this).symm
 have le:∀x y:Int,x≤y→mkRat x (2^40)≤mkRat y (2^40):=fun x y h=>by
  rw [nX,nX,Rat.div_def,Rat.div_def];exact Rat.mul_le_mul_of_nonneg_right (Rat.intCast_le_intCast.2 h) (by decide +kernel)
 exact⟨by rw [e];exact le _ _ (by rw [Int.neg_mul];exact h1),by rw [e];exact le _ _ h2⟩
theorem aAd {q:Rat}(h:Mag q):Sm (pB q):=by
 obtain⟨h1,h2⟩:=h;rw [aNf]at h1;rw [aMx]at h2;have hd:(0:Int)<q.den:=by have:=q.den_pos;omega
 refine⟨q.num*((2^40:Nat):Int) / (q.den:Int),rfl,?_,?_⟩
 ·rw [Int.le_ediv_iff_mul_le hd];have:=Int.mul_le_mul_of_nonneg_right h1 (show (0:Int)≤2^40 by decide);rw [show -(MM*2^40)*(q.den:Int)=-MM*q.den*2^40 by rw [←Int.neg_mul,Int.mul_right_comm]];exact this
 ·refine Int.ediv_le_of_le_mul hd ?_;have:=Int.mul_le_mul_of_nonneg_right h2 (show (0:Int)≤2^40 by decide);rw [show MM*2^40*(q.den:Int)=MM*q.den*2^40 by rw [Int.mul_right_comm]];exact this
theorem aQz {q:Rat}(h:Mag q):Sm (vB q):=(aAd h.neg).neg
theorem Sm.wd {q:Rat}(h:Sm q):Wd q 2:=by
 obtain⟨a,e,h1,h2⟩:=h;refine⟨a,2^40,by decide,e,?_,by decide⟩;unfold MM at h1 h2;have:B64^2=340282366920938463463374607431768211456:=by decide
 rw [this];omega
theorem QV.cut {k:World}{cs:Array Value}{q:Rat}{K L:Nat}(h:QV k cs q K) (h1:q.num.natAbs<W32.B^L) (h2:q.den<W32.B^L):QV k cs q L:=by
 obtain⟨b,A,l,c,A',l',c',e,hq,_,_⟩:=h;exact⟨b,A,l,c,A',l',c',e,hq,by rw [hq.n.2];exact W32.nw_le_of h1,by rw [hq.d.2];exact W32.nw_le_of h2⟩
theorem Sm.cut {k:World}{cs:Array Value}{q:Rat}{K:Nat}(h:QV k cs q K) (hs:Sm q):QV k cs q 4:=by
 obtain⟨h1,h2⟩:=hs.wd.low;have e:B64^2=W32.B^4:=by decide
 rw [e]at h1 h2;exact QV.cut h h1 h2
theorem Lst.monoI {α:Type}[Inhabited α] {k:World}{A:Option Addr}{n s:Nat}{P Q:Array Value→α→Prop}{l:List α}(h:Lst k A n s P l) (hP:∀i a,i<l.length→P a (at_ l i)→Q a (at_ l i)):Lst k A n s Q l:=by
 obtain⟨e,xs,h1,h2,h3⟩:=h;exact⟨e,xs,h1,h2,Arr.mono h3 fun i a hi h=>hP i a (by omega) h⟩
theorem StateW.tightP {k:World}{A B C:Option Addr}{n n' n'' W T:Nat}{x:PState}(h:StateW (NP W) (NP T) k A n B n' C n'' x) (hs:∀i,i<x.temp.length→Sm (at_ x.temp i)) (hT:2≤T):StateV (NP T) k A n B n' C n'' x:=
 ⟨h.temp.monoI fun i _ hi g=>(g.cut (hs i hi).wd).mono hT,h.cure,h.spoil⟩
theorem StateW.tightR {k:World}{A B C:Option Addr}{n n' n'' W T:Nat}{x:PState}(h:StateW (NR' W) (NR' T) k A n B n' C n'' x) (hs:∀i,i<x.temp.length→Sm (at_ x.temp i)) (hT:4≤T):StateV (NR' T) k A n B n' C n'' x:=
 ⟨h.temp.monoI fun i _ hi g=>(Sm.cut g (hs i hi)).mono hT,h.cure,h.spoil⟩
def uM (x:PState):Prop:=∀i,i<x.temp.length→Mag (at_ x.temp i)
structure MagR (r:PRange):Prop where
 s0:Mag r.s0
 s1:Mag r.s1
 a0:Mag r.a0
 a1:Mag r.a1
theorem aCb {s:PSec}{x:PState}{u v:Rat}(hE:aL s=0) (hz:sized s x) (h:uM x) (hu:Mag u) (hv:Mag v) {i:Nat}(hi:i<s.cells.length):Mag (fU s x u v i):=
 yU hE ⟨fun j hj=>h j (by rw [hz.1];exact hj),fun _ _ _=>hu,fun _ _ _=>hv⟩ hi
theorem aCl {s:PSec}{b:PBand}{r:PRange}(hE:aL s=0) (hz:sized s b.lo) (hz':sized s b.hi) (h:uM b.lo) (h':uM b.hi) (hr:MagR r) :
 (∀i,i<(dW s b r).lo.temp.length→Sm (at_ (dW s b r).lo.temp i))∧∀i,i<(dW s b r).hi.temp.length→Sm (at_ (dW s b r).hi.temp i):=by
 constructor
 ·intro i hi;have hi:i<s.cells.length:=by simpa [dW,dC] using hi
  rw [show at_ (dW s b r).lo.temp i=pB (fU s b.lo r.s0 r.a0 i) from cD hi];exact aAd (aCb hE hz h hr.s0 hr.a0 hi)
 ·intro i hi;have hi:i<s.cells.length:=by simpa [dW,dC] using hi
  rw [show at_ (dW s b r).hi.temp i=vB (fU s b.hi r.s1 r.a1 i) from cD hi];exact aQz (aCb hE hz' h' hr.s1 hr.a1 hi)
def aCk (s:PSec) (r:PRange):Nat→PBand→PBand
 | 0,b=>b
 | k+1,b=>dW s (aCk s r k b) r
structure OkB (s:PSec) (b:PBand):Prop where
 lo:sized s b.lo
 hi:sized s b.hi
 magl:uM b.lo
 magh:uM b.hi
theorem OkB.adv {s:PSec}{b:PBand}{r:PRange}(hE:aL s=0) (hr:MagR r) (h:OkB s b):OkB s (dW s b r):=by
 obtain⟨h1,h2⟩:=aCl hE h.lo h.hi h.magl h.magh hr;exact⟨iQ,iQ,fun i hi=>(h1 i hi).mag,fun i hi=>(h2 i hi).mag⟩
def xR (p:Nat→Bool):Nat→Nat
 | 0=>0
 | n+1=>if xR p n<n then xR p n else if p n=true then n else n+1
def aRk (s:PSec) (b:PBand) (r:PRange) (most:Int):Int:=if aXw s b r≠0 then aXw s b r else if most<0∨2000<most then 1 else 0
def aHw (s:PSec) (b:PBand) (r:PRange) (most:Nat):Nat:=xR (fun k=>decide (aFv s (aCk s r k b).lo)) (most+1)
def aYm (s:PSec) (b:PBand) (r:PRange):Nat→Int
 | 0=>-1
 | k+1=>aYn s (aCk s r k b).lo
structure Cyc where
 (steps slow fast:Int) (fin:PBand) (e:Int)
def aUv (e:Int):Cyc:=⟨0,0,0,⟨rN,rN⟩,e⟩
def aZn (s:PSec) (b:PBand) (r:PRange) (most:Int):Cyc:=
 if aRk s b r most≠0 then aUv (aRk s b r most)
 else if most<aHw s b r most.toNat then aUv 5
 else ⟨aHw s b r most.toNat,aYm s b r (aHw s b r most.toNat),aYe s (aCk s r (aHw s b r most.toNat) b).hi,aCk s r (aHw s b r most.toNat) b,if jZ s (aCk s r (aHw s b r most.toNat) b).hi then 61 else 0⟩
def aYj (s:PSec) (b:PBand) (r:PRange) (most:Nat):Nat:=xR (fun k=>decide (jZ s (aCk s r (k+1) b).hi)) most
def aZl (s:PSec) (b:PBand) (r:PRange) (most:Int):Int×Int:=
 if aRk s b r most≠0 then (0,aRk s b r most) else if jZ s b.hi then (0,61) else (aYj s b r most.toNat,0)
theorem uF {K d T T':Nat}(h:T≤T'):aJ K d T≤aJ K d T':=by
 unfold aJ;have:=Nat.mul_le_mul_left d (show K+2*T+2≤K+2*T'+2 by omega);omega
theorem lC {s:PSec}{x:PState}(hz:sized s x) (h:s.cells.length≤24):tZ x:=by
 obtain⟨z1,z2,z3⟩:=hz;exact⟨by omega,by omega,by omega⟩
section
variable {k k':World}{R:World→Value→Prop}{c0 c1 c2 c3:Array Value}{s:PSec}{b:PBand}{r:PRange}{K L T W d n0 n1 n2 d0 d1 d2 n3 n4 n5 d3 d4 d5 n6 d6 n7 d7 n8 d8:Nat}{A0 A1 A2 A3 A4 A5 A6 A7 A8:Option Addr}{most:Int}
theorem aLu (hl:StateV (NP T) k A3 n3 A4 n4 A5 n5 b.lo) (hh:StateV (NP T) k A6 n6 A7 n7 A8 n8 b.hi) (hn:tZ b.lo) (hn':tZ b.hi)
 (C:∀k' B0 m0 e0 B1 m1 e1 B2 m2 e2 B3 m3 e3 B4 m4 e4 B5 m5 e5,Up k k'→StateV (NP T) k' B0 m0 B1 m1 B2 m2 b.lo→StateV (NP T) k' B3 m3 B4 m4 B5 m5 b.hi→R k' (S6 B0 m0 e0 B1 m1 e1 B2 m2 e2 B3 m3 e3 B4 m4 e4 B5 m5 e5)) :
 Cl k 82 #[S6 A3 n3 d3 A4 n4 d4 A5 n5 d5 A6 n6 d6 A7 n7 d7 A8 n8 d8] R:=by
 intro k0 u0;have hM:=aM T;refine aHe (oW (StateV.up hM hl u0) (by rw [hl.temp.1];exact hn.1) (by rw [hl.cure.1];exact hn.2.1) (by rw [hl.spoil.1];exact hn.2.2) fun k1 B0 e0 B1 e1 B2 e2 u1 h1=>⟨_,_,_,_,_,_,_,_,_,rfl,?_⟩);refine oW (StateV.up hM hh (u0.trans u1)) (by rw [hh.temp.1];exact hn'.1) (by rw [hh.cure.1];exact hn'.2.1) (by rw [hh.spoil.1];exact hn'.2.2) fun k3 B3 e3 B4 e4 B5 e5 u3 h3=>⟨_,_,_,_,_,_,_,_,_,rfl,fun k4 u4=>?_⟩;exact C k4 _ _ _ _ _ _ _ _ _ _ _ _ _ _ _ _ _ _ ((u0.trans u1).trans (u3.trans u4)) (StateV.up hM h1 (u3.trans u4)) (StateV.up hM h3 u4)
end
open IntKind (wrap)
open Sy (Up Sees CallsG Seg ReadAt)
structure PPhase where
 (steps:Int) (r:PRange)
instance:Inhabited PPhase:=⟨⟨0,⟨0,0,0,0⟩⟩⟩
def phE (p:PPhase):Int:=if p.steps<0 then 1 else mS p.r
def bX:List PPhase→Int
 | []=>0
 | p :: l=>p.steps+bX l
def rF (l:List PPhase):Int:=if 16<l.length then 4 else if iG (fun i=>phE (at_ l i)) l.length≠0 then iG (fun i=>phE (at_ l i)) l.length else if 2000<bX l then 4 else 0
def advL (s:PSec) (rs:List PRange) (b:PBand):PBand:=rs.foldl (dW s) b
def cZ:List PPhase→List PRange
 | []=>[]
 | p :: l=>List.replicate p.steps.toNat p.r++cZ l
def iF (s:PSec) (b:PBand) (l:List PPhase):Int:=if fB s b≠0 then fB s b else rF l
def sK (s:PSec) (b:PBand) (l:List PPhase):PBand:=yK (iF s b l) (advL s (cZ l) b)
theorem aBz (l m:List PPhase):bX (l++m)=bX l+bX m:=by
 induction l with
 | nil=>simp [bX]
 | cons p l ih=>simp only [List.cons_append,bX,ih];omega
theorem vQ (l m:List PPhase):cZ (l++m)=cZ l++cZ m:=by
 induction l with
 | nil=>rfl
 | cons p l ih=>simp [cZ,ih]
theorem yT {α:Type}[Inhabited α] {l:List α}{j:Nat}(h:j<l.length):l.take (j+1)=l.take j++[at_ l j]:=by
 rw [List.take_succ_eq_append_getElem h,cT h]
theorem jI {l:List PPhase}{j:Nat}(h:j<l.length):bX (l.take (j+1))=bX (l.take j)+(at_ l j).steps:=by
 rw [yT h,aBz];simp [bX]
theorem aCa {l:List PPhase}(h:∀p∈l,0≤p.steps):0≤bX l:=by
 induction l with
 | nil=>exact Int.le_refl 0
 | cons p l ih=>have:=h p (by simp);have:=ih fun q hq=>h q (by simp [hq]);simp only [bX];omega
theorem kC {l:List PPhase}(h:∀j,j<l.length→0≤(at_ l j).steps) (i:Nat):0≤bX (l.take i)∧bX (l.take i)≤bX l:=by
 have hm:∀p∈l,0≤p.steps:=fun p hp=>by
  obtain⟨j,hj,rfl⟩:=List.getElem_of_mem hp;rw [←cT hj];exact h j hj
 have h1:=aCa fun p (hp:p∈l.take i)=>hm p (List.mem_of_mem_take hp);have h2:=aCa fun p (hp:p∈l.drop i)=>hm p (List.mem_of_mem_drop hp);have h3:=aBz (l.take i) (l.drop i);rw [List.take_append_drop]at h3;omega
theorem aIi {l:List PPhase}(h:∀j,j<l.length→0≤(at_ l j).steps):((cZ l).length:Int)=bX l:=by
 induction l with
 | nil=>rfl
 | cons p l ih=>
  have h0:=h 0 (by simp);have:=ih fun j hj=>h (j+1) (by simpa using hj);simp only [cZ,bX,List.length_append,List.length_replicate];have e:(at_ (p :: l) 0)=p:=rfl;rw [e]at h0;omega
theorem aBd {p:PPhase}(h:phE p=0):0≤p.steps∧mS p.r=0:=by
 unfold phE at h;split at h
 ·cases h
 ·exact⟨by omega,h⟩
theorem aDz {l:List PPhase}(h:rF l=0):l.length≤16∧(∀j,j<l.length→phE (at_ l j)=0)∧bX l≤2000:=by
 unfold rF at h;split at h
 ·cases h
 ·split at h
  ·rename_i h1;exact absurd h h1
  ·rename_i h0 h1;split at h
   ·cases h
   ·exact⟨by omega,dX (Decidable.not_not.1 h1),by omega⟩
theorem aDc {s:PSec}{b:PBand}{l:List PPhase}(h:iF s b l=0):fB s b=0∧rF l=0:=by
 unfold iF at h;split at h
 ·rename_i h1;exact absurd h h1
 ·rename_i h1;exact⟨Decidable.not_not.1 h1,h⟩
theorem OkB.advL {s:PSec}(hE:aL s=0):∀ {rs:List PRange}{b:PBand},(∀r∈rs,MagR r)→OkB s b→OkB s (advL s rs b)
 | [],_,_,h=>h
 | r :: rs,_,hr,h=>OkB.advL hE (rs:=rs) (fun q hq=>hr q (by simp [hq])) (h.adv hE (hr r (by simp)))
theorem uX {s:PSec}{rs:List PRange}{r:PRange}{b:PBand}:advL s (rs++[r]) b=dW s (advL s rs b) r:=by simp [_root_.Go.Proofs.YtpeakfmjibfkpaaGreat.advL]
theorem aIk {l:List PPhase}{r:PRange}(h:r∈cZ l):∃p∈l,r=p.r:=by
 induction l with
 | nil=>cases h
 | cons p l ih=>
  rcases List.mem_append.1 h with h|h
  ·exact⟨p,by simp,(List.mem_replicate.1 h).2⟩
  ·obtain⟨q,hq,e⟩:=ih h;exact⟨q,by simp [hq],e⟩
theorem aIj {l:List PPhase}(hmr:∀j,j<l.length→MagR (at_ l j).r) {j:Nat}{r:PRange}(h:r∈cZ (l.take j)):MagR r:=by
 obtain⟨p,hp,rfl⟩:=aIk h;obtain⟨i,hi,rfl⟩:=List.getElem_of_mem (List.mem_of_mem_take hp);rw [←cT hi];exact hmr i hi
def PhV (N:World→Array Value→Rat→Prop) (k:World) (a:Array Value) (p:PPhase):Prop:=∃c0 c1 c2 c3,a=((Value.int .i64 p.steps) :: (c0.toList++(c1.toList++(c2.toList++(c3.toList++[]))))).toArray∧RangeV N k c0 c1 c2 c3 p.r
theorem PhV.seg {N:World→Array Value→Rat→Prop}(hN:Num3 N) {k:World}{a:Array Value}{p:PPhase}(h:PhV N k a p):Seg 13 a:=by
 obtain⟨c0,c1,c2,c3,rfl,h⟩:=h;have s0:=hN.seg h.s0;have s1:=hN.seg h.s1;have s2:=hN.seg h.a0;have s3:=hN.seg h.a1;refine⟨by simp [s0.1,s1.1,s2.1,s3.1],fun u hu=>?_⟩;simp only [List.append_nil,List.mem_cons,List.mem_append]at hu;rcases hu with rfl|hu|hu|hu|hu
 ·exact⟨rfl,rfl⟩
 ·exact s0.2 u hu
 ·exact s1.2 u hu
 ·exact s2.2 u hu
 ·exact s3.2 u hu
theorem PhV.up {N:World→Array Value→Rat→Prop}(hN:Num3 N) {k k':World}{a:Array Value}{p:PPhase}(h:PhV N k a p) (u:Up k k'):PhV N k' a p:=by
 obtain⟨c0,c1,c2,c3,e,h⟩:=h;exact⟨c0,c1,c2,c3,e,RangeV.up hN h u⟩
section
variable {k k':World}{R:World→Value→Prop}{l:List PPhase}{s:PSec}{b:PBand}{K T n0 n1 n2 n3 n4 n5 n6 n7 n8 n9 d0 d1 d2 d3 d4 d5 d6 d7 d8 d9:Nat}{A0 A1 A2 A3 A4 A5 A6 A7 A8 A9:Option Addr}
theorem gA {N:World→Array Value→Rat→Prop}(hN:Num3 N) (h:Lst k A9 n9 13 (PhV N k) l) (u:Up k k'):Lst k' A9 n9 13 (PhV N k') l:=h.up u fun _ _ h=>PhV.up hN h u
theorem aVs (hl:Lst k A9 n9 13 (PhV (NP K) k) l) (hK1:1≤K) (hK:K≤300000000) (C:∀k',Up k k'→R k' (.int .i64 (rF l))) :
 Cl k 126 #[.slice A9 n9 d9] R:=by
 intro k0 u0;have hN:=aM K;replace hl:=gA hN hl u0;replace C:=fun k' u=>C k' (u0.trans u);have hn:=hl.1;refine aRd ⟨rfl,fun h k1 u1=>?_,fun h=>⟨rfl,?_⟩⟩
 ·have:=C k1 u1;unfold rF at this
  rwa [if_pos (by have:=of_decide_eq_true h;omega)]at this
 have h:=of_decide_eq_false h;have h16:¬ 16<l.length:=by omega
 refine⟨fun m k vs=>∃j:Nat,j+m=n9∧vs=[.int .i64 j]∧∀i,i<j→phE (at_ l i)=0,⟨n9,fun k1 u1=>⟨0,by omega,rfl,fun i hi=>by omega⟩⟩,?_⟩;rintro m k1 vs u1 ⟨j,hj,rfl,hz⟩;have hl1:=gA hN hl u1;refine⟨j,rfl,fun hlt=>?_,fun hge=>?_⟩
 ·have hlt:=aF hlt;obtain⟨a,_,⟨c0,c1,c2,c3,rfl,hr⟩,ha,hb,hrd,_⟩:=hl1.el (i:=j) (by omega) (by decide);have stop:∀(e:Int),e≠0→phE (at_ l j)=e→∀k',Up k1 k'→R k' (.int .i64 e):=fun e he h k' u=>by
   have:=C k' (u1.trans u);unfold rF at this;have hf:iG (fun i=>phE (at_ l i)) l.length=e:=dT hz h he (by omega)
   rwa [if_neg h16,if_pos (by rw [hf];exact he),hf]at this
  refine⟨ha,hb,_,c0,hr.s0.seg,c1,hr.s1.seg,c2,hr.a0.seg,c3,hr.a1.seg,hrd k1 (Up.refl _),fun hp k2 u2=>?_,fun hp=>?_⟩
  ·exact stop 1 (by decide) (by unfold phE;rw [if_pos (of_decide_eq_true hp)]) k2 u2
  ·have hp:=of_decide_eq_false hp;refine aMd hr hK1 hK fun k4 u4=>⟨_,rfl,fun f k5 u5=>?_,fun f k6 u6=>?_⟩
   ·exact stop _ (dE f) (by unfold phE;rw [if_neg hp]) k5 (u4.trans u5)
   ·exact⟨m-1,by omega,j+1,by omega,by rw [aC (by omega)],cC hz (by unfold phE;rw [if_neg hp];exact bO f)⟩
 ·have hge:=aG hge;have hz':∀i,i<l.length→phE (at_ l i)=0:=fun i hi=>hz i (by omega);have hst:∀i,i<l.length→0≤(at_ l i).steps:=fun i hi=>(aBd (hz' i hi)).1;have hf:¬ iG (fun i=>phE (at_ l i)) l.length≠0:=by rw [cK hz'];simp
  replace C:=fun k' u=>C k' (u1.trans u);unfold rF at C;rw [if_neg h16,if_neg hf]at C;refine⟨rfl,fun m k vs=>∃j:Nat,j+m=n9∧vs=[.int .i64 (2000-bX (l.take j)),.int .i64 j]∧bX (l.take j)≤2000,⟨n9,fun k7 u7=>⟨0,by omega,rfl,by simp [bX]⟩⟩,?_⟩;rintro m' k7 vs u7 ⟨i,hi,rfl,hle⟩;refine⟨_,_,rfl,fun hlt=>?_,fun hge=>?_⟩
  ·have hlt:=aF hlt;obtain⟨a,_,⟨c0,c1,c2,c3,rfl,hr⟩,ha,hb,hrd,_⟩:=(gA hN hl1 u7).el (i:=i) (by omega) (by decide);have hs:=jI (l:=l) (j:=i) (by omega);have h0:=hst i (by omega);have hall:=kC hst (i+1);have hall0:=kC hst i;refine⟨ha,hb,_,c0,hr.s0.seg,c1,hr.s1.seg,c2,hr.a0.seg,c3,hr.a1.seg,hrd k7 (Up.refl _),fun hp k8 u8=>?_,fun hp k9 u9=>?_⟩
   ·have hp:=of_decide_eq_true hp;have:=C k8 (u7.trans u8)
    rwa [if_pos (by omega)]at this
   ·have hp:=of_decide_eq_false hp;refine⟨m'-1,by omega,i+1,by omega,?_,by omega⟩;rw [aC (by omega),show wrap .i64 (2000-bX (l.take i)-(at_ l i).steps)=2000-bX (l.take (i+1)) by rw [IntKind.wrap_i64];omega]
  ·have hge:=aG hge;intro k10 u10;have:=C k10 (u7.trans u10);rw [List.take_of_length_le (by omega)]at hle
   rwa [if_neg (by omega)]at this
theorem aFs (hs:SecV (NP K) k A0 n0 A1 n1 A2 n2 s) (hl:StateV (NP T) k A3 n3 A4 n4 A5 n5 b.lo) (hh:StateV (NP T) k A6 n6 A7 n7 A8 n8 b.hi) (hp:Lst k A9 n9 13 (PhV (NP K) k) l) (hK1:1≤K) (hK:K≤1000000) (hT1:1≤T) (hT:T≤300000000)
 (C:∀k',Up k k'→R k' (.int .i64 (iF s b l))) :
 Cl k 84 #[.agg #[.slice A0 n0 d0,.slice A1 n1 d1,.slice A2 n2 d2],.agg #[.slice A3 n3 d3,.slice A4 n4 d4,.slice A5 n5 d5,.slice A6 n6 d6,.slice A7 n7 d7,.slice A8 n8 d8],.slice A9 n9 d9] R:=by
 intro k0 u0;have hN:=aM K;have hNT:=aM T;replace C:=fun k' u=>C k' (u0.trans u);unfold iF at C;refine aLt (aQv (SecV.up hN hs u0) (StateV.up hNT hl u0) (StateV.up hNT hh u0) hK1 hK hT1 hT fun k1 u1=>⟨_,rfl,fun f k2 u2=>?_,fun f=>?_⟩)
 ·have:=C k2 (u1.trans u2)
  rwa [if_pos (dE f)]at this
 ·refine aVs (gA hN hp (u0.trans u1)) hK1 (by omega) fun k4 u4=>⟨_,rfl,fun k5 u5=>?_⟩;have:=C k5 (u1.trans (u4.trans u5))
  rwa [if_neg (by rw [bO f];simp)]at this
end
section
variable {k k':World}{R:World→Value→Prop}{c0 c1 c2 c3:Array Value}{s:PSec}{b:PBand}{r:PRange}{K L T W d n0 n1 n2 d0 d1 d2 n3 n4 n5 d3 d4 d5 n6 d6 n7 d7 n8 d8:Nat}{A0 A1 A2 A3 A4 A5 A6 A7 A8:Option Addr}{most:Int}
end
theorem oA {y z:Int}(hy:In64 y) (hz:In64 z):Mag (ofQ y z):=by
 have key:∀q:Rat,q.num.natAbs≤2^63→Mag q:=fun q h=>by
  have hd:=q.den_pos;have h2:MM≤MM*(q.den:Int):=by unfold MM;omega
  refine⟨aNf.2 ?_,aMx.2 ?_⟩
  ·rw [Int.neg_mul];unfold MM at h2 ⊢;omega
  ·unfold MM at h2 ⊢;omega
 refine key _ ?_;unfold In64 at hy hz;unfold ofQ
 by_cases h:z=0
 ·rw [if_pos h,Rat.num_intCast];omega
 ·rw [if_neg h,←kV y z h,jD _ (by omega),oH];have h1:=Nat.div_le_self y.natAbs (Nat.gcd y.natAbs z.natAbs);omega
theorem uB {k:World}{A B C:Option Addr}{n n' n'':Nat}{x:PState}(h:StateA k A n B n' C n'' x):uM x:=fun i hi=>by
 obtain⟨a,_,⟨y,z,hy,hz,_,e⟩,_⟩:=h.temp.el hi (by decide);rw [e];exact oA hy hz
section
variable {k:World}{R:World→Value→Prop}{s:PSec}{x:PBand}{n0 n1 n2 d0 d1 d2 n3 n4 n5 d3 d4 d5 n6 d6 n7 d7 n8 d8:Nat}{A0 A1 A2 A3 A4 A5 A6 A7 A8:Option Addr}{i0 i1 i2 i3 i4 i5 i6 i7 most:Int}
end
