/- Several texts in one. (Printed by prep.py.) -/
import Derived.Test.YtpeakfmjibfkpaaGreatJuCU
import Derived.Test.YtpeakfmjibfkpaaGreatJuFB
import Derived.Test.YtpeakfmjibfkpaaGreatJuVD2
import Derived.Test.YtpeakfmjibfkpaaGreatJuVS
import Derived.Test.YtpeakfmjibfkpaaGreatJuCZ2
import Derived.Test.YtpeakfmjibfkpaaGreatJuVC3
namespace Go.Proofs.YtpeakfmjibfkpaaGreat
open Go.RowKit Num W32
open Sy (Up Sees CallsG Seg)
structure PBand where
 (lo hi:PState)
structure PRange where
 (s0 s1 a0 a1:Rat)
def aPu (q:Rat):Rat:=aIh q 40
def aRi (q:Rat):Rat:=-aIh (-q) 40
def aOy (r:Rat→Rat) (s:PSec) (x:PState) (u v:Rat):PState where
 temp:=(List.range s.cells.length).map fun i=>r (aLj s x u v i)
 cure:=(List.range s.cells.length).map (aIa s x)
 spoil:=(List.range s.cells.length).map (aBm s x)
def aSq (s:PSec) (b:PBand) (r:PRange):PBand:=⟨aOy aPu s b.lo r.s0 r.a0,aOy aRi s b.hi r.s1 r.a1⟩
def btw (lo x hi:List Rat):Prop:=lo.length=x.length∧hi.length=x.length∧∀i,i<x.length→¬ at_ x i<at_ lo i∧¬ at_ hi i<at_ x i
instance (lo x hi:List Rat):Decidable (btw lo x hi):=by unfold btw;exact inferInstance
def kM (b:PBand) (x:PState):Prop:=btw b.lo.temp x.temp b.hi.temp∧btw b.lo.cure x.cure b.hi.cure∧btw b.lo.spoil x.spoil b.hi.spoil
instance (b:PBand) (x:PState):Decidable (kM b x):=by unfold kM;exact inferInstance
def aSm (x y:List Rat):Prop:=∃i,i<x.length∧at_ y i<at_ x i
def fU (x y:List Rat):Prop:=∀i,i<x.length→¬ at_ y i<at_ x i
instance (x y:List Rat):Decidable (fU x y):=by unfold fU;exact inferInstance
def alike (x y:PState):Prop:=x.temp.length=y.temp.length∧x.cure.length=y.cure.length∧x.spoil.length=y.spoil.length
instance (x y:PState):Decidable (alike x y):=by unfold alike;exact inferInstance
def gU (x y:PState):Prop:=alike x y∧fU x.temp y.temp∧fU x.cure y.cure∧fU x.spoil y.spoil
instance (x y:PState):Decidable (gU x y):=by unfold gU;exact inferInstance
theorem aAc {b:PBand}{x:PState}:kM b x↔gU b.lo x∧gU x b.hi:=by
 constructor
 ·rintro⟨⟨a1,a2,a3⟩,⟨b1,b2,b3⟩,c1,c2,c3⟩;exact⟨⟨⟨a1,b1,c1⟩,fun i hi=>(a3 i (by omega)).1,fun i hi=>(b3 i (by omega)).1,fun i hi=>(c3 i (by omega)).1⟩,⟨a2.symm,b2.symm,c2.symm⟩,fun i hi=>(a3 i hi).2,fun i hi=>(b3 i hi).2,fun i hi=>(c3 i hi).2⟩
 ·rintro⟨⟨⟨a1,b1,c1⟩,a3,b3,c3⟩,⟨a2,b2,c2⟩,a4,b4,c4⟩;exact⟨⟨a1,a2.symm,fun i hi=>⟨a3 i (by omega),a4 i hi⟩⟩,⟨b1,b2.symm,fun i hi=>⟨b3 i (by omega),b4 i hi⟩⟩,c1,c2.symm,fun i hi=>⟨c3 i (by omega),c4 i hi⟩⟩
theorem aBp {x:PState}:gU x x:=⟨⟨rfl,rfl,rfl⟩,fun _ _=>Rat.lt_irrefl,fun _ _=>Rat.lt_irrefl,fun _ _=>Rat.lt_irrefl⟩
theorem tA {b:PBand}:kM b b.lo↔gU b.lo b.hi:=by
 rw [aAc];exact⟨fun h=>h.2,fun h=>⟨aBp,h⟩⟩
def cY (s:PSec) (b:PBand):Int:=if eQ s b.lo≠0 then eQ s b.lo else if ¬ sized s b.hi then 4 else if ¬ gU b.lo b.hi then 7 else 0
def aQj (r:PRange):Int:=if r.s1<r.s0∨r.a1<r.a0 then 7 else 0
def aSp (s:PSec) (b:PBand) (r:PRange):Int:=if cY s b≠0 then cY s b else aQj r
def aRy (s:PSec) (lo hi:Rat):Int:=if aL s≠0 then aL s else if hi<lo then 7 else 0
def aRz (s:PSec) (lo hi:Rat):PBand:=⟨dK s lo,dK s hi⟩
def aCr:PState:=⟨[],[],[]⟩
def aSs (e:Int) (b:PBand):PBand:=if e≠0 then ⟨aCr,aCr⟩ else b
theorem aBz {s:PSec}{b:PBand}(h:cY s b=0):aL s=0∧sized s b.lo∧sized s b.hi∧gU b.lo b.hi:=by
 unfold cY at h;split at h
 ·rename_i h1;exact absurd h h1
 ·rename_i h1;obtain⟨h2,h3⟩:=uK (Decidable.not_not.1 h1);split at h
  ·cases h
  ·rename_i h4;split at h
   ·cases h
   ·rename_i h5;exact⟨h2,h3,Decidable.not_not.1 h4,Decidable.not_not.1 h5⟩
structure StateW (N N':World→Array Value→Rat→Prop) (k:World) (A:Option Addr) (n:Nat) (B:Option Addr) (n':Nat) (C:Option Addr) (n'':Nat) (x:PState):Prop where
 temp:Lst k A n 3 (N k) x.temp
 cure:Lst k B n' 3 (N' k) x.cure
 spoil:Lst k C n'' 3 (N' k) x.spoil
end Go.Proofs.YtpeakfmjibfkpaaGreat

namespace Go.Proofs.YtpeakfmjibfkpaaGreat
open Go.RowKit Num W32
open Sy (Up Sees CallsG Seg)
section
variable {k k':World}{R:World→Value→Prop}{cs cs':Array Value}{u v q:Rat}{s:PSec}{x:PState}{K T d n0 n1 n2 d0 d1 d2 n3 n4 n5 d3 d4 d5 n6 d6 n7 d7 M:Nat}{A0 A1 A2 A3 A4 A5 A6 A7:Option Addr}
end
end Go.Proofs.YtpeakfmjibfkpaaGreat

namespace Go.Proofs.YtpeakfmjibfkpaaGreat
open Go.RowKit Num W32
open Sy (Up Sees CallsG Seg)
structure RangeV (N:World→Array Value→Rat→Prop) (k:World) (c0 c1 c2 c3:Array Value) (r:PRange):Prop where
 s0:N k c0 r.s0
 s1:N k c1 r.s1
 a0:N k c2 r.a0
 a1:N k c3 r.a1
def aLe (x:PState):Prop:=x.temp.length≤1000000∧x.cure.length≤1000000∧x.spoil.length≤1000000
section
variable {k k':World}{R:World→Value→Prop}{c0 c1 c2 c3 cs cs':Array Value}{s:PSec}{b b':PBand}{x:PState}{r:PRange}{l0 l1 l2:List Rat}{u v:Rat}{K L T T' d M n0 n1 n2 d0 d1 d2 n3 n4 n5 d3 d4 d5 n6 d6 n7 d7 n8 d8 n9 d9 n10 d10 n11 d11:Nat}{A0 A1 A2 A3 A4 A5 A6 A7 A8 A9 A10 A11:Option Addr}
theorem zC (h0:Lst k A0 n0 3 (NP K k) l0) (h1:Lst k A1 n1 3 (NP L k) l1) (h2:Lst k A2 n2 3 (NP K k) l2) (hK1:1≤K) (hL1:1≤L) (hK:K≤300000000) (hL:L≤300000000) (hn:l1.length≤1000000)
 (C:∀k',Up k k'→R k' (.bool (decide (btw l0 l1 l2)))) :
 Cl k 64 #[.slice A0 n0 d0,.slice A1 n1 d1,.slice A2 n2 d2] R:=by
 intro k0 u0;replace h0:=h0.up u0 fun _ _ h=>h.up u0;replace h1:=h1.up u0 fun _ _ h=>h.up u0;replace h2:=h2.up u0 fun _ _ h=>h.up u0;replace C:=fun k' u=>C k' (u0.trans u);have e0:=h0.1;have e1:=h1.1;have e2:=h2.1;have no:¬ btw l0 l1 l2→∀k',Up k0 k'→R k' (.bool false):=fun h k' u=>by have:=C k' u;rwa [decide_eq_false h]at this
 refine aLw ⟨rfl,rfl,fun a k1 u1=>no (fun h=>?_) k1 u1,fun a=>⟨rfl,rfl,fun c k1 u1=>no (fun h=>?_) k1 u1,fun c=>⟨rfl,?_⟩⟩⟩
 ·have:=h.1;simp at a;omega
 ·have:=h.2.1;simp at c;omega
 have a:n0=n1:=by simp at a;omega
 have c:n2=n1:=by simp at c;omega
 refine⟨fun m k vs=>∃j:Nat,j+m=n1∧vs=[.int .i64 j]∧∀i,i<j→¬ at_ l1 i<at_ l0 i∧¬ at_ l2 i<at_ l1 i,⟨n1,fun k1 u1=>⟨0,by omega,rfl,fun i hi=>by omega⟩⟩,?_⟩;rintro m k1 vs u1 ⟨j,hj,rfl,hz⟩;refine⟨j,rfl,fun hlt=>?_,fun hge k2 u2=>?_⟩
 ·have hlt:=aG hlt;obtain⟨y,_,gy,ya,yb,yr,_⟩:=(h1.up u1 fun _ _ h=>h.up u1).el (i:=j) (by omega) (by decide);obtain⟨z,_,gz,za,zb,zr,_⟩:=(h0.up u1 fun _ _ h=>h.up u1).el (i:=j) (by omega) (by decide);obtain⟨w,_,gw,wa,wb,wr,_⟩:=(h2.up u1 fun _ _ h=>h.up u1).el (i:=j) (by omega) (by decide);refine⟨ya,yb,y,gy.seg,yr k1 (Up.refl _),za,zb,z,gz.seg,zr k1 (Up.refl _),dT gy gz hL1 hL hK fun k4 u4=>⟨_,rfl,fun f k5 u5=>no (fun h=>?_) k5 (u1.trans (u4.trans u5)),fun f=>⟨wa,wb,w,gw.seg,wr k4 u4,ya,yb,y,gy.seg,yr k4 u4,dT (gw.up u4) (gy.up u4) hK1 hK hL fun k7 u7=>⟨_,rfl,fun g k8 u8=>no (fun h=>?_) k8 (u1.trans (u4.trans (u7.trans u8))),fun g k9 u9=>?_⟩⟩⟩⟩
  ·exact (h.2.2 j (by omega)).1 (of_decide_eq_true f)
  ·exact (h.2.2 j (by omega)).2 (of_decide_eq_true g)
  ·exact⟨m-1,by omega,j+1,by omega,by rw [aD (by omega)],bS hz ⟨of_decide_eq_false f,of_decide_eq_false g⟩⟩
 ·have hge:=aF hge;have:=C k2 (u1.trans u2)
  rwa [decide_eq_true (show btw l0 l1 l2 from⟨by omega,by omega,fun i hi=>hz i (by omega)⟩)]at this
theorem aDr (hl:StateV (NP K) k A0 n0 A1 n1 A2 n2 b.lo) (hh:StateV (NP K) k A3 n3 A4 n4 A5 n5 b.hi) (hx:StateV (NP L) k A6 n6 A7 n7 A8 n8 x) (hK1:1≤K) (hL1:1≤L) (hK:K≤300000000) (hL:L≤300000000) (hn:aLe x)
 (C:∀k',Up k k'→R k' (.bool (decide (kM b x)))) :
 Cl k 22 #[.agg #[.slice A0 n0 d0,.slice A1 n1 d1,.slice A2 n2 d2,.slice A3 n3 d3,.slice A4 n4 d4,.slice A5 n5 d5],.agg #[.slice A6 n6 d6,.slice A7 n7 d7,.slice A8 n8 d8]] R:=by
 intro k0 u0;have hN:=aP K;have hM:=aP L;replace hl:=StateV.up hN hl u0;replace hh:=StateV.up hN hh u0;replace hx:=StateV.up hM hx u0;replace C:=fun k' u=>C k' (u0.trans u);refine zI (zC hl.temp hx.temp hh.temp hK1 hL1 hK hL hn.1 fun k1 u1=>⟨_,rfl,fun f=>zC (StateV.up hN hl u1).cure (StateV.up hM hx u1).cure (StateV.up hN hh u1).cure hK1 hL1 hK hL hn.2.1 fun k3 u3=>⟨_,rfl,fun g=>zC (StateV.up hN hl (u1.trans u3)).spoil (StateV.up hM hx (u1.trans u3)).spoil (StateV.up hN hh (u1.trans u3)).spoil hK1 hL1 hK hL hn.2.2 fun k5 u5=>⟨_,rfl,fun k6 u6=>?_⟩,fun g k7 u7=>?_⟩,fun f k8 u8=>?_⟩)
 ·have:=C k6 ((u1.trans u3).trans (u5.trans u6))
  rwa [show decide (kM b x)=decide (btw b.lo.spoil x.spoil b.hi.spoil) from decide_eq_decide.2 ⟨fun h=>h.2.2,fun h=>⟨of_decide_eq_true f,of_decide_eq_true g,h⟩⟩]at this
 ·have:=C k7 ((u1.trans u3).trans u7)
  rwa [decide_eq_false fun h=>of_decide_eq_false g h.2.1]at this
 ·have:=C k8 (u1.trans u8)
  rwa [decide_eq_false fun h=>of_decide_eq_false f h.1]at this
theorem aLv (hs:SecV (NP K) k A0 n0 A1 n1 A2 n2 s) (hl:StateV (NP T) k A3 n3 A4 n4 A5 n5 b.lo) (hh:StateV (NP T) k A6 n6 A7 n7 A8 n8 b.hi) (hK1:1≤K) (hK:K≤1000000) (hT1:1≤T) (hT:T≤300000000)
 (C:∀k',Up k k'→R k' (.int .i64 (cY s b))) :
 Cl k 66 #[.agg #[.slice A0 n0 d0,.slice A1 n1 d1,.slice A2 n2 d2],.agg #[.slice A3 n3 d3,.slice A4 n4 d4,.slice A5 n5 d5,.slice A6 n6 d6,.slice A7 n7 d7,.slice A8 n8 d8]] R:=by
 intro k0 u0;have hN:=aP K;have hM:=aP T;replace hs:=SecV.up hN hs u0;replace hl:=StateV.up hM hl u0;replace hh:=StateV.up hM hh u0;replace C:=fun k' u=>C k' (u0.trans u);have e1:=hs.cells.1;have f3:=hh.temp.1;have f4:=hh.cure.1;have f5:=hh.spoil.1;refine aHh (aCc hs hl.temp.1 hl.cure.1 hl.spoil.1 hK1 hK fun k1 u1=>⟨_,rfl,fun f k2 u2=>?_,fun f=>wS fun k4 u4=>⟨_,rfl,fun g k5 u5=>?_,fun g=>?_⟩⟩)
 ·have:=C k2 (u1.trans u2);unfold cY at this
  rwa [if_pos (cZ f)]at this
 ·have hz:¬ (n6=n1∧n7=n1∧n8=n1):=fun h=>by rw [if_pos h]at g;cases g
  have:=C k5 (u1.trans (u4.trans u5));unfold cY at this;rw [if_neg (by simp [bX f]),if_pos (by unfold sized;omega)]at this
  rwa [if_neg hz]
 ·have hz:n6=n1∧n7=n1∧n8=n1:=Classical.byContradiction fun h=>by rw [if_neg h]at g;cases g
  have hsz:sized s b.hi:=by unfold sized;omega
  obtain⟨hE,z1,z2,z3⟩:=uK (bX f);have hc24:s.cells.length≤24:=by have:=cB hE;unfold bR at this;omega
  have v4:=u1.trans u4;refine aDr (b:=b) (StateV.up hM hl v4) (StateV.up hM hh v4) (StateV.up hM hl v4) hT1 hT1 hT hT ⟨by omega,by omega,by omega⟩ fun k7 u7=>⟨_,rfl,fun h k8 u8=>?_,fun h k9 u9=>?_⟩
  ·have:=C k8 (v4.trans (u7.trans u8));unfold cY at this
   rwa [if_neg (by simp [bX f]),if_neg (fun h=>h hsz),if_pos fun h'=>of_decide_eq_false (by simpa using h) (tA.2 h')]at this
  ·have:=C k9 (v4.trans (u7.trans u9));unfold cY at this
   rwa [if_neg (by simp [bX f]),if_neg (fun h=>h hsz),if_neg fun h'=>h' (tA.1 (of_decide_eq_true (by simpa using h)))]at this
end
end Go.Proofs.YtpeakfmjibfkpaaGreat

namespace Go.Proofs.YtpeakfmjibfkpaaGreat
open Go.RowKit Num W32
open Sy (Up Sees CallsG Seg ReadIn)
def NF (W:Nat) (k:World) (a:Array Value) (v:Rat×Bool):Prop:=QV k a v.1 (bif v.2 then W+2003 else W)
section
variable {k k':World}{R:World→Value→Prop}{c0 c1 c2 c3 cs cs':Array Value}{s:PSec}{b b':PBand}{x y:PState}{r:PRange}{l0 l1 l2:List Rat}{u v:Rat}{K L T T' d M n0 n1 n2 d0 d1 d2 n3 n4 n5 d3 d4 d5 n6 d6 n7 d7 n8 d8 n9 d9 n10 d10 n11 d11:Nat}{A0 A1 A2 A3 A4 A5 A6 A7 A8 A9 A10 A11:Option Addr}
theorem uH (h0:Lst k A0 n0 3 (NR K k) l0) (h1:Lst k A1 n1 3 (NR L k) l1) (he:l0.length=l1.length) (hK:K≤300000000) (hL:L≤300000000) (hn:l1.length≤1000000)
 (C:∀k',Up k k'→R k' (.bool (!decide (fU l0 l1)))) :
 Cl k 113 #[.slice A0 n0 d0,.slice A1 n1 d1] R:=by
 intro k0 u0;replace h0:=h0.up u0 fun _ _ h=>h.up u0;replace h1:=h1.up u0 fun _ _ h=>h.up u0;replace C:=fun k' u=>C k' (u0.trans u);have e0:=h0.1;have e1:=h1.1;refine aFs ⟨fun m k vs=>∃j:Nat,j+m=n0∧vs=[.int .i64 j]∧∀i,i<j→¬ at_ l1 i<at_ l0 i,⟨n0,fun k1 u1=>⟨0,by omega,rfl,fun i hi=>by omega⟩⟩,?_⟩;rintro m k1 vs u1 ⟨j,hj,rfl,hz⟩;refine⟨j,rfl,rfl,fun hlt=>?_,fun hge k2 u2=>?_⟩
 ·have hlt:=aG hlt;obtain⟨y,_,gy,ya,yb,yr,_⟩:=(h0.up u1 fun _ _ h=>h.up u1).el (i:=j) (by omega) (by decide);obtain⟨z,_,gz,za,zb,zr,_⟩:=(h1.up u1 fun _ _ h=>h.up u1).el (i:=j) (by omega) (by decide);refine⟨ya,yb,y,gy.seg,yr k1 (Up.refl _),za,zb,z,gz.seg,zr k1 (Up.refl _),oL gy gz (by omega) fun k3 u3=>⟨_,rfl,fun f k4 u4=>?_,fun f k4 u4=>?_⟩⟩
  ·rw [jR]at f;have:=C k4 (u1.trans (u3.trans u4))
   rwa [decide_eq_false (show ¬ fU l0 l1 from fun h=>h j (by omega) (of_decide_eq_true f))]at this
  ·rw [jR]at f;exact⟨m-1,by omega,j+1,by omega,by rw [aD (by omega)],bS hz (of_decide_eq_false f)⟩
 ·have hge:=aF hge;have:=C k2 (u1.trans u2)
  rwa [decide_eq_true (show fU l0 l1 from fun i hi=>hz i (by omega))]at this
theorem aOm (hx:StateV (NR K) k A0 n0 A1 n1 A2 n2 x) (hy:StateV (NR L) k A3 n3 A4 n4 A5 n5 y) (hK:K≤300000000) (hL:L≤300000000) (hn:aLe x)
 (C:∀k',Up k k'→R k' (.bool (decide (gU x y)))) :
 Cl k 65 #[.agg #[.slice A0 n0 d0,.slice A1 n1 d1,.slice A2 n2 d2],.agg #[.slice A3 n3 d3,.slice A4 n4 d4,.slice A5 n5 d5]] R:=by
 intro k0 u0;have hN:=cF K;have hM:=cF L;replace hx:=StateV.up hN hx u0;replace hy:=StateV.up hM hy u0;replace C:=fun k' u=>C k' (u0.trans u);have e0:=hx.temp.1;have e1:=hx.cure.1;have e2:=hx.spoil.1;have e3:=hy.temp.1;have e4:=hy.cure.1;have e5:=hy.spoil.1;obtain⟨g0,g1,g2⟩:=hn;have no:¬ gU x y→∀k',Up k0 k'→R k' (.bool false):=fun h k' u=>by have:=C k' u;rwa [decide_eq_false h]at this
 refine aGg ⟨rfl,rfl,fun a k1 u1=>no (fun h=>?_) k1 u1,fun a=>⟨rfl,rfl,fun a' k1 u1=>no (fun h=>?_) k1 u1,fun a'=>⟨rfl,rfl,fun a'' k1 u1=>no (fun h=>?_) k1 u1,fun a''=>?_⟩⟩⟩
 ·have:=h.1.1;simp at a;omega
 ·have:=h.1.2.1;simp at a';omega
 ·have:=h.1.2.2;simp at a'';omega
 have a:n0=n3:=by simp at a;omega
 have a':n1=n4:=by simp at a';omega
 have a'':n2=n5:=by simp at a'';omega
 have dd:∀ {c:Bool},(!(!c))=true→c=true:=fun h=>by simpa using h
 have df:∀ {c:Bool},(!(!c))=false→c=false:=fun h=>by simpa using h
 refine uH hx.temp hy.temp (by omega) hK hL (by omega) fun k4 u4=>⟨_,rfl,fun f=>uH (StateV.up hN hx u4).cure (StateV.up hM hy u4).cure (by omega) hK hL (by omega) fun k6 u6=>⟨_,rfl,fun g=>uH (StateV.up hN hx (u4.trans u6)).spoil (StateV.up hM hy (u4.trans u6)).spoil (by omega) hK hL (by omega) fun k8 u8=>⟨_,rfl,fun k9 u9=>?_⟩,fun g k10 u10=>no (fun h=>of_decide_eq_false (df g) h.2.2.1) k10 ((u4.trans u6).trans u10)⟩,fun f k11 u11=>no (fun h=>of_decide_eq_false (df f) h.2.1) k11 (u4.trans u11)⟩;have:=C k9 ((u4.trans u6).trans (u8.trans u9))
 rwa [show decide (gU x y)=!(!decide (fU x.spoil y.spoil)) by rw [Bool.not_not];exact decide_eq_decide.2 ⟨fun h=>h.2.2.2,fun h=>⟨⟨by omega,by omega,by omega⟩,of_decide_eq_true (dd f),of_decide_eq_true (dd g),h⟩⟩]at this
theorem aHd (hs:SecV (NR K) k A0 n0 A1 n1 A2 n2 s) (hl:StateV (NR T) k A3 n3 A4 n4 A5 n5 b.lo) (hh:StateV (NR T) k A6 n6 A7 n7 A8 n8 b.hi) (hK:K≤1000000) (hT:T≤300000000)
 (C:∀k',Up k k'→R k' (.int .i64 (cY s b))) :
 Cl k 70 #[.agg #[.slice A0 n0 d0,.slice A1 n1 d1,.slice A2 n2 d2],.agg #[.slice A3 n3 d3,.slice A4 n4 d4,.slice A5 n5 d5,.slice A6 n6 d6,.slice A7 n7 d7,.slice A8 n8 d8]] R:=by
 intro k0 u0;have hN:=cF K;have hM:=cF T;replace hs:=SecV.up hN hs u0;replace hl:=StateV.up hM hl u0;replace hh:=StateV.up hM hh u0;replace C:=fun k' u=>C k' (u0.trans u);have e1:=hs.cells.1;have f0:=hl.temp.1;have f1:=hl.cure.1;have f2:=hl.spoil.1;have f3:=hh.temp.1;have f4:=hh.cure.1;have f5:=hh.spoil.1;refine aAu (aOn hs hK fun k1 u1=>⟨_,rfl,fun f k2 u2=>?_,fun f=>aDb fun k4 u4=>⟨_,rfl,fun g k5 u5=>?_,fun g=>aDb fun k7 u7=>⟨_,rfl,fun g' k8 u8=>?_,fun g'=>?_⟩⟩⟩)
 ·have:=C k2 (u1.trans u2);have hb:eQ s b.lo=aL s:=by unfold eQ;rw [if_pos (cZ f)]
  unfold cY at this
  rwa [hb,if_pos (cZ f)]at this
 ·have hz:=of_decide_eq_false (tL g);have:=C k5 (u1.trans (u4.trans u5));have hb:eQ s b.lo=4:=by unfold eQ;rw [if_neg (by simp [bX f]),if_pos (by unfold sized;omega)]
  unfold cY at this
  rwa [hb,if_pos (by decide)]at this
 ·have hz:=of_decide_eq_true (mW g);have hz':=of_decide_eq_false (tL g');have:=C k8 (u1.trans (u4.trans (u7.trans u8)));have hb:eQ s b.lo=0:=by unfold eQ;rw [if_neg (by simp [bX f]),if_neg (fun h=>h (by unfold sized;omega))]
  unfold cY at this
  rwa [hb,if_neg (by simp),if_pos (by unfold sized;omega)]at this
 ·have hz:=of_decide_eq_true (mW g);have hz':=of_decide_eq_true (mW g');have hb:eQ s b.lo=0:=by unfold eQ;rw [if_neg (by simp [bX f]),if_neg (fun h=>h (by unfold sized;omega))]
  have hsz:sized s b.hi:=by unfold sized;omega
  have hc24:s.cells.length≤24:=by have:=cB (bX f);unfold bR at this;omega
  have v7:=u1.trans (u4.trans u7);refine aOm (StateV.up hM hl v7) (StateV.up hM hh v7) hT hT ⟨by omega,by omega,by omega⟩ fun k10 u10=>⟨_,rfl,fun h k11 u11=>?_,fun h k12 u12=>?_⟩
  ·have:=C k11 (v7.trans (u10.trans u11));unfold cY at this
   rwa [hb,if_neg (by simp),if_neg (fun h=>h hsz),if_pos (of_decide_eq_false (tL h))]at this
  ·have:=C k12 (v7.trans (u10.trans u12));unfold cY at this
   rwa [hb,if_neg (by simp),if_neg (fun h=>h hsz),if_neg (fun h'=>h' (of_decide_eq_true (mW h)))]at this
end
end Go.Proofs.YtpeakfmjibfkpaaGreat

namespace Go.Proofs.YtpeakfmjibfkpaaGreat
open Go.RowKit Num W32
open Sy (Up Sees CallsG Seg ReadAt)
def few30 (x:PState):Prop:=x.temp.length≤30∧x.cure.length≤30∧x.spoil.length≤30
def small5 (x:PState):Prop:=x.temp.length≤100000∧x.cure.length≤100000∧x.spoil.length≤100000
theorem aDg {x:Int}:¬ (x == x)=false:=by simp
section
variable {k:World}{R:World→Value→Prop}{s:PSec}{b x y:PBand}{z:PState}{K L n0 n1 n2 d0 d1 d2 n3 n4 n5 d3 d4 d5 n6 d6 n7 d7 n8 d8 n9 d9 n10 d10 n11 d11 n12 d12 n13 d13 n14 d14 n15 d15 n16 d16 n17 d17:Nat}{A0 A1 A2 A3 A4 A5 A6 A7 A8 A9 A10 A11 A12 A13 A14 A15 A16 A17:Option Addr}{i0 i1 i2 i3 i4 i5 i6 i7:Int}
theorem aEm (h0:n0=b.lo.temp.length) (h1:n1=b.lo.cure.length) (h2:n2=b.lo.spoil.length) (h3:n3=b.hi.temp.length) (h4:n4=b.hi.cure.length) (h5:n5=b.hi.spoil.length) (C:∀k' f,Up k k'→(f=true→few30 b.lo∧few30 b.hi)→R k' (.bool f)) :
 Cl k 11 #[.agg #[.slice A0 n0 d0,.slice A1 n1 d1,.slice A2 n2 d2,.slice A3 n3 d3,.slice A4 n4 d4,.slice A5 n5 d5]] R:=by
 intro k0 u0;refine aIt (qK h0 h1 h2 fun k1 f u1 hf=>⟨_,rfl,fun e=>qK h3 h4 h5 fun k3 f' u3 hf'=>⟨_,rfl,fun k4 u4=>C k4 _ ((u0.trans u1).trans (u3.trans u4)) fun e'=>⟨hf e,hf' e'⟩⟩,fun _ k5 u5=>C k5 _ ((u0.trans u1).trans u5) (by intro h;cases h)⟩)
theorem aIs (hl:StateA k A0 n0 A1 n1 A2 n2 b.lo) (hh:StateA k A3 n3 A4 n4 A5 n5 b.hi) (fl:few30 b.lo) (fh:few30 b.hi)
 (C:∀k' B0 m0 e0 B1 m1 e1 B2 m2 e2 B3 m3 e3 B4 m4 e4 B5 m5 e5 D0 p0 f0 D1 p1 f1 D2 p2 f2 D3 p3 f3 D4 p4 f4 D5 p5 f5,Up k k'→StateV (NP 1) k' B0 m0 B1 m1 B2 m2 b.lo→StateV (NP 1) k' B3 m3 B4 m4 B5 m5 b.hi→StateV (NR 2) k' D0 p0 D1 p1 D2 p2 b.lo→StateV (NR 2) k' D3 p3 D4 p4 D5 p5 b.hi→
   R k' (.tuple #[.agg #[.slice B0 m0 e0,.slice B1 m1 e1,.slice B2 m2 e2,.slice B3 m3 e3,.slice B4 m4 e4,.slice B5 m5 e5],.agg #[.slice D0 p0 f0,.slice D1 p1 f1,.slice D2 p2 f2,.slice D3 p3 f3,.slice D4 p4 f4,.slice D5 p5 f5]])) :
 Cl k 15 #[.agg #[.slice A0 n0 d0,.slice A1 n1 d1,.slice A2 n2 d2,.slice A3 n3 d3,.slice A4 n4 d4,.slice A5 n5 d5]] R:=by
 intro k0 u0;refine aEs (tD (hl.up u0) fl fun k1 B0 m0 e0 B1 m1 e1 B2 m2 e2 D0 p0 f0 D1 p1 f1 D2 p2 f2 u1 h1 h1'=>⟨_,_,_,_,_,_,_,_,_,_,_,_,_,_,_,_,_,_,rfl,?_⟩);refine tD ((hh.up u0).up u1) fh fun k3 B3 m3 e3 B4 m4 e4 B5 m5 e5 D3 p3 f3 D4 p4 f4 D5 p5 f5 u3 h3 h3'=>⟨_,_,_,_,_,_,_,_,_,_,_,_,_,_,_,_,_,_,rfl,fun k4 u4=>?_⟩;exact C k4 _ _ _ _ _ _ _ _ _ _ _ _ _ _ _ _ _ _ _ _ _ _ _ _ _ _ _ _ _ _ _ _ _ _ _ _ ((u0.trans u1).trans (u3.trans u4)) (StateV.up (aP 1) h1 (u3.trans u4)) (StateV.up (aP 1) h3 u4) (StateV.up (cF 2) h1' (u3.trans u4)) (StateV.up (cF 2) h3' u4)
end
end Go.Proofs.YtpeakfmjibfkpaaGreat

namespace Go.Proofs.YtpeakfmjibfkpaaGreat
open Go.RowKit Num W32
def aO (f:Nat→Nat→Bool):Nat→Nat
 | 0=>0
 | j+1=>if f j (aO f j)=true then j else aO f j
theorem gD {f:Nat→Nat→Bool}:∀ {n:Nat},aO f n≤n-1
 | 0=>Nat.le_refl _
 | n+1=>by
  have:=gD (f:=f) (n:=n);unfold aO;split <;> omega
theorem sX {f:Nat→Nat→Bool}{n:Nat}(h:0<n):aO f n<n:=by have:=gD (f:=f) (n:=n);omega
theorem qL {f:Nat→Nat→Bool}:aO f 1=0:=by
 unfold aO;split <;> rfl
theorem lO {l:Nat→Rat}:∀ {n i:Nat},i<n→¬ l i<l (aO (fun i b=>decide (l i<l b)) n)
 | n+1,i,hi=>by
  unfold aO
  by_cases h:l n<l (aO (fun i b=>decide (l i<l b)) n)
  ·rw [if_pos (decide_eq_true h)]
   by_cases e:i=n
   ·rw [e];exact Rat.lt_irrefl
   ·have ih:=lO (l:=l) (n:=n) (i:=i) (by omega);exact fun g=>ih (Std.lt_trans g h)
  ·rw [if_neg (by simp [h])]
   by_cases e:i=n
   ·rw [e];exact h
   ·exact lO (by omega)
theorem yJ {x y a b:Rat}(ha:0<a) (hb:0<b):x/a<y/b↔x*b<y*a:=by
 rw [Rat.div_lt_iff ha,show y/b*a=y*a/b by grind,Rat.lt_div_iff hb]
theorem aGj {x a:Rat}(ha:0<a):x/a<1↔x<a:=by rw [Rat.div_lt_iff ha,Rat.one_mul]
theorem aFh {x a:Rat}(ha:0<a):1<x/a↔a<x:=by rw [Rat.lt_div_iff ha,Rat.one_mul]
def qI (s:PSec) (i:Nat):Rat:=(at_ s.mats (at_ s.cells i).m.toNat).done
def jA (s:PSec) (i:Nat):Rat:=(at_ s.mats (at_ s.cells i).m.toNat).limit
def aR (s:PSec) (x:PState):List Rat:=(List.range s.cells.length).map fun i=>at_ x.cure i/qI s i
def bJ (s:PSec) (x:PState):List Rat:=(List.range s.cells.length).map fun i=>at_ x.spoil i/jA s i
def cI (l:List Rat) (i b:Nat):Bool:=decide (at_ l i<at_ l b)
def cO (l:List Rat) (i b:Nat):Bool:=decide (at_ l b<at_ l i)
def iT (s:PSec) (x:PState):Nat:=aO (cI (aR s x)) s.cells.length
def sV (s:PSec) (x:PState):Nat:=aO (cO (bJ s x)) s.cells.length
def mI (s:PSec) (x:PState):Prop:=∀i,i<s.cells.length→¬ at_ x.cure i<qI s i
def fG (s:PSec) (x:PState):Prop:=¬ ∀i,i<s.cells.length→¬ jA s i<at_ x.spoil i
instance (s:PSec) (x:PState):Decidable (mI s x):=by unfold mI;exact inferInstance
instance (s:PSec) (x:PState):Decidable (fG s x):=by unfold fG;exact inferInstance
def fQ (s:PSec) (b:PBand):Int:=if fG s b.lo then 2 else if fG s b.hi then 3 else if ¬ mI s b.lo then 1 else 0
theorem gH {s:PSec}(h:aL s=0) {i:Nat}(hi:i<s.cells.length):0<qI s i∧0<jA s i:=by
 obtain⟨h0,h1,_⟩:=fV h hi;have:=iK (pS h) (at_ s.cells i).m.toNat (by omega);unfold lQ at this;split at this
 ·rename_i hn;exact absurd this hn
 ·split at this
  ·rename_i hn;exact absurd this hn
  ·split at this
   ·cases this
   ·rename_i hn;rw [not_or,Decidable.not_not,Decidable.not_not]at hn;exact hn
theorem aLd {s:PSec}(h:aL s=0) {x:PState}{i b:Nat}(hi:i<s.cells.length) (hb:b<s.cells.length):cI (aR s x) i b=decide (at_ x.cure i*qI s b<at_ x.cure b*qI s i):=by
 unfold cI aR;rw [dS hi,dS hb];exact decide_eq_decide.2 (yJ (gH h hi).1 (gH h hb).1)
theorem aIg {s:PSec}(h:aL s=0) {x:PState}{i b:Nat}(hi:i<s.cells.length) (hb:b<s.cells.length):cO (bJ s x) i b=decide (at_ x.spoil b*jA s i<at_ x.spoil i*jA s b):=by
 unfold cO bJ;rw [dS hi,dS hb];exact decide_eq_decide.2 (yJ (gH h hb).2 (gH h hi).2)
theorem aId {s:PSec}(h:aL s=0) {x:PState}(hn:0<s.cells.length):(¬ at_ (aR s x) (iT s x)<1)↔mI s x:=by
 have hl:iT s x<s.cells.length:=sX hn;have hm:∀i,i<s.cells.length→¬ at_ (aR s x) i<at_ (aR s x) (iT s x):=fun i hi=>lO (l:=at_ (aR s x)) hi;have e:∀i,i<s.cells.length→(at_ (aR s x) i<1↔at_ x.cure i<qI s i):=fun i hi=>by
  unfold aR;rw [dS hi];exact aGj (gH h hi).1
 constructor
 ·intro g i hi hc;exact hm i hi (by have:=(e i hi).2 hc;grind)
 ·intro g hc;exact g _ hl ((e _ hl).1 hc)
end Go.Proofs.YtpeakfmjibfkpaaGreat

namespace Go.Proofs.YtpeakfmjibfkpaaGreat
open Go.RowKit Num W32
open Sy (Up Sees CallsG Seg)
section
variable {k k':World}{R:World→Value→Prop}{cs cs':Array Value}{s:PSec}{b:PBand}{x:PState}{l:List Rat}{K L T d n0 n1 n2 d0 d1 d2 n3 n4 n5 d3 d4 d5 n6 d6 n7 d7 n8 d8 n c:Nat}{A A0 A1 A2 A3 A4 A5 A6 A7 A8:Option Addr}
theorem qF {f:FuncId}{g:PMat→Rat}(hvc:zA f) (hf:∀ {k:World}{cs:Array Value}{m:PMat}{R:World→Value→Prop},MatV (NP K) k cs m→(∀k' ds,Up k k'→RatV k' ds (g m) K→R k' (.agg ds))→∀k0,Up k k0→CallsG Tryz.prog f #[.agg cs] k0 R) (hs:SecV (NP K) k A0 n0 A1 n1 A2 n2 s) (hx:Lst k A3 n3 3 (NP T k) l) (hE:aL s=0) (hz:l.length=s.cells.length) (hK1:1≤K) (hT1:1≤T) (hK:K≤300000000) (hT:T≤300000000)
 (C:∀k' B m e,Up k k'→Lst k' B m 3 (NP (T+K) k') ((List.range s.cells.length).map fun i=>at_ l i/g (at_ s.mats (at_ s.cells i).m.toNat))→R k' (.slice B m e)) :
 Cl k 166 #[.agg #[.slice A0 n0 d0,.slice A1 n1 d1,.slice A2 n2 d2],.slice A3 n3 d3,.func (.func f) #[] #[]] R:=by
 intro k0 u0;have hN:=aP K;replace hs:=SecV.up hN hs u0;replace hx:=hx.up u0 fun _ _ h=>h.up u0;replace C:=fun k' B m e u=>C k' B m e (u0.trans u);have hce:=hs.cells.1;have hn24:s.cells.length≤24:=by have:=cB hE;unfold bR at this;omega
 have hseg:∀ {k:World},∀a v,NP (T+K) k a v→Seg 3 a:=fun _ _ h=>h.seg;refine hvc ⟨rfl,fun m k vs=>∃(j:Nat) (B:Option Addr) (e:Nat) (xs:Array Value),j+m=n1∧vs=[.int .i64 j,.tuple #[.slice B j e,.agg xs]]∧ArrV j 3 (NP (T+K) k) xs (at_ ((List.range s.cells.length).map fun i=>at_ l i/g (at_ s.mats (at_ s.cells i).m.toNat))),⟨n1,fun k1 u1=>⟨0,_,_,_,by omega,rfl,ArrV.empty⟩⟩,?_⟩;rintro m k1 vs u1 ⟨j,B,e,xs,hj,rfl,h0⟩;refine⟨j,B,j,e,xs,h0.rowC hseg,rfl,fun hlt=>?_,fun hge k6 u6 r6 k7 u7=>?_⟩
 ·have hlt:=aG hlt;have hjn:j<s.cells.length:=by omega
  replace hs:=SecV.up hN hs u1;obtain⟨a,_,⟨c0,c1,c2,rfl,q0,q1,q2⟩,ha,hb,hr,_⟩:=hs.cells.el hjn (by decide);obtain⟨t,_,ht,ta,tb,tr,_⟩:=(hx.up u1 fun _ _ h=>h.up u1).el (i:=j) (by omega) (by decide);obtain⟨hm0,hm1,_⟩:=fV hE hjn;have hmi:(at_ s.cells j).m=(((at_ s.cells j).m.toNat:Nat):Int):=by omega
  obtain⟨a',_,hmv,ha',hb',hr',_⟩:=hs.mats.el (i:=(at_ s.cells j).m.toNat) (by omega) (by decide);rw [←hmi]at hb' hr';obtain⟨D,p1,r1,F,p2,r2,c4,c5,rfl,l0,l1,s0,s1⟩:=id hmv;refine⟨ha,hb,_,c0,q0.seg,c1,q1.seg,c2,q2.seg,hr k1 (Up.refl _),ta,tb,t,ht.seg,tr k1 (Up.refl _),ha',hb',D,p1,r1,F,p2,r2,c4,s0.seg,c5,s1.seg,hr' k1 (Up.refl _),?_⟩;refine hf hmv fun k2 ds v2 hds=>⟨ds,hds.seg,rfl,?_⟩;refine aHv (ht.up v2) hds hT1 hK1 hT hK fun k4 y4 u4 w4=>⟨y4,w4.seg,rfl,by simp [w4.seg.1],by decide,⟨by simp;omega,by simp;omega⟩,?_⟩;rintro B' _ e' _ rfl rfl _ k5 u5;refine⟨m-1,by omega,j+1,B',e',_,by omega,by rw [aD (by omega)];rfl,?_⟩;rw [List.append_nil];refine ArrV.push (h0.mono fun a v h=>h.up (v2.trans (u4.trans u5))) w4.seg.1 ?_;rw [dS hjn];exact w4.up u5
 ·have hge:=aF hge;have ej:j=n1:=by omega
  refine C k7 B j e (u1.trans (u6.trans u7)) (lP (by simp;omega) ((h0.mono fun _ _ h=>h.up u6).mono fun _ _ h=>h.up u7) hseg (dH r6 u7))
theorem zL (hs:SecV (NP K) k A0 n0 A1 n1 A2 n2 s) (hx:Lst k A3 n3 3 (NP T k) x.cure) (hE:aL s=0) (hz:x.cure.length=s.cells.length) (hK1:1≤K) (hT1:1≤T) (hK:K≤300000000) (hT:T≤300000000)
 (C:∀k' B m e,Up k k'→Lst k' B m 3 (NP (T+K) k') (aR s x)→R k' (.slice B m e)) :
 Cl k 166 #[.agg #[.slice A0 n0 d0,.slice A1 n1 d1,.slice A2 n2 d2],.slice A3 n3 d3,.func (.func 167) #[] #[]] R:=
 qF (g:=fun m=>m.done) wO (fun hm C k0 u0=>by
  obtain⟨D,p1,r1,F,p2,r2,c4,c5,rfl,l0,l1,s0,s1⟩:=hm
  exact zE s0.seg s1.seg fun k2 u2=>C k2 c4 (u0.trans u2) (s0.up (u0.trans u2))) hs hx hE hz hK1 hT1 hK hT C
theorem zM (hs:SecV (NP K) k A0 n0 A1 n1 A2 n2 s) (hx:Lst k A3 n3 3 (NP T k) x.spoil) (hE:aL s=0) (hz:x.spoil.length=s.cells.length) (hK1:1≤K) (hT1:1≤T) (hK:K≤300000000) (hT:T≤300000000)
 (C:∀k' B m e,Up k k'→Lst k' B m 3 (NP (T+K) k') (bJ s x)→R k' (.slice B m e)) :
 Cl k 166 #[.agg #[.slice A0 n0 d0,.slice A1 n1 d1,.slice A2 n2 d2],.slice A3 n3 d3,.func (.func 168) #[] #[]] R:=
 qF (g:=fun m=>m.limit) wP (fun hm C k0 u0=>by
  obtain⟨D,p1,r1,F,p2,r2,c4,c5,rfl,l0,l1,s0,s1⟩:=hm
  exact wR s0.seg s1.seg fun k2 u2=>C k2 c5 (u0.trans u2) (s1.up (u0.trans u2))) hs hx hE hz hK1 hT1 hK hT C
theorem wK (hs:SecV (NP K) k A0 n0 A1 n1 A2 n2 s) (hx:StateV (NP T) k A3 n3 A4 n4 A5 n5 x) (hE:aL s=0) (hz:sized s x) (hK1:1≤K) (hT1:1≤T) (hK:K≤300000000) (hT:T≤300000000)
 (C:∀k' B m e,Up k k'→Lst k' B m 3 (NP (T+K) k') (aR s x)→R k' (.slice B m e)) :
 Cl k 122 #[.agg #[.slice A0 n0 d0,.slice A1 n1 d1,.slice A2 n2 d2],.agg #[.slice A3 n3 d3,.slice A4 n4 d4,.slice A5 n5 d5]] R:=by
 intro k0 u0;refine aDm (zL (SecV.up (aP K) hs u0) (StateV.up (aP T) hx u0).cure hE hz.2.1 hK1 hT1 hK hT fun k1 B m e u1 h1=>⟨_,_,_,rfl,fun k2 u2=>?_⟩);exact C k2 B m e (u0.trans (u1.trans u2)) (h1.up u2 fun _ _ h=>h.up u2)
theorem sP (hs:SecV (NP K) k A0 n0 A1 n1 A2 n2 s) (hx:StateV (NP T) k A3 n3 A4 n4 A5 n5 x) (hE:aL s=0) (hz:sized s x) (hK1:1≤K) (hT1:1≤T) (hK:K≤300000000) (hT:T≤300000000)
 (C:∀k' B m e,Up k k'→Lst k' B m 3 (NP (T+K) k') (bJ s x)→R k' (.slice B m e)) :
 Cl k 123 #[.agg #[.slice A0 n0 d0,.slice A1 n1 d1,.slice A2 n2 d2],.agg #[.slice A3 n3 d3,.slice A4 n4 d4,.slice A5 n5 d5]] R:=by
 intro k0 u0;refine zN (zM (SecV.up (aP K) hs u0) (StateV.up (aP T) hx u0).spoil hE hz.2.2 hK1 hT1 hK hT fun k1 B m e u1 h1=>⟨_,_,_,rfl,fun k2 u2=>?_⟩);exact C k2 B m e (u0.trans (u1.trans u2)) (h1.up u2 fun _ _ h=>h.up u2)
theorem sK (hl:Lst k A n 3 (NP K k) l) (hK1:1≤K) (hK:K≤300000000) (h0:0<l.length) (hn:l.length≤1000000) (C:∀k',Up k k'→R k' (.int .i64 (aO (cI l) l.length:Nat))) :
 Cl k 121 #[.slice A n c,.func (.func 55) #[] #[]] R:=by
 intro k0 u0;replace hl:=hl.up u0 fun _ _ h=>h.up u0;have hnl:=hl.1;refine zG ⟨rfl,fun m k vs=>∃j:Nat,j+m=n∧vs=[.int .i64 (aO (cI l) j:Nat),.int .i64 j],⟨n,fun k1 u1=>⟨0,by omega,rfl⟩⟩,?_⟩;rintro m k1 vs u1 ⟨j,hj,rfl⟩;refine⟨_,j,rfl,fun hlt=>?_,fun hge k5 u5=>?_⟩
 ·have hlt:=aG hlt;have hle:=gD (f:=cI l) (n:=j);obtain⟨y,_,gy,ya,yb,yr,_⟩:=(hl.up u1 fun _ _ h=>h.up u1).el (i:=j) (by omega) (by decide);obtain⟨z,_,gz,za,zb,zr,_⟩:=(hl.up u1 fun _ _ h=>h.up u1).el (i:=aO (cI l) j) (by omega) (by decide);refine⟨ya,yb,y,gy.seg,yr k1 (Up.refl _),za,zb,z,gz.seg,zr k1 (Up.refl _),dT gy gz hK1 hK hK fun k2 u2=>⟨_,rfl,fun f k3 u3=>⟨m-1,by omega,j+1,by omega,?_⟩,fun f k4 u4=>⟨m-1,by omega,j+1,by omega,?_⟩⟩⟩
  ·rw [aD (by omega),show aO (cI l) (j+1)=j from if_pos f]
  ·rw [aD (by omega),show aO (cI l) (j+1)=aO (cI l) j from if_neg (by simpa [cI] using f)]
 ·have hge:=aF hge;have ej:j=l.length:=by omega
  subst ej;exact C k5 (u0.trans (u1.trans u5))
theorem aHl {y z:Rat}(hy:RatV k cs y K) (hz:RatV k cs' z K) (hK1:1≤K) (hK:K≤300000000) (C:∀k',Up k k'→R k' (.bool (decide (z<y)))) :
 Cl k 124 #[.agg cs,.agg cs'] R:=by
 intro k0 u0;exact aDp hy.seg hz.seg (dT (hz.up u0) (hy.up u0) hK1 hK hK fun k1 u1=>⟨_,rfl,fun k2 u2=>C k2 (u0.trans (u1.trans u2))⟩)
theorem aDq (hl:Lst k A n 3 (NP K k) l) (hK1:1≤K) (hK:K≤300000000) (h0:0<l.length) (hn:l.length≤1000000) (C:∀k',Up k k'→R k' (.int .i64 (aO (cO l) l.length:Nat))) :
 Cl k 121 #[.slice A n c,.func (.func 124) #[] #[]] R:=by
 intro k0 u0;replace hl:=hl.up u0 fun _ _ h=>h.up u0;have hnl:=hl.1;refine zH ⟨rfl,fun m k vs=>∃j:Nat,j+m=n∧vs=[.int .i64 (aO (cO l) j:Nat),.int .i64 j],⟨n,fun k1 u1=>⟨0,by omega,rfl⟩⟩,?_⟩;rintro m k1 vs u1 ⟨j,hj,rfl⟩;refine⟨_,j,rfl,fun hlt=>?_,fun hge k5 u5=>?_⟩
 ·have hlt:=aG hlt;have hle:=gD (f:=cO l) (n:=j);obtain⟨y,_,gy,ya,yb,yr,_⟩:=(hl.up u1 fun _ _ h=>h.up u1).el (i:=j) (by omega) (by decide);obtain⟨z,_,gz,za,zb,zr,_⟩:=(hl.up u1 fun _ _ h=>h.up u1).el (i:=aO (cO l) j) (by omega) (by decide);refine⟨ya,yb,y,gy.seg,yr k1 (Up.refl _),za,zb,z,gz.seg,zr k1 (Up.refl _),aHl gy gz hK1 hK fun k2 u2=>⟨_,rfl,fun f k3 u3=>⟨m-1,by omega,j+1,by omega,?_⟩,fun f k4 u4=>⟨m-1,by omega,j+1,by omega,?_⟩⟩⟩
  ·rw [aD (by omega),show aO (cO l) (j+1)=j from if_pos f]
  ·rw [aD (by omega),show aO (cO l) (j+1)=aO (cO l) j from if_neg (by simpa [cO] using f)]
 ·have hge:=aF hge;have ej:j=l.length:=by omega
  subst ej;exact C k5 (u0.trans (u1.trans u5))
theorem aMh (hs:SecV (NP K) k A0 n0 A1 n1 A2 n2 s) (hl:StateV (NP T) k A3 n3 A4 n4 A5 n5 b.lo) (hE:aL s=0) (hz:sized s b.lo) (hK1:1≤K) (hT1:1≤T) (hK:K≤100000000) (hT:T≤100000000) (C:∀k',Up k k'→R k' (.int .i64 (iT s b.lo:Nat))) :
 Cl k 73 #[.agg #[.slice A0 n0 d0,.slice A1 n1 d1,.slice A2 n2 d2],.agg #[.slice A3 n3 d3,.slice A4 n4 d4,.slice A5 n5 d5,.slice A6 n6 d6,.slice A7 n7 d7,.slice A8 n8 d8]] R:=by
 intro k0 u0;have hsz:=cB hE;unfold bR at hsz;refine aHx (wK (SecV.up (aP K) hs u0) (StateV.up (aP T) hl u0) hE hz hK1 hT1 (by omega) (by omega) fun k1 B m e u1 h1=>⟨_,_,_,rfl,sK h1 (by omega) (by omega) (by simp [aR];omega) (by simp [aR];omega) fun k3 u3=>⟨_,rfl,fun k4 u4=>?_⟩⟩);have:=C k4 (u0.trans (u1.trans (u3.trans u4)))
 rwa [show iT s b.lo=aO (cI (aR s b.lo)) (aR s b.lo).length by unfold iT;rw [show (aR s b.lo).length=s.cells.length by simp [aR]]]at this
theorem aLz (hs:SecV (NP K) k A0 n0 A1 n1 A2 n2 s) (hl:StateV (NP T) k A6 n6 A7 n7 A8 n8 b.hi) (hE:aL s=0) (hz:sized s b.hi) (hK1:1≤K) (hT1:1≤T) (hK:K≤100000000) (hT:T≤100000000) (C:∀k',Up k k'→R k' (.int .i64 (sV s b.hi:Nat))) :
 Cl k 74 #[.agg #[.slice A0 n0 d0,.slice A1 n1 d1,.slice A2 n2 d2],.agg #[.slice A3 n3 d3,.slice A4 n4 d4,.slice A5 n5 d5,.slice A6 n6 d6,.slice A7 n7 d7,.slice A8 n8 d8]] R:=by
 intro k0 u0;have hsz:=cB hE;unfold bR at hsz;refine aHm (sP (SecV.up (aP K) hs u0) (StateV.up (aP T) hl u0) hE hz hK1 hT1 (by omega) (by omega) fun k1 B m e u1 h1=>⟨_,_,_,rfl,aDq h1 (by omega) (by omega) (by simp [bJ];omega) (by simp [bJ];omega) fun k3 u3=>⟨_,rfl,fun k4 u4=>?_⟩⟩);have:=C k4 (u0.trans (u1.trans (u3.trans u4)))
 rwa [show sV s b.hi=aO (cO (bJ s b.hi)) (bJ s b.hi).length by unfold sV;rw [show (bJ s b.hi).length=s.cells.length by simp [bJ]]]at this
theorem aLy (hs:SecV (NP K) k A0 n0 A1 n1 A2 n2 s) (hx:StateV (NP T) k A3 n3 A4 n4 A5 n5 x) (hE:aL s=0) (hz:sized s x) (hK1:1≤K) (hT1:1≤T) (hK:K≤100000000) (hT:T≤100000000) (C:∀k',Up k k'→R k' (.bool (decide (mI s x)))) :
 Cl k 76 #[.agg #[.slice A0 n0 d0,.slice A1 n1 d1,.slice A2 n2 d2],.agg #[.slice A3 n3 d3,.slice A4 n4 d4,.slice A5 n5 d5]] R:=by
 intro k0 u0;have hsz:=cB hE;unfold bR at hsz;have hlen:(aR s x).length=s.cells.length:=by simp [aR]
 have hlt:iT s x<s.cells.length:=sX (by omega);refine aHk (wK (SecV.up (aP K) hs u0) (StateV.up (aP T) hx u0) hE hz hK1 hT1 (by omega) (by omega) fun k1 B m e u1 h1=>⟨_,_,_,rfl,sK h1 (by omega) (by omega) (by omega) (by omega) fun k3 u3=>?_⟩);obtain⟨y,_,gy,ya,yb,yr,_⟩:=(h1.up u3 fun _ _ h=>h.up u3).el (i:=iT s x) (by omega) (by decide);have hse:aO (cI (aR s x)) (aR s x).length=iT s x:=by rw [hlen];rfl
 refine⟨_,rfl,ya,by rw [hse];exact yb,y,gy.seg,by rw [hse];exact yr k3 (Up.refl _),?_⟩;refine eR (z:=1) (by decide) (by decide) fun k5 y5 u5 w5=>⟨y5,w5.seg,rfl,?_⟩;refine dT (gy.up u5) w5 (by omega) (by omega) (by omega) fun k7 u7=>⟨_,rfl,fun k8 u8=>?_⟩;have:=C k8 (u0.trans (u1.trans (u3.trans (u5.trans (u7.trans u8)))))
 rwa [show decide (mI s x)=!decide (at_ (aR s x) (iT s x)<((1:Int):Rat)) by rw [←decide_not];exact decide_eq_decide.2 (aId hE (by omega)).symm]at this
theorem sQ (hs:SecV (NP K) k A0 n0 A1 n1 A2 n2 s) (hx:StateV (NP T) k A3 n3 A4 n4 A5 n5 x) (hE:aL s=0) (hz:sized s x) (hK1:1≤K) (hT1:1≤T) (hK:K≤100000000) (hT:T≤100000000) (C:∀k',Up k k'→R k' (.bool (decide (fG s x)))) :
 Cl k 75 #[.agg #[.slice A0 n0 d0,.slice A1 n1 d1,.slice A2 n2 d2],.agg #[.slice A3 n3 d3,.slice A4 n4 d4,.slice A5 n5 d5]] R:=by
 intro k0 u0;have hsz:=cB hE;unfold bR at hsz;have hlen:(bJ s x).length=s.cells.length:=by simp [bJ]
 have hsh:∀j,j<s.cells.length→(((1:Int):Rat)<at_ (bJ s x) j↔jA s j<at_ x.spoil j):=fun j hj=>by
  rw [show at_ (bJ s x) j=at_ x.spoil j/jA s j from dS hj];exact aFh (gH hE hj).2
 refine zO (sP (SecV.up (aP K) hs u0) (StateV.up (aP T) hx u0) hE hz hK1 hT1 (by omega) (by omega) fun k1 B m e u1 h1=>⟨_,_,_,rfl,rfl,?_⟩);have hml:=h1.1;refine⟨fun q k vs=>∃j:Nat,j+q=m∧vs=[.int .i64 j]∧∀i,i<j→¬ jA s i<at_ x.spoil i,⟨m,fun k2 u2=>⟨0,by omega,rfl,fun i hi=>by omega⟩⟩,?_⟩;rintro q k2 vs u2 ⟨j,hj,rfl,hno⟩;refine⟨j,rfl,fun hlt=>?_,fun hge k9 u9=>?_⟩
 ·have hlt:=aG hlt;obtain⟨y,_,gy,ya,yb,yr,_⟩:=(h1.up u2 fun _ _ h=>h.up u2).el (i:=j) (by omega) (by decide);refine⟨ya,yb,y,gy.seg,yr k2 (Up.refl _),?_⟩;refine eR (z:=1) (by decide) (by decide) fun k4 y4 u4 w4=>⟨y4,w4.seg,rfl,?_⟩;refine dT w4 (gy.up u4) (by decide) (by omega) (by omega) fun k6 u6=>⟨_,rfl,fun f k7 u7=>?_,fun f k8 u8=>?_⟩
  ·have:=C k7 (u0.trans (u1.trans (u2.trans (u4.trans (u6.trans u7)))))
   rwa [decide_eq_true (show fG s x from fun h=>h j (by omega) ((hsh j (by omega)).1 (of_decide_eq_true f)))]at this
  ·exact⟨q-1,by omega,j+1,by omega,by rw [aD (by omega)],bS hno fun h=>of_decide_eq_false f ((hsh j (by omega)).2 h)⟩
 ·have hge:=aF hge;have:=C k9 (u0.trans (u1.trans (u2.trans u9)))
  rwa [decide_eq_false (show ¬ fG s x from fun h=>h fun i hi=>hno i (by omega))]at this
theorem aHn (hs:SecV (NP K) k A0 n0 A1 n1 A2 n2 s) (hl:StateV (NP T) k A3 n3 A4 n4 A5 n5 b.lo) (hh:StateV (NP T) k A6 n6 A7 n7 A8 n8 b.hi) (hK1:1≤K) (hK:K≤1000000) (hT1:1≤T) (hT:T≤100000000)
 (C:∀k',Up k k'→R k' (.tuple #[.agg #[.int .i64 (if cY s b≠0 then 0 else fQ s b),.int .i64 (if cY s b≠0 then 0 else (iT s b.lo:Nat)),.int .i64 (if cY s b≠0 then 0 else (sV s b.hi:Nat))],.int .i64 (cY s b)])) :
 Cl k 28 #[.agg #[.slice A0 n0 d0,.slice A1 n1 d1,.slice A2 n2 d2],.agg #[.slice A3 n3 d3,.slice A4 n4 d4,.slice A5 n5 d5,.slice A6 n6 d6,.slice A7 n7 d7,.slice A8 n8 d8]] R:=by
 intro k0 u0;have hN:=aP K;have hM:=aP T;replace hs:=SecV.up hN hs u0;replace hl:=StateV.up hM hl u0;replace hh:=StateV.up hM hh u0;replace C:=fun k' u=>C k' (u0.trans u);refine aDs (aLv hs hl hh hK1 hK hT1 (by omega) fun k1 u1=>⟨_,rfl,fun f k2 u2=>?_,fun f=>?_⟩)
 ·have:=C k2 (u1.trans u2)
  rwa [if_pos (cZ f),if_pos (cZ f),if_pos (cZ f)]at this
 ·have f:=bX f;obtain⟨hE,hz,hz',_⟩:=aBz f;rw [f]at C;simp only [ne_eq,not_true_eq_false,if_false]at C;refine aMh (b:=b) (SecV.up hN hs u1) (StateV.up hM hl u1) hE hz hK1 hT1 (by omega) (by omega) fun k4 u4=>⟨_,rfl,?_⟩;have v4:=u1.trans u4;refine aLz (b:=b) (SecV.up hN hs v4) (StateV.up hM hh v4) hE hz' hK1 hT1 (by omega) (by omega) fun k6 u6=>⟨_,rfl,?_⟩;have v6:=v4.trans u6;refine sQ (SecV.up hN hs v6) (StateV.up hM hl v6) hE hz hK1 hT1 (by omega) (by omega) fun k8 u8=>⟨_,rfl,fun g k9 u9=>?_,fun g=>?_⟩
  ·have:=C k9 (v6.trans (u8.trans u9))
   rwa [show fQ s b=2 from if_pos (of_decide_eq_true g)]at this
  have v8:=v6.trans u8;refine sQ (SecV.up hN hs v8) (StateV.up hM hh v8) hE hz' hK1 hT1 (by omega) (by omega) fun k11 u11=>⟨_,rfl,fun g' k12 u12=>?_,fun g'=>?_⟩
  ·have:=C k12 (v8.trans (u11.trans u12))
   rwa [show fQ s b=3 by unfold fQ;rw [if_neg (of_decide_eq_false g),if_pos (of_decide_eq_true g')]]at this
  have v11:=v8.trans u11;refine aLy (SecV.up hN hs v11) (StateV.up hM hl v11) hE hz hK1 hT1 (by omega) (by omega) fun k14 u14=>⟨_,rfl,fun g'' k15 u15=>?_,fun g'' k16 u16=>?_⟩
  ·have:=C k15 (v11.trans (u14.trans u15))
   rwa [show fQ s b=1 by unfold fQ;rw [if_neg (of_decide_eq_false g),if_neg (of_decide_eq_false g'),if_pos (of_decide_eq_false (by simpa using g''))]]at this
  ·have:=C k16 (v11.trans (u14.trans u16))
   rwa [show fQ s b=0 by unfold fQ;rw [if_neg (of_decide_eq_false g),if_neg (of_decide_eq_false g'),if_neg (fun h=>h (of_decide_eq_true (by simpa using g'')))]]at this
end
end Go.Proofs.YtpeakfmjibfkpaaGreat

namespace Go.Proofs.YtpeakfmjibfkpaaGreat
open Go.RowKit Num W32
open Sy (Up Sees CallsG Seg ReadAt)
section
variable {k:World}{R:World→Value→Prop}{s:PSec}{b x:PBand}{x':PState}{K T n0 n1 n2 d0 d1 d2 n3 n4 n5 d3 d4 d5 n6 d6 n7 d7 n8 d8:Nat}{A0 A1 A2 A3 A4 A5 A6 A7 A8:Option Addr}
theorem yM (hs:SecV (NR K) k A0 n0 A1 n1 A2 n2 s) (hx:StateV (NR T) k A3 n3 A4 n4 A5 n5 x') (hE:aL s=0) (hz:sized s x') (hK:K≤100000000) (hT:T≤100000000) (C:∀k',Up k k'→R k' (.bool (decide (fG s x')))) :
 Cl k 77 #[.agg #[.slice A0 n0 d0,.slice A1 n1 d1,.slice A2 n2 d2],.agg #[.slice A3 n3 d3,.slice A4 n4 d4,.slice A5 n5 d5]] R:=by
 intro k0 u0;have hN:=cF K;replace hs:=SecV.up hN hs u0;replace hx:=StateV.up (cF T) hx u0;replace C:=fun k' u=>C k' (u0.trans u);have hce:=hs.cells.1;have hsz:=cB hE;unfold bR at hsz;obtain⟨z3,z4,z5⟩:=hz;refine aBb ⟨fun q k vs=>∃j:Nat,j+q=n1∧vs=[.int .i64 j]∧∀i,i<j→¬ jA s i<at_ x'.spoil i,⟨n1,fun k2 u2=>⟨0,by omega,rfl,fun i hi=>by omega⟩⟩,?_⟩;rintro q k1 vs u1 ⟨j,hj,rfl,hno⟩;refine⟨j,rfl,rfl,fun hlt=>?_,fun hge k9 u9=>?_⟩
 ·have hlt:=aG hlt;have hjn:j<s.cells.length:=by omega
  have hs1:=SecV.up hN hs u1;obtain⟨y,_,gy,ya,yb,yr,_⟩:=(StateV.up (cF T) hx u1).spoil.elx (i:=j) (by omega) (by decide);obtain⟨a,_,⟨c0,c1,c2,rfl,q0,q1,q2⟩,ha,hb,_,hr,hr1⟩:=hs1.cells.elx hjn (by decide);obtain⟨hm0,hm1,_⟩:=fV hE hjn;have hmi:(at_ s.cells j).m=(((at_ s.cells j).m.toNat:Nat):Int):=by omega
  obtain⟨a',_,⟨D,p1,r1,F,p2,r2,c4,c5,rfl,l0,l1,s0,s1⟩,ha',hb',_,hr',_⟩:=hs1.mats.elx (i:=(at_ s.cells j).m.toNat) (by omega) (by decide);rw [←hmi]at hb' hr';refine⟨ya,yb,y,gy.seg,yr k1 (Up.refl _),ha,hb,ha,hb,_,hr1 k1 0 _ (Up.refl _) rfl,ha',hb',ha',hb',c5,s1.seg,hr' k1 c5 5 3 (Up.refl _) s1.seg.1 (fun q u h=>dC (d:=4) (dC (d:=3) (jM s0.seg.1 (eP h)))),?_⟩;refine oL gy s1 (by omega) fun k2 u2=>⟨_,rfl,fun f k3 u3=>?_,fun f k4 u4=>?_⟩
  ·rw [jR]at f;have:=C k3 (u1.trans (u2.trans u3))
   rwa [decide_eq_true (show fG s x' from fun h=>h j (by omega) (of_decide_eq_true f))]at this
  ·rw [jR]at f;exact⟨q-1,by omega,j+1,by omega,by rw [aD (by omega)],bS hno (of_decide_eq_false f)⟩
 ·have hge:=aF hge;have:=C k9 (u1.trans u9)
  rwa [decide_eq_false (show ¬ fG s x' from fun h=>h fun i hi=>hno i (by omega))]at this
theorem aPs (hs:SecV (NR K) k A0 n0 A1 n1 A2 n2 s) (hx:StateV (NR T) k A3 n3 A4 n4 A5 n5 x') (hE:aL s=0) (hz:sized s x') (hK:K≤100000000) (hT:T≤100000000) (C:∀k',Up k k'→R k' (.bool (decide (mI s x')))) :
 Cl k 78 #[.agg #[.slice A0 n0 d0,.slice A1 n1 d1,.slice A2 n2 d2],.agg #[.slice A3 n3 d3,.slice A4 n4 d4,.slice A5 n5 d5]] R:=by
 intro k0 u0;have hN:=cF K;replace hs:=SecV.up hN hs u0;replace hx:=StateV.up (cF T) hx u0;replace C:=fun k' u=>C k' (u0.trans u);have hce:=hs.cells.1;have hsz:=cB hE;unfold bR at hsz;obtain⟨z3,z4,z5⟩:=hz;refine aKm ⟨fun q k vs=>∃j:Nat,j+q=n1∧vs=[.int .i64 j]∧∀i,i<j→¬ at_ x'.cure i<qI s i,⟨n1,fun k2 u2=>⟨0,by omega,rfl,fun i hi=>by omega⟩⟩,?_⟩;rintro q k1 vs u1 ⟨j,hj,rfl,hno⟩;refine⟨j,rfl,rfl,fun hlt=>?_,fun hge k9 u9=>?_⟩
 ·have hlt:=aG hlt;have hjn:j<s.cells.length:=by omega
  have hs1:=SecV.up hN hs u1;obtain⟨y,_,gy,ya,yb,yr,_⟩:=(StateV.up (cF T) hx u1).cure.elx (i:=j) (by omega) (by decide);obtain⟨a,_,⟨c0,c1,c2,rfl,q0,q1,q2⟩,ha,hb,_,hr,hr1⟩:=hs1.cells.elx hjn (by decide);obtain⟨hm0,hm1,_⟩:=fV hE hjn;have hmi:(at_ s.cells j).m=(((at_ s.cells j).m.toNat:Nat):Int):=by omega
  obtain⟨a',_,⟨D,p1,r1,F,p2,r2,c4,c5,rfl,l0,l1,s0,s1⟩,ha',hb',_,hr',_⟩:=hs1.mats.elx (i:=(at_ s.cells j).m.toNat) (by omega) (by decide);rw [←hmi]at hb' hr';refine⟨ya,yb,y,gy.seg,yr k1 (Up.refl _),ha,hb,ha,hb,_,hr1 k1 0 _ (Up.refl _) rfl,ha',hb',ha',hb',c4,s0.seg,hr' k1 c4 2 3 (Up.refl _) s0.seg.1 (fun q u h=>dC (d:=1) (dC (d:=0) (by rw [Nat.zero_add];exact eP h))),?_⟩;refine oL gy s0 (by omega) fun k2 u2=>⟨_,rfl,fun f k3 u3=>?_,fun f k4 u4=>?_⟩
  ·rw [gT]at f;have:=C k3 (u1.trans (u2.trans u3))
   rwa [decide_eq_false (show ¬ mI s x' from fun h=>h j (by omega) (of_decide_eq_true f))]at this
  ·rw [gT]at f;exact⟨q-1,by omega,j+1,by omega,by rw [aD (by omega)],bS hno (of_decide_eq_false f)⟩
 ·have hge:=aF hge;have:=C k9 (u1.trans u9)
  rwa [decide_eq_true (show mI s x' from fun i hi=>hno i (by omega))]at this
theorem vS (hs:SecV (NR K) k A0 n0 A1 n1 A2 n2 s) (hx:StateV (NR T) k A3 n3 A4 n4 A5 n5 b.lo) (hE:aL s=0) (hz:sized s b.lo) (hK:K≤100000000) (hT:T≤100000000) (C:∀k',Up k k'→R k' (.int .i64 (iT s b.lo:Nat))) :
 Cl k 79 #[.agg #[.slice A0 n0 d0,.slice A1 n1 d1,.slice A2 n2 d2],.agg #[.slice A3 n3 d3,.slice A4 n4 d4,.slice A5 n5 d5,.slice A6 n6 d6,.slice A7 n7 d7,.slice A8 n8 d8]] R:=by
 intro k0 u0;have hN:=cF K;replace hs:=SecV.up hN hs u0;replace hx:=StateV.up (cF T) hx u0;replace C:=fun k' u=>C k' (u0.trans u);have hce:=hs.cells.1;have hsz:=cB hE;unfold bR at hsz;obtain⟨z3,z4,z5⟩:=hz;refine aKs ⟨fun q k vs=>∃j:Nat,0<j∧j+q=n1∧vs=[.int .i64 (aO (cI (aR s b.lo)) j:Nat),.int .i64 j],⟨n1-1,fun k2 u2=>⟨1,by omega,by omega,by rw [qL];rfl⟩⟩,?_⟩;rintro q k1 vs u1 ⟨j,hj0,hj,rfl⟩;refine⟨_,j,rfl,rfl,fun hlt=>?_,fun hge k9 u9=>?_⟩
 ·have hlt:=aG hlt;have hjn:j<s.cells.length:=by omega
  have hs1:=SecV.up hN hs u1;have hst:aO (cI (aR s b.lo)) (j+1)=if cI (aR s b.lo) j (aO (cI (aR s b.lo)) j)=true then j else aO (cI (aR s b.lo)) j:=rfl;have hbl:aO (cI (aR s b.lo)) j<s.cells.length:=by have:=gD (f:=cI (aR s b.lo)) (n:=j);omega
  have hif:=aLd hE (x:=b.lo) hjn hbl;generalize aO (cI (aR s b.lo)) j=p at hst hbl hif;obtain⟨y,_,gy,ya,yb,yr,_⟩:=(StateV.up (cF T) hx u1).cure.elx (i:=j) (by omega) (by decide);obtain⟨w,_,gw,wa,wb,wr,_⟩:=(StateV.up (cF T) hx u1).cure.elx (i:=p) (by omega) (by decide);obtain⟨a,_,⟨c0,c1,c2,rfl,q0,q1,q2⟩,ha,hb,_,hr,hr1⟩:=hs1.cells.elx hjn (by decide);obtain⟨e,_,⟨c0',c1',c2',rfl,q0',q1',q2'⟩,he,hf,_,hg,hg1⟩:=hs1.cells.elx hbl (by decide);obtain⟨hm0,hm1,_⟩:=fV hE hjn;obtain⟨hm0',hm1',_⟩:=fV hE hbl;have hmi:(at_ s.cells j).m=(((at_ s.cells j).m.toNat:Nat):Int):=by omega
  have hmi':(at_ s.cells p).m=(((at_ s.cells p).m.toNat:Nat):Int):=by omega
  obtain⟨a',_,⟨D,p1,r1,F,p2,r2,c4,c5,rfl,l0,l1,s0,s1⟩,ha',hb',_,hr',_⟩:=hs1.mats.elx (i:=(at_ s.cells j).m.toNat) (by omega) (by decide);obtain⟨e',_,⟨D',p1',r1',F',p2',r2',c4',c5',rfl,l0',l1',s0',s1'⟩,he',hf',_,hg',_⟩:=hs1.mats.elx (i:=(at_ s.cells p).m.toNat) (by omega) (by decide);rw [←hmi]at hb' hr';rw [←hmi']at hf' hg';refine⟨ha,hb,ha,hb,_,hr1 k1 0 _ (Up.refl _) rfl,ha',hb',ha',hb',c4,s0.seg,hr' k1 c4 2 3 (Up.refl _) s0.seg.1 (fun q u h=>dC (d:=1) (dC (d:=0) (by rw [Nat.zero_add];exact eP h))),he,hf,he,hf,_,hg1 k1 0 _ (Up.refl _) rfl,he',hf',he',hf',c4',s0'.seg,hg' k1 c4' 2 3 (Up.refl _) s0'.seg.1 (fun q u h=>dC (d:=1) (dC (d:=0) (by rw [Nat.zero_add];exact eP h))),ya,yb,y,gy.seg,yr k1 (Up.refl _),wa,wb,w,gw.seg,wr k1 (Up.refl _),?_⟩;refine aCn gy s0' (by omega) fun k2 y2 u2 w2=>⟨y2,w2.seg,rfl,?_⟩;refine aCn (gw.up u2) (s0.up u2) (by omega) fun k4 y4 u4 w4=>⟨y4,w4.seg,rfl,?_⟩;refine oL (w2.up u4) w4 (by omega) fun k6 u6=>⟨_,rfl,fun f k7 u7=>⟨q-1,by omega,j+1,by omega,by omega,?_⟩,fun f k8 u8=>⟨q-1,by omega,j+1,by omega,by omega,?_⟩⟩
  ·rw [gT]at f;rw [aD (by omega),hst,if_pos (by rw [hif];exact f)]
  ·rw [gT]at f;rw [aD (by omega),hst,if_neg (by rw [hif,Bool.not_eq_true];exact f)]
 ·have hge:=aF hge;have ej:j=s.cells.length:=by omega
  subst ej;exact C k9 (u1.trans u9)
theorem uT (hs:SecV (NR K) k A0 n0 A1 n1 A2 n2 s) (hx:StateV (NR T) k A6 n6 A7 n7 A8 n8 b.hi) (hE:aL s=0) (hz:sized s b.hi) (hK:K≤100000000) (hT:T≤100000000) (C:∀k',Up k k'→R k' (.int .i64 (sV s b.hi:Nat))) :
 Cl k 80 #[.agg #[.slice A0 n0 d0,.slice A1 n1 d1,.slice A2 n2 d2],.agg #[.slice A3 n3 d3,.slice A4 n4 d4,.slice A5 n5 d5,.slice A6 n6 d6,.slice A7 n7 d7,.slice A8 n8 d8]] R:=by
 intro k0 u0;have hN:=cF K;replace hs:=SecV.up hN hs u0;replace hx:=StateV.up (cF T) hx u0;replace C:=fun k' u=>C k' (u0.trans u);have hce:=hs.cells.1;have hsz:=cB hE;unfold bR at hsz;obtain⟨z3,z4,z5⟩:=hz;refine aKp ⟨fun q k vs=>∃j:Nat,0<j∧j+q=n1∧vs=[.int .i64 (aO (cO (bJ s b.hi)) j:Nat),.int .i64 j],⟨n1-1,fun k2 u2=>⟨1,by omega,by omega,by rw [qL];rfl⟩⟩,?_⟩;rintro q k1 vs u1 ⟨j,hj0,hj,rfl⟩;refine⟨_,j,rfl,rfl,fun hlt=>?_,fun hge k9 u9=>?_⟩
 ·have hlt:=aG hlt;have hjn:j<s.cells.length:=by omega
  have hs1:=SecV.up hN hs u1;have hst:aO (cO (bJ s b.hi)) (j+1)=if cO (bJ s b.hi) j (aO (cO (bJ s b.hi)) j)=true then j else aO (cO (bJ s b.hi)) j:=rfl;have hbl:aO (cO (bJ s b.hi)) j<s.cells.length:=by have:=gD (f:=cO (bJ s b.hi)) (n:=j);omega
  have hif:=aIg hE (x:=b.hi) hjn hbl;generalize aO (cO (bJ s b.hi)) j=p at hst hbl hif;obtain⟨y,_,gy,ya,yb,yr,_⟩:=(StateV.up (cF T) hx u1).spoil.elx (i:=j) (by omega) (by decide);obtain⟨w,_,gw,wa,wb,wr,_⟩:=(StateV.up (cF T) hx u1).spoil.elx (i:=p) (by omega) (by decide);obtain⟨a,_,⟨c0,c1,c2,rfl,q0,q1,q2⟩,ha,hb,_,hr,hr1⟩:=hs1.cells.elx hjn (by decide);obtain⟨e,_,⟨c0',c1',c2',rfl,q0',q1',q2'⟩,he,hf,_,hg,hg1⟩:=hs1.cells.elx hbl (by decide);obtain⟨hm0,hm1,_⟩:=fV hE hjn;obtain⟨hm0',hm1',_⟩:=fV hE hbl;have hmi:(at_ s.cells j).m=(((at_ s.cells j).m.toNat:Nat):Int):=by omega
  have hmi':(at_ s.cells p).m=(((at_ s.cells p).m.toNat:Nat):Int):=by omega
  obtain⟨a',_,⟨D,p1,r1,F,p2,r2,c4,c5,rfl,l0,l1,s0,s1⟩,ha',hb',_,hr',_⟩:=hs1.mats.elx (i:=(at_ s.cells j).m.toNat) (by omega) (by decide);obtain⟨e',_,⟨D',p1',r1',F',p2',r2',c4',c5',rfl,l0',l1',s0',s1'⟩,he',hf',_,hg',_⟩:=hs1.mats.elx (i:=(at_ s.cells p).m.toNat) (by omega) (by decide);rw [←hmi]at hb' hr';rw [←hmi']at hf' hg';refine⟨ha,hb,ha,hb,_,hr1 k1 0 _ (Up.refl _) rfl,ha',hb',ha',hb',c5,s1.seg,hr' k1 c5 5 3 (Up.refl _) s1.seg.1 (fun q u h=>dC (d:=4) (dC (d:=3) (jM s0.seg.1 (eP h)))),he,hf,he,hf,_,hg1 k1 0 _ (Up.refl _) rfl,he',hf',he',hf',c5',s1'.seg,hg' k1 c5' 5 3 (Up.refl _) s1'.seg.1 (fun q u h=>dC (d:=4) (dC (d:=3) (jM s0'.seg.1 (eP h)))),ya,yb,y,gy.seg,yr k1 (Up.refl _),wa,wb,w,gw.seg,wr k1 (Up.refl _),?_⟩;refine aCn gy s1' (by omega) fun k2 y2 u2 w2=>⟨y2,w2.seg,rfl,?_⟩;refine aCn (gw.up u2) (s1.up u2) (by omega) fun k4 y4 u4 w4=>⟨y4,w4.seg,rfl,?_⟩;refine oL (w2.up u4) w4 (by omega) fun k6 u6=>⟨_,rfl,fun f k7 u7=>⟨q-1,by omega,j+1,by omega,by omega,?_⟩,fun f k8 u8=>⟨q-1,by omega,j+1,by omega,by omega,?_⟩⟩
  ·rw [jR]at f;rw [aD (by omega),hst,if_pos (by rw [hif];exact f)]
  ·rw [jR]at f;rw [aD (by omega),hst,if_neg (by rw [hif,Bool.not_eq_true];exact f)]
 ·have hge:=aF hge;have ej:j=s.cells.length:=by omega
  subst ej;exact C k9 (u1.trans u9)
theorem aMw (hs:SecV (NR K) k A0 n0 A1 n1 A2 n2 s) (hl:StateV (NR T) k A3 n3 A4 n4 A5 n5 b.lo) (hh:StateV (NR T) k A6 n6 A7 n7 A8 n8 b.hi) (hK:K≤1000000) (hT:T≤100000000)
 (C:∀k',Up k k'→R k' (.tuple #[.agg #[.int .i64 (if cY s b≠0 then 0 else fQ s b),.int .i64 (if cY s b≠0 then 0 else (iT s b.lo:Nat)),.int .i64 (if cY s b≠0 then 0 else (sV s b.hi:Nat))],.int .i64 (cY s b)])) :
 Cl k 29 #[.agg #[.slice A0 n0 d0,.slice A1 n1 d1,.slice A2 n2 d2],.agg #[.slice A3 n3 d3,.slice A4 n4 d4,.slice A5 n5 d5,.slice A6 n6 d6,.slice A7 n7 d7,.slice A8 n8 d8]] R:=by
 intro k0 u0;have hN:=cF K;have hM:=cF T;replace hs:=SecV.up hN hs u0;replace hl:=StateV.up hM hl u0;replace hh:=StateV.up hM hh u0;replace C:=fun k' u=>C k' (u0.trans u);refine aFw (aHd hs hl hh hK (by omega) fun k1 u1=>⟨_,rfl,fun f k2 u2=>?_,fun f=>?_⟩)
 ·have:=C k2 (u1.trans u2)
  rwa [if_pos (cZ f),if_pos (cZ f),if_pos (cZ f)]at this
 ·have f:=bX f;obtain⟨hE,hz,hz',_⟩:=aBz f;rw [f]at C;simp only [ne_eq,not_true_eq_false,if_false]at C;refine yM (SecV.up hN hs u1) (StateV.up hM hl u1) hE hz (by omega) (by omega) fun k4 u4=>⟨_,rfl,fun g=>?_,fun g=>?_⟩
  ·have v4:=u1.trans u4;refine vS (b:=b) (SecV.up hN hs v4) (StateV.up hM hl v4) hE hz (by omega) (by omega) fun k5 u5=>⟨_,rfl,uT (b:=b) (SecV.up hN hs (v4.trans u5)) (StateV.up hM hh (v4.trans u5)) hE hz' (by omega) (by omega) fun k6 u6=>⟨_,rfl,fun k7 u7=>?_⟩⟩;have:=C k7 (v4.trans (u5.trans (u6.trans u7)))
   rwa [show fQ s b=2 from if_pos (of_decide_eq_true g)]at this
  have v4:=u1.trans u4;refine yM (SecV.up hN hs v4) (StateV.up hM hh v4) hE hz' (by omega) (by omega) fun k8 u8=>⟨_,rfl,fun g'=>?_,fun g'=>?_⟩
  ·have v8:=v4.trans u8;refine vS (b:=b) (SecV.up hN hs v8) (StateV.up hM hl v8) hE hz (by omega) (by omega) fun k9 u9=>⟨_,rfl,uT (b:=b) (SecV.up hN hs (v8.trans u9)) (StateV.up hM hh (v8.trans u9)) hE hz' (by omega) (by omega) fun k10 u10=>⟨_,rfl,fun k11 u11=>?_⟩⟩;have:=C k11 (v8.trans (u9.trans (u10.trans u11)))
   rwa [show fQ s b=3 by unfold fQ;rw [if_neg (of_decide_eq_false g),if_pos (of_decide_eq_true g')]]at this
  have v8:=v4.trans u8;refine aPs (SecV.up hN hs v8) (StateV.up hM hl v8) hE hz (by omega) (by omega) fun k12 u12=>⟨_,rfl,fun g''=>?_,fun g''=>?_⟩
  ·have v12:=v8.trans u12;refine vS (b:=b) (SecV.up hN hs v12) (StateV.up hM hl v12) hE hz (by omega) (by omega) fun k13 u13=>⟨_,rfl,uT (b:=b) (SecV.up hN hs (v12.trans u13)) (StateV.up hM hh (v12.trans u13)) hE hz' (by omega) (by omega) fun k14 u14=>⟨_,rfl,fun k15 u15=>?_⟩⟩;have:=C k15 (v12.trans (u13.trans (u14.trans u15)))
   rwa [show fQ s b=1 by unfold fQ;rw [if_neg (of_decide_eq_false g),if_neg (of_decide_eq_false g'),if_pos (of_decide_eq_false (by simpa using g''))]]at this
  ·have v12:=v8.trans u12;refine vS (b:=b) (SecV.up hN hs v12) (StateV.up hM hl v12) hE hz (by omega) (by omega) fun k13 u13=>⟨_,rfl,uT (b:=b) (SecV.up hN hs (v12.trans u13)) (StateV.up hM hh (v12.trans u13)) hE hz' (by omega) (by omega) fun k14 u14=>⟨_,rfl,fun k15 u15=>?_⟩⟩;have:=C k15 (v12.trans (u13.trans (u14.trans u15)))
   rwa [show fQ s b=0 by unfold fQ;rw [if_neg (of_decide_eq_false g),if_neg (of_decide_eq_false g'),if_neg (fun h=>h (of_decide_eq_true (by simpa using g'')))]]at this
theorem same3 {a c e:Int}:¬ (if (a == a)=true then (if (c == c)=true then (if (e == e)=true then true else false) else false) else false)=false:=by simp
set_option maxHeartbeats 1000000 in
theorem uO (hs:SecA k A0 n0 A1 n1 A2 n2 s) (hxl:StateA k A3 n3 A4 n4 A5 n5 x.lo) (hxh:StateA k A6 n6 A7 n7 A8 n8 x.hi) (C:∀k',Up k k'→R k' (.bool true)) :
 Cl k 4 #[.agg #[.slice A0 n0 d0,.slice A1 n1 d1,.slice A2 n2 d2],.agg #[.slice A3 n3 d3,.slice A4 n4 d4,.slice A5 n5 d5,.slice A6 n6 d6,.slice A7 n7 d7,.slice A8 n8 d8]] R:=by
 intro k0 u0;replace hs:=hs.up u0;replace hxl:=hxl.up u0;replace hxh:=hxh.up u0;replace C:=fun k' u=>C k' (u0.trans u);have aw:∀k1,Up k0 k1→Cl k1 13 #[] fun k8 r7=>∃b10,some (Value.bool b10)=some r7∧∀k9,Up k8 k9→R k9 (Value.bool b10):=
  fun k1 u1=>wJ fun k3 u3=>⟨_,rfl,fun k4 u4=>C k4 ((u1.trans u3).trans u4)⟩
 refine aAe (aRm (most:=26) hs (by decide) fun k1 b1 u1 hb1=>⟨_,rfl,fun _=>aw k1 u1,fun f1=>?_⟩);refine aEm hxl.temp.1 hxl.cure.1 hxl.spoil.1 hxh.temp.1 hxh.cure.1 hxh.spoil.1 fun k2 b2 u2 hb2=>⟨_,rfl,fun _=>aw k2 (u1.trans u2),fun f2=>?_⟩;have hf:=hb1 (mW f1);obtain⟨fxl,fxh⟩:=hb2 (mW f2);have v2:=u1.trans u2;refine aMz (hs.up v2) hf (by decide) fun k5 B0 m0 e0 B1 m1 e1 B2 m2 e2 D0 p0 g0 D1 p1 g1 D2 p2 g2 u5 hp hr=>⟨_,_,_,_,_,_,_,_,_,_,_,_,_,_,_,_,_,_,rfl,?_⟩;have v5:=v2.trans u5;refine aIs (hxl.up v5) (hxh.up v5) fxl fxh fun k6 B3 m3 e3 B4 m4 e4 B5 m5 e5 B6 m6 e6 B7 m7 e7 B8 m8 e8 D3 p3 g3 D4 p4 g4 D5 p5 g5 D6 p6 g6 D7 p7 g7 D8 p8 g8 u6 pxl pxh rxl rxh=>⟨_,_,_,_,_,_,_,_,_,_,_,_,_,_,_,_,_,_,_,_,_,_,_,_,_,_,_,_,_,_,_,_,_,_,_,_,rfl,?_⟩;have P1:=aP 1;have R2:=cF 2;refine aHn (K:=1) (T:=1) (b:=x) (SecV.up P1 hp u6) pxl pxh (by decide) (by decide) (by decide) (by decide) fun k7 u7=>⟨_,_,_,_,rfl,?_⟩;refine aMw (K:=2) (T:=2) (b:=x) (SecV.up R2 hr (u6.trans u7)) (StateV.up R2 rxl u7) (StateV.up R2 rxh u7) (by decide) (by decide) fun k8 u8=>⟨_,_,_,_,rfl,fun _=>⟨fun _=>?_,fun h=>absurd h same3⟩,fun h=>absurd h aDg⟩;exact wJ fun k25 u25=>⟨_,rfl,fun k26 u26=>C k26 (v5.trans (u6.trans (u7.trans (u8.trans (u25.trans u26)))))⟩
end
