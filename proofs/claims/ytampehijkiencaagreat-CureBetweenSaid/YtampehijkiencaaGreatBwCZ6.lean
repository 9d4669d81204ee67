/- Several texts in one. (Printed by prep.py.) -/
import Derived.Test.YtampehijkiencaaGreatBwVS
import Derived.Test.YtampehijkiencaaGreatBwVBW
import Derived.Test.YtampehijkiencaaGreatBwCU
import Derived.ChangeBookTie2
namespace Go.Proofs.YtampehijkiencaaGreat
open Go.RowKit Num W32
open Sy (Up Sees CallsG Seg ReadAt)
abbrev NR' (K : Nat) : World→Array Value→Rat→Prop:=fun k cs q=>QV k cs q K
def yA (cs : Array Value) (q : Rat) : Prop:=∃ y z,In64 y∧In64 z∧cs = #[.int .i64 y,.int .i64 z]∧q = ofQ y z
def sL (cs : Array Value) (r : PRate) : Prop:=∃ y z y' z',In64 y∧In64 z∧In64 y'∧In64 z'∧cs = #[.int .i64 y,.int .i64 z,.int .i64 y',.int .i64 z']∧r = ⟨ofQ y z,ofQ y' z'⟩
def MatA (k : World) (cs : Array Value) (m : PMat) : Prop:=∃ A n c B n' c' y z y' z',In64 y∧In64 z∧In64 y'∧In64 z'∧cs = #[.slice A n c,.slice B n' c',.int .i64 y,.int .i64 z,.int .i64 y',.int .i64 z'] ∧
 Lst k A n 4 sL m.cure∧Lst k B n' 4 sL m.spoil∧m.done = ofQ y z∧m.limit = ofQ y' z'
def aAw (cs : Array Value) (x : PCell) : Prop:=∃ m y z y' z' y'' z'',In64 m∧In64 y∧In64 z∧In64 y'∧In64 z'∧In64 y''∧In64 z''∧cs = #[.int .i64 m,.int .i64 y,.int .i64 z,.int .i64 y',.int .i64 z',.int .i64 y'',.int .i64 z'']∧x = ⟨m,ofQ y z,ofQ y' z',ofQ y'' z''⟩
def aAn (cs : Array Value) (x : PLink) : Prop:=∃ a b y z,In64 a∧In64 b∧In64 y∧In64 z∧cs = #[.int .i64 a,.int .i64 b,.int .i64 y,.int .i64 z]∧x = ⟨a,b,ofQ y z⟩
structure SecA (k : World) (A : Option Addr) (n : Nat) (B : Option Addr) (n' : Nat) (C : Option Addr) (n'' : Nat) (s : PSec) : Prop where
 mats : Lst k A n 6 (MatA k) s.mats
 cells : Lst k B n' 7 aAw s.cells
 links : Lst k C n'' 4 aAn s.links
structure StateA (k : World) (A : Option Addr) (n : Nat) (B : Option Addr) (n' : Nat) (C : Option Addr) (n'' : Nat) (x : PState) : Prop where
 temp : Lst k A n 2 yA x.temp
 cure : Lst k B n' 2 yA x.cure
 spoil : Lst k C n'' 2 yA x.spoil
theorem Lst.kept {α : Type} [Inhabited α] {k k' : World} {A : Option Addr} {n s : Nat} {P : Array Value→α→Prop} {l : List α} (h : Lst k A n s P l) (u : Up k k') : Lst k' A n s P l:=h.up u fun _ _ h=>h
theorem MatA.up {k k' : World} {cs : Array Value} {m : PMat} (h : MatA k cs m) (u : Up k k') : MatA k' cs m:=by
 obtain ⟨A,n,c,B,n',c',y,z,y',z',h1,h2,h3,h4,e,l0,l1,e1,e2⟩:=h
 exact ⟨A,n,c,B,n',c',y,z,y',z',h1,h2,h3,h4,e,l0.kept u,l1.kept u,e1,e2⟩
theorem SecA.up {k k' : World} {A B C : Option Addr} {n n' n'' : Nat} {s : PSec} (h : SecA k A n B n' C n'' s) (u : Up k k') : SecA k' A n B n' C n'' s:=⟨h.mats.up u fun _ _ h=>h.up u,h.cells.kept u,h.links.kept u⟩
theorem StateA.up {k k' : World} {A B C : Option Addr} {n n' n'' : Nat} {s : PState} (h : StateA k A n B n' C n'' s) (u : Up k k') : StateA k' A n B n' C n'' s:=⟨h.temp.kept u,h.cure.kept u,h.spoil.kept u⟩
structure FewP (s : PSec) (most : Nat) : Prop where
 mats : s.mats.length≤10
 cells : s.cells.length≤most
 links : s.links.length≤2*most+20
 rates : ∀ i,i < s.mats.length→(at_ s.mats i).cure.length≤20∧(at_ s.mats i).spoil.length≤20
section
variable {k k' : World} {R : World→Value→Prop} {s : PSec} {x : PState} {n0 n1 n2 d0 d1 d2 n3 n4 n5 d3 d4 d5 n c n' c' K L : Nat} {A0 A1 A2 A3 A4 A5 A A' : Option Addr}
theorem aOs {most : Nat} (hs : SecA k A0 n0 A1 n1 A2 n2 s) (hm : most≤1000) (C : ∀ k' b,Up k k'→(b = true→FewP s most)→R k' (.bool b)) :
 Cl k 9 #[.agg #[.slice A0 n0 d0,.slice A1 n1 d1,.slice A2 n2 d2],.int .i64 most] R:=by
 intro k0 u0
 replace hs:=hs.up u0
 replace C:=fun k' b u=>C k' b (u0.trans u)
 have e0:=hs.mats.1
 have e1:=hs.cells.1
 have e2:=hs.links.1
 have no : ∀ k',Up k0 k'→R k' (.bool false):=fun k' u=>C k' false u (by intro h; cases h)
 have wr : IntKind.wrap .i64 ((IntKind.wrap .i64 (2*(most : Int)))+20) = ((2*most+20 : Nat) : Int):=by rw [IntKind.wrap_i64,IntKind.wrap_i64]; omega
 refine aMv ⟨rfl,fun _=>no,fun a1=>⟨rfl,fun _=>no,fun a2=>⟨rfl,fun _=>no,fun a3=>⟨rfl,?_⟩⟩⟩⟩
 rw [wr] at a3
 replace a1:=of_decide_eq_false a1
 replace a2:=of_decide_eq_false a2
 replace a3:=of_decide_eq_false a3
 refine ⟨fun m k vs=>∃ j : Nat,j+m = n0∧vs = [.int .i64 j]∧∀ i,i < j→(at_ s.mats i).cure.length≤20∧(at_ s.mats i).spoil.length≤20,⟨n0,fun k1 u1=>⟨0,by omega,rfl,fun i hi=>by omega⟩⟩,?_⟩
 rintro m k1 vs u1 ⟨j,hj,rfl,hz⟩
 refine ⟨j,rfl,fun hlt=>?_,fun hge k2 u2=>?_⟩
 ·have hlt:=aH hlt
  obtain ⟨a,_,⟨B,p,q,D,p',q',y,z,y',z',_,_,_,_,rfl,l0,l1,_,_⟩,ha,hb,hr,_⟩:=(hs.up u1).mats.el (i:=j) (by omega) (by decide)
  refine ⟨ha,hb,B,p,q,D,p',q',_,_,_,_,hr k1 (Up.refl _),rfl,fun _ k2 u2=>no k2 (u1.trans u2),fun b1=>⟨rfl,fun _ k2 u2=>no k2 (u1.trans u2),fun b2 k2 u2=>?_⟩⟩
  have b1:=of_decide_eq_false b1
  have b2:=of_decide_eq_false b2
  have g1:=l0.1
  have g2:=l1.1
  exact ⟨m - 1,by omega,j+1,by omega,by rw [aF (by omega)],dE hz ⟨by omega,by omega⟩⟩
 ·have hge:=aK hge
  exact C k2 true (u1.trans u2) fun _=>⟨by omega,by omega,by omega,fun i hi=>hz i (by omega)⟩
theorem yM (h3 : n3 = x.temp.length) (h4 : n4 = x.cure.length) (h5 : n5 = x.spoil.length) (C : ∀ k' b,Up k k'→(b = true→x.temp.length≤30∧x.cure.length≤30∧x.spoil.length≤30)→R k' (.bool b)) :
 Cl k 10 #[.agg #[.slice A3 n3 d3,.slice A4 n4 d4,.slice A5 n5 d5]] R:=by
 intro k0 u0
 replace C:=fun k' b u=>C k' b (u0.trans u)
 refine aLh ⟨rfl,fun a=>⟨rfl,fun b=>⟨rfl,fun k1 u1=>C k1 _ u1 fun c=>?_⟩,fun _ k1 u1=>C k1 _ u1 (by intro h; cases h)⟩,fun _ k1 u1=>C k1 _ u1 (by intro h; cases h)⟩
 have a:=of_decide_eq_true a
 have b:=of_decide_eq_true b
 have c:=of_decide_eq_true c
 omega
theorem vD {l : List PRate} (hl : Lst k A n 4 sL l) (hn : l.length≤1000)
 (C : ∀ k' B m d B' m' d',Up k k'→Lst k' B m 6 (RateV (NP 1) k') l→Lst k' B' m' 6 (RateV (NR' 2) k') l→R k' (.tuple #[.slice B m d,.slice B' m' d'])) :
 Cl k 25 #[.slice A n c] R:=by
 intro k0 u0
 replace hl:=hl.kept u0
 replace C:=fun k' B m d B' m' d' u=>C k' B m d B' m' d' (u0.trans u)
 have hN:=aQ 1
 have hM:=iX 2
 have en:=hl.1
 have s0 : ∀ {k : World},∀ a (v : PRate),RateV (NP 1) k a v→Seg 6 a:=fun _ _ h=>RateV.seg hN h
 have s1 : ∀ {k : World},∀ a (v : PRate),RateV (NR' 2) k a v→Seg 6 a:=fun _ _ h=>RateV.seg hM h
 refine aDf ⟨rfl,fun m k vs=>∃ (j : Nat) (B0 B1 : Option Addr) (e0 e1 : Nat) (x0 x1 : Array Value),j+m = n∧vs = [.int .i64 j,.tuple #[.slice B0 j e0,.agg x0],.tuple #[.slice B1 j e1,.agg x1]] ∧
  ArrV j 6 (RateV (NP 1) k) x0 (at_ l)∧ArrV j 6 (RateV (NR' 2) k) x1 (at_ l),⟨n,fun k1 u1=>⟨0,_,_,_,_,_,_,by omega,rfl,ArrV.empty,ArrV.empty⟩⟩,?_⟩
 rintro m k1 vs u1 ⟨j,B0,B1,e0,e1,x0,x1,hj,rfl,h0,h1⟩
 refine ⟨j,B0,j,e0,x0,h0.rowC s0,B1,j,e1,x1,h1.rowC s1,rfl,fun hlt=>?_,fun hge k2 u2 r0 k3 u3 r1 k4 u4=>?_⟩
 ·have hlt:=aH hlt
  obtain ⟨a,_,⟨y,z,y',z',i1,i2,i3,i4,rfl,er⟩,ha,hb,hr,_⟩:=(hl.kept u1).el (i:=j) (by omega) (by decide)
  refine ⟨ha,hb,y,z,y',z',hr k1 (Up.refl _),qR i1 i2 fun k2 a2 u2 w2=>⟨a2,w2.seg,rfl,qR i3 i4 fun k4 a4 u4 w4=>⟨a4,w4.seg,rfl,by simp [w2.seg.1,w4.seg.1],by decide,⟨by simp; omega,by simp; omega⟩,?_⟩⟩⟩
  rintro B0' _ g0' _ rfl rfl _
  refine tR i1 i2 fun k6 a6 u6 w6=>⟨a6,w6.seg,rfl,tR i3 i4 fun k8 a8 u8 w8=>⟨a8,w8.seg,rfl,by simp [w6.seg.1,w8.seg.1],by decide,⟨by simp; omega,by simp; omega⟩,?_⟩⟩
  rintro B1' _ g1' _ rfl rfl _ k9 u9
  have v9:=(((u2.trans u4).trans u6).trans u8).trans u9
  refine ⟨m - 1,by omega,j+1,B0',B1',g0',g1',_,_,by omega,by rw [aF (by omega)]; rfl,?_,?_⟩
  ·refine ArrV.push (a:=(a2.toList ++ (a4.toList ++ ([]))).toArray) (h0.mono fun a v h=>RateV.up hN h v9) (by simp [w2.seg.1,w4.seg.1]) ⟨a2,a4,rfl,?_,?_⟩
   ·rw [er]; exact w2.up (((u4.trans u6).trans u8).trans u9)
   ·rw [er]; exact w4.up ((u6.trans u8).trans u9)
  ·refine ArrV.push (a:=(a6.toList ++ (a8.toList ++ ([]))).toArray) (h1.mono fun a v h=>RateV.up hM h v9) (by simp [w6.seg.1,w8.seg.1]) ⟨a6,a8,rfl,?_,?_⟩
   ·rw [er]; exact w6.up (u8.trans u9)
   ·rw [er]; exact w8.up u9
 ·have hge:=aK hge
  have ej : j = l.length:=by omega
  have v4:=(u2.trans u3).trans u4
  refine C k4 B0 j e0 B1 j e1 (u1.trans v4) ⟨ej,?_⟩ ⟨ej,?_⟩
  ·exact (h0.mono fun a v h=>RateV.up hN h v4).els s0 (dG r0 (u3.trans u4))
  ·exact (h1.mono fun a v h=>RateV.up hM h v4).els s1 (dG r1 u4)
theorem aLm {l : List PMat} (hl : Lst k A n 6 (MatA k) l) (hn : l.length≤1000) (hr20 : ∀ i,i < l.length→(at_ l i).cure.length≤20∧(at_ l i).spoil.length≤20)
 (C : ∀ k' B m d B' m' d',Up k k'→Lst k' B m 8 (MatV (NP 1) k') l→Lst k' B' m' 8 (MatV (NR' 2) k') l→R k' (.tuple #[.slice B m d,.slice B' m' d'])) :
 Cl k 43 #[.slice A n c] R:=by
 intro k0 u0
 replace hl:=hl.up u0 fun _ _ h=>h.up u0
 replace C:=fun k' B m d B' m' d' u=>C k' B m d B' m' d' (u0.trans u)
 have hN:=aQ 1
 have hM:=iX 2
 have en:=hl.1
 have s0 : ∀ {k : World},∀ a (v : PMat),MatV (NP 1) k a v→Seg 8 a:=fun _ _ h=>MatV.seg hN h
 have s1 : ∀ {k : World},∀ a (v : PMat),MatV (NR' 2) k a v→Seg 8 a:=fun _ _ h=>MatV.seg hM h
 refine aIv ⟨rfl,fun m k vs=>∃ (j : Nat) (B0 B1 : Option Addr) (e0 e1 : Nat) (x0 x1 : Array Value),j+m = n∧vs = [.int .i64 j,.tuple #[.slice B0 j e0,.agg x0],.tuple #[.slice B1 j e1,.agg x1]] ∧
  ArrV j 8 (MatV (NP 1) k) x0 (at_ l)∧ArrV j 8 (MatV (NR' 2) k) x1 (at_ l),⟨n,fun k1 u1=>⟨0,_,_,_,_,_,_,by omega,rfl,ArrV.empty,ArrV.empty⟩⟩,?_⟩
 rintro m k1 vs u1 ⟨j,B0,B1,e0,e1,x0,x1,hj,rfl,h0,h1⟩
 refine ⟨j,B0,j,e0,x0,h0.rowC s0,B1,j,e1,x1,h1.rowC s1,rfl,fun hlt=>?_,fun hge k2 u2 r0 k3 u3 r1 k4 u4=>?_⟩
 ·have hlt:=aH hlt
  obtain ⟨g20,g21⟩:=hr20 j (by omega)
  obtain ⟨a,_,⟨D,p,q,D',p',q',y,z,y',z',i1,i2,i3,i4,rfl,l0,l1,ed,el⟩,ha,hb,hr,_⟩:=(hl.up u1 fun _ _ h=>h.up u1).el (i:=j) (by omega) (by decide)
  refine ⟨ha,hb,D,p,q,D',p',q',y,z,y',z',hr k1 (Up.refl _),vD l0 (by omega) fun ka P0 m0 f0 P1 m1 f1 ua wa wa'=>⟨_,_,_,_,_,_,rfl,vD (l1.kept ua) (by omega) fun kb P2 m2 f2 P3 m3 f3 ub wb wb'=>⟨_,_,_,_,_,_,rfl,?_⟩⟩⟩
  refine qR i1 i2 fun k2 a2 u2 w2=>⟨a2,w2.seg,rfl,qR i3 i4 fun k4 a4 u4 w4=>⟨a4,w4.seg,rfl,by simp [w2.seg.1,w4.seg.1],by decide,⟨by simp; omega,by simp; omega⟩,?_⟩⟩
  rintro B0' _ g0' _ rfl rfl _
  refine tR i1 i2 fun k6 a6 u6 w6=>⟨a6,w6.seg,rfl,tR i3 i4 fun k8 a8 u8 w8=>⟨a8,w8.seg,rfl,by simp [w6.seg.1,w8.seg.1],by decide,⟨by simp; omega,by simp; omega⟩,?_⟩⟩
  rintro B1' _ g1' _ rfl rfl _ k9 u9
  have x9:=(((u2.trans u4).trans u6).trans u8).trans u9
  have v9:=(ua.trans ub).trans x9
  refine ⟨m - 1,by omega,j+1,B0',B1',g0',g1',_,_,by omega,by rw [aF (by omega)]; rfl,?_,?_⟩
  ·refine ArrV.push (a:=((Value.slice P0 m0 f0) :: ((Value.slice P2 m2 f2) :: (a2.toList ++ (a4.toList ++ ([]))))).toArray) (h0.mono fun a v h=>MatV.up hN h v9) (by simp [w2.seg.1,w4.seg.1]) ⟨P0,m0,f0,P2,m2,f2,a2,a4,rfl,aY hN wa (ub.trans x9),aY hN wb x9,?_,?_⟩
   ·rw [ed]; exact w2.up (((u4.trans u6).trans u8).trans u9)
   ·rw [el]; exact w4.up ((u6.trans u8).trans u9)
  ·refine ArrV.push (a:=((Value.slice P1 m1 f1) :: ((Value.slice P3 m3 f3) :: (a6.toList ++ (a8.toList ++ ([]))))).toArray) (h1.mono fun a v h=>MatV.up hM h v9) (by simp [w6.seg.1,w8.seg.1]) ⟨P1,m1,f1,P3,m3,f3,a6,a8,rfl,aY hM wa' (ub.trans x9),aY hM wb' x9,?_,?_⟩
   ·rw [ed]; exact w6.up (u8.trans u9)
   ·rw [el]; exact w8.up u9
 ·have hge:=aK hge
  have ej : j = l.length:=by omega
  have v4:=(u2.trans u3).trans u4
  refine C k4 B0 j e0 B1 j e1 (u1.trans v4) ⟨ej,?_⟩ ⟨ej,?_⟩
  ·exact (h0.mono fun a v h=>MatV.up hN h v4).els s0 (dG r0 (u3.trans u4))
  ·exact (h1.mono fun a v h=>MatV.up hM h v4).els s1 (dG r1 u4)
set_option maxHeartbeats 1000000 in
theorem aKx {most : Nat} (hs : SecA k A0 n0 A1 n1 A2 n2 s) (hf : FewP s most) (hm : most≤1000)
 (C : ∀ k' B0 m0 e0 B1 m1 e1 B2 m2 e2 D0 p0 f0 D1 p1 f1 D2 p2 f2,Up k k'→SecV (NP 1) k' B0 m0 B1 m1 B2 m2 s→SecV (NR' 2) k' D0 p0 D1 p1 D2 p2 s →
   R k' (.tuple #[.agg #[.slice B0 m0 e0,.slice B1 m1 e1,.slice B2 m2 e2],.agg #[.slice D0 p0 f0,.slice D1 p1 f1,.slice D2 p2 f2]])) :
 Cl k 12 #[.agg #[.slice A0 n0 d0,.slice A1 n1 d1,.slice A2 n2 d2]] R:=by
 intro k0 u0
 replace hs:=hs.up u0
 have hN:=aQ 1
 have hM:=iX 2
 have en:=hs.cells.1
 have el:=hs.links.1
 have fc:=hf.cells
 have fl:=hf.links
 have s0 : ∀ {k : World},∀ a (v : PCell),CellV (NP 1) k a v→Seg 10 a:=fun _ _ h=>CellV.seg hN h
 have s1 : ∀ {k : World},∀ a (v : PCell),CellV (NR' 2) k a v→Seg 10 a:=fun _ _ h=>CellV.seg hM h
 have t0 : ∀ {k : World},∀ a (v : PLink),LinkV (NP 1) k a v→Seg 5 a:=fun _ _ h=>LinkV.seg hN h
 have t1 : ∀ {k : World},∀ a (v : PLink),LinkV (NR' 2) k a v→Seg 5 a:=fun _ _ h=>LinkV.seg hM h
 refine aIk (aLm hs.mats (by have:=hf.mats; omega) hf.rates fun ka P0 q0 g0 P1 q1 g1 ua wa wa'=>⟨_,_,_,_,_,_,rfl,rfl,?_⟩)
 replace hs:=hs.up ua
 refine ⟨fun m k vs=>∃ (j : Nat) (B0 B1 : Option Addr) (e0 e1 : Nat) (x0 x1 : Array Value),j+m = n1∧vs = [.int .i64 j,.tuple #[.slice B0 j e0,.agg x0],.tuple #[.slice B1 j e1,.agg x1]] ∧
  ArrV j 10 (CellV (NP 1) k) x0 (at_ s.cells)∧ArrV j 10 (CellV (NR' 2) k) x1 (at_ s.cells),⟨n1,fun k1 u1=>⟨0,_,_,_,_,_,_,by omega,rfl,ArrV.empty,ArrV.empty⟩⟩,?_⟩
 rintro m k1 vs u1 ⟨j,B0,B1,e0,e1,x0,x1,hj,rfl,h0,h1⟩
 refine ⟨j,B0,j,e0,x0,h0.rowC s0,B1,j,e1,x1,h1.rowC s1,rfl,fun hlt=>?_,fun hge=>⟨rfl,?_⟩⟩
 ·have hlt:=aH hlt
  obtain ⟨a,_,⟨mm,y,z,y',z',y'',z'',i0,i1,i2,i3,i4,i5,i6,rfl,er⟩,ha,hb,hr,_⟩:=(hs.up u1).cells.el (i:=j) (by omega) (by decide)
  refine ⟨ha,hb,mm,y,z,y',z',y'',z'',hr k1 (Up.refl _),qR i1 i2 fun k2 a2 u2 w2=>⟨a2,w2.seg,rfl,qR i3 i4 fun k4 a4 u4 w4=>⟨a4,w4.seg,rfl,qR i5 i6 fun k6 a6 u6 w6=>⟨a6,w6.seg,rfl,by simp [w2.seg.1,w4.seg.1,w6.seg.1],by decide,⟨by simp; omega,by simp; omega⟩,?_⟩⟩⟩⟩
  rintro B0' _ g0' _ rfl rfl _
  refine tR i1 i2 fun k8 a8 u8 w8=>⟨a8,w8.seg,rfl,tR i3 i4 fun ka aa ua wa=>⟨aa,wa.seg,rfl,tR i5 i6 fun kb ab ub wb=>⟨ab,wb.seg,rfl,by simp [w8.seg.1,wa.seg.1,wb.seg.1],by decide,⟨by simp; omega,by simp; omega⟩,?_⟩⟩⟩
  rintro B1' _ g1' _ rfl rfl _ k9 u9
  have y9:=(u8.trans ua).trans (ub.trans u9)
  have v9:=((u2.trans u4).trans u6).trans y9
  refine ⟨m - 1,by omega,j+1,B0',B1',g0',g1',_,_,by omega,by rw [aF (by omega)]; rfl,?_,?_⟩
  ·refine ArrV.push (a:=((Value.int .i64 mm) :: (a2.toList ++ (a4.toList ++ (a6.toList ++ ([]))))).toArray) (h0.mono fun a v h=>CellV.up hN h v9) (by simp [w2.seg.1,w4.seg.1,w6.seg.1]) ?_
   rw [er]
   exact ⟨a2,a4,a6,rfl,w2.up ((u4.trans u6).trans y9),w4.up (u6.trans y9),w6.up y9⟩
  ·refine ArrV.push (a:=((Value.int .i64 mm) :: (a8.toList ++ (aa.toList ++ (ab.toList ++ ([]))))).toArray) (h1.mono fun a v h=>CellV.up hM h v9) (by simp [w8.seg.1,wa.seg.1,wb.seg.1]) ?_
   rw [er]
   exact ⟨a8,aa,ab,rfl,w8.up (ua.trans (ub.trans u9)),wa.up (ub.trans u9),wb.up u9⟩
 have hge:=aK hge
 have ej : j = s.cells.length:=by omega
 replace hs:=hs.up u1
 refine ⟨fun m k vs=>∃ (j : Nat) (B0 B1 : Option Addr) (e0 e1 : Nat) (x0 x1 : Array Value),j+m = n2∧vs = [.int .i64 j,.tuple #[.slice B0 j e0,.agg x0],.tuple #[.slice B1 j e1,.agg x1]] ∧
  ArrV j 5 (LinkV (NP 1) k) x0 (at_ s.links)∧ArrV j 5 (LinkV (NR' 2) k) x1 (at_ s.links),⟨n2,fun k1 u1=>⟨0,_,_,_,_,_,_,by omega,rfl,ArrV.empty,ArrV.empty⟩⟩,?_⟩
 rintro m' k2 vs' u2 ⟨i,D0,D1,f0,f1,z0,z1,hi,rfl,g0',g1'⟩
 refine ⟨i,D0,i,f0,z0,g0'.rowC t0,D1,i,f1,z1,g1'.rowC t1,rfl,fun hlt=>?_,fun hge k3 u3 r0 k4 u4 r1 k5 u5 r2 k6 u6 r3 k7 u7=>?_⟩
 ·have hlt:=aH hlt
  obtain ⟨a,_,⟨ia,ib,y,z,i1,i2,i3,i4,rfl,er⟩,ha,hb,hr,_⟩:=(hs.up u2).links.el (i:=i) (by omega) (by decide)
  refine ⟨ha,hb,ia,ib,y,z,hr k2 (Up.refl _),qR i3 i4 fun k3 a3 u3 w3=>⟨a3,w3.seg,rfl,by simp [w3.seg.1],by decide,⟨by simp; omega,by simp; omega⟩,?_⟩⟩
  rintro D0' _ f0' _ rfl rfl _
  refine tR i3 i4 fun k5 a5 u5 w5=>⟨a5,w5.seg,rfl,by simp [w5.seg.1],by decide,⟨by simp; omega,by simp; omega⟩,?_⟩
  rintro D1' _ f1' _ rfl rfl _ k9 u9
  refine ⟨m' - 1,by omega,i+1,D0',D1',f0',f1',_,_,by omega,by rw [aF (by omega)]; rfl,?_,?_⟩
  ·refine ArrV.push (a:=((Value.int .i64 ia) :: ((Value.int .i64 ib) :: (a3.toList ++ ([])))).toArray) (g0'.mono fun a v h=>LinkV.up hN h ((u3.trans u5).trans u9)) (by simp [w3.seg.1]) ?_
   rw [er]
   exact ⟨a3,rfl,w3.up (u5.trans u9)⟩
  ·refine ArrV.push (a:=((Value.int .i64 ia) :: ((Value.int .i64 ib) :: (a5.toList ++ ([])))).toArray) (g1'.mono fun a v h=>LinkV.up hM h ((u3.trans u5).trans u9)) (by simp [w5.seg.1]) ?_
   rw [er]
   exact ⟨a5,rfl,w5.up u9⟩
 ·have hge:=aK hge
  have ei : i = s.links.length:=by omega
  have y3:=(((u3.trans u4).trans u5).trans u6).trans u7
  have y1:=(u2.trans y3)
  refine C k7 P0 q0 g0 B0 j e0 D0 i f0 P1 q1 g1 B1 j e1 D1 i f1 (((u0.trans ua).trans u1).trans y1) ⟨?_,⟨ej,?_⟩,⟨ei,?_⟩⟩ ⟨?_,⟨ej,?_⟩,⟨ei,?_⟩⟩
  ·exact wa.up (u1.trans y1) fun _ _ h=>MatV.up hN h (u1.trans y1)
  ·exact (h0.mono fun a v h=>CellV.up hN h y1).els s0 (dG r0 (((u4.trans u5).trans u6).trans u7))
  ·exact (g0'.mono fun a v h=>LinkV.up hN h y3).els t0 (dG r1 ((u5.trans u6).trans u7))
  ·exact wa'.up (u1.trans y1) fun _ _ h=>MatV.up hM h (u1.trans y1)
  ·exact (h1.mono fun a v h=>CellV.up hM h y1).els s1 (dG r2 (u6.trans u7))
  ·exact (g1'.mono fun a v h=>LinkV.up hM h y3).els t1 (dG r3 u7)
theorem tK {l : List Rat} (hl : Lst k A n 2 yA l) (hn : l.length≤10000)
 (C : ∀ k' B m d B' m' d',Up k k'→Lst k' B m 3 (NP 1 k') l→Lst k' B' m' 3 (NR' 2 k') l→R k' (.tuple #[.slice B m d,.slice B' m' d'])) :
 Cl k 14 #[.slice A n c] R:=by
 intro k0 u0
 replace hl:=hl.kept u0
 replace C:=fun k' B m d B' m' d' u=>C k' B m d B' m' d' (u0.trans u)
 have en:=hl.1
 have s0 : ∀ {k : World},∀ a (v : Rat),NP 1 k a v→Seg 3 a:=fun _ _ h=>h.seg
 have s1 : ∀ {k : World},∀ a (v : Rat),NR' 2 k a v→Seg 3 a:=fun _ _ h=>h.seg
 refine aHs ⟨rfl,fun m k vs=>∃ (j : Nat) (B0 B1 : Option Addr) (e0 e1 : Nat) (x0 x1 : Array Value),j+m = n∧vs = [.int .i64 j,.tuple #[.slice B0 j e0,.agg x0],.tuple #[.slice B1 j e1,.agg x1]] ∧
  ArrV j 3 (NP 1 k) x0 (at_ l)∧ArrV j 3 (NR' 2 k) x1 (at_ l),⟨n,fun k1 u1=>⟨0,_,_,_,_,_,_,by omega,rfl,ArrV.empty,ArrV.empty⟩⟩,?_⟩
 rintro m k1 vs u1 ⟨j,B0,B1,e0,e1,x0,x1,hj,rfl,h0,h1⟩
 refine ⟨j,B0,j,e0,x0,h0.rowC s0,B1,j,e1,x1,h1.rowC s1,rfl,fun hlt=>?_,fun hge k2 u2 r0 k3 u3 r1 k4 u4=>?_⟩
 ·have hlt:=aH hlt
  obtain ⟨a,_,⟨y,z,i1,i2,rfl,er⟩,ha,hb,hr,_⟩:=(hl.kept u1).el (i:=j) (by omega) (by decide)
  refine ⟨ha,hb,y,z,hr k1 (Up.refl _),qR i1 i2 fun k2 a2 u2 w2=>⟨a2,w2.seg,rfl,by simp [w2.seg.1],by decide,⟨by simp; omega,by simp; omega⟩,?_⟩⟩
  rintro B0' _ g0' _ rfl rfl _
  refine tR i1 i2 fun k6 a6 u6 w6=>⟨a6,w6.seg,rfl,by simp [w6.seg.1],by decide,⟨by simp; omega,by simp; omega⟩,?_⟩
  rintro B1' _ g1' _ rfl rfl _ k9 u9
  have v9:=(u2.trans u6).trans u9
  refine ⟨m - 1,by omega,j+1,B0',B1',g0',g1',_,_,by omega,by rw [aF (by omega)]; rfl,?_,?_⟩
  ·rw [List.append_nil]
   refine ArrV.push (h0.mono fun a v h=>h.up v9) w2.seg.1 ?_
   rw [er]; exact w2.up (u6.trans u9)
  ·rw [List.append_nil]
   refine ArrV.push (h1.mono fun a v h=>h.up v9) w6.seg.1 ?_
   rw [er]; exact w6.up u9
 ·have hge:=aK hge
  have ej : j = l.length:=by omega
  have v4:=(u2.trans u3).trans u4
  refine C k4 B0 j e0 B1 j e1 (u1.trans v4) ⟨ej,?_⟩ ⟨ej,?_⟩
  ·exact (h0.mono fun a v h=>h.up v4).els s0 (dG r0 (u3.trans u4))
  ·exact (h1.mono fun a v h=>h.up v4).els s1 (dG r1 u4)
theorem aCu (hx : StateA k A3 n3 A4 n4 A5 n5 x) (h30 : x.temp.length≤30∧x.cure.length≤30∧x.spoil.length≤30)
 (C : ∀ k' B0 m0 e0 B1 m1 e1 B2 m2 e2 D0 p0 f0 D1 p1 f1 D2 p2 f2,Up k k'→StateV (NP 1) k' B0 m0 B1 m1 B2 m2 x→StateV (NR' 2) k' D0 p0 D1 p1 D2 p2 x →
   R k' (.tuple #[.agg #[.slice B0 m0 e0,.slice B1 m1 e1,.slice B2 m2 e2],.agg #[.slice D0 p0 f0,.slice D1 p1 f1,.slice D2 p2 f2]])) :
 Cl k 13 #[.agg #[.slice A3 n3 d3,.slice A4 n4 d4,.slice A5 n5 d5]] R:=by
 intro k0 u0
 replace hx:=hx.up u0
 refine zL (tK hx.temp (by omega) fun k1 B0 m0 e0 D0 p0 f0 u1 w1 w1'=>⟨_,_,_,_,_,_,rfl,?_⟩)
 refine tK (hx.up u1).cure (by omega) fun k2 B1 m1 e1 D1 p1 f1 u2 w2 w2'=>⟨_,_,_,_,_,_,rfl,?_⟩
 refine tK ((hx.up u1).up u2).spoil (by omega) fun k3 B2 m2 e2 D2 p2 f2 u3 w3 w3'=>⟨_,_,_,_,_,_,rfl,fun k4 u4=>?_⟩
 have y2:=u2.trans (u3.trans u4)
 exact C k4 B0 m0 e0 B1 m1 e1 B2 m2 e2 D0 p0 f0 D1 p1 f1 D2 p2 f2 ((u0.trans u1).trans y2)
  ⟨w1.up y2 fun _ _ h=>h.up y2,w2.up (u3.trans u4) fun _ _ h=>h.up (u3.trans u4),w3.up u4 fun _ _ h=>h.up u4⟩ ⟨w1'.up y2 fun _ _ h=>h.up y2,w2'.up (u3.trans u4) fun _ _ h=>h.up (u3.trans u4),w3'.up u4 fun _ _ h=>h.up u4⟩
end
end Go.Proofs.YtampehijkiencaaGreat

namespace Go.Proofs.YtampehijkiencaaGreat
open Go.RowKit Num
open Sy (Rewr)
theorem set3 {W : World} {g : Nat} {t : TypeId} {a b c a' b' c' : Value} (h : W.heap[g]? = some (.cells #[a,b,c] t (0,0))) :
 ((W.setCell ⟨g,0,none⟩ a').setCell ⟨g,1,none⟩ b').setCell ⟨g,2,none⟩ c' = Sy.World.putBlk W g t #[a',b',c']:=by
 have h0 : Sy.Blk W g t #[a,b,c]:=h
 rw [Sy.setCell_putBlk h0]
 rw [Sy.setCell_putBlk (h0.put _),Sy.putBlk_put]
 rw [Sy.setCell_putBlk (h0.put _),Sy.putBlk_put]
 rfl
theorem bW {W : World} {g : Nat} {t : TypeId} {a : Array Value} (p : Nat) (hg : g < W.heap.size) : (Sy.World.putBlk W g t a).heap[p]? = if p = g then some (.cells a t (0,0)) else W.heap[p]?:=by
 unfold Sy.World.putBlk
 simp only [Array.getElem?_setIfInBounds]
 by_cases c : p = g
 ·subst c; rw [if_pos rfl,if_pos hg,if_pos rfl]
 ·rw [if_neg (Ne.symm c),if_neg c]
theorem Rewr.put_n {w W : World} {n m g : Nat} {t : TypeId} {a : Array Value} (h : Rewr n m w W) (hg : g < W.heap.size) (e : g = n∨g = m) : Rewr n m w (Sy.World.putBlk W g t a) :=
 ⟨h.os,h.tape,h.output,by unfold Sy.World.putBlk; simpa using h.size,fun p hp h1 h2=>by
   rw [bW p hg,if_neg (by rcases e with e | e <;> (rw [e]; assumption))]; exact h.block p hp h1 h2⟩
theorem Rewr.below {w W W' : World} {n m : Nat} (h : Rewr n m w W) (b : Below W.heap.size W W') : Rewr n m w W' :=
 ⟨b.os.trans h.os,b.tape.trans h.tape,b.output.trans h.output,Nat.le_trans h.size b.size,fun p hp h1 h2=>(b.block p (Nat.lt_of_lt_of_le hp h.size)).trans (h.block p hp h1 h2)⟩
theorem aHk {x y : Rat} : (((x - y).num.sign : Int) < 0) = (x < y):=propext (decide_eq_decide.1 gB)
theorem pE {x y : Rat} : (((x - y).num.sign : Int) > 0) = (y < x):=by
 have h : (((x - y).num.sign : Int) > 0)↔0 < x - y:=decide_eq_decide.1 pF
 exact propext (h.trans ⟨fun h=>by grind,fun h=>by grind⟩)
def Few (W : World) (g : Nat) : Prop:=∃ c,W.heap[g]? = some (.cells c 71 (0,0))∧∀ u ∈ c.toList,u.noWord = true
set_option maxRecDepth 20000 in
set_option maxHeartbeats 4000000 in
theorem aOk {w : World} {n m : Nat} {gx : Bool} {Ax Dx : Option Addr} {nx cx dx ex : Nat} {x : Rat} {gl : Bool} {Al Dl : Option Addr} {nl cl dl el : Nat} {lo : Rat} {gh : Bool} {Ah Dh : Option Addr} {nh ch dh eh : Nat} {hi : Rat} {K : Nat}
 (hx : ∀ W,Rewr n m w W→Few W n→Few W m→RatR W gx Ax nx cx Dx dx ex x) (hl : ∀ W,Rewr n m w W→Few W n→Few W m→RatR W gl Al nl cl Dl dl el lo) (hh : ∀ W,Rewr n m w W→Few W n→Few W m→RatR W gh Ah nh ch Dh dh eh hi)
 (k1 : 1≤K) (lx : nx≤K) (lxd : dx≤K) (ll : nl≤K) (lld : dl≤K) (lh : nh≤K) (lhd : dh≤K) (hK : K≤1073741824) (hnm : n ≠ m)
 (Bn : w.heap[n]? = some (.cells #[.bool gl,.slice Al nl cl,.slice Dl dl el] 71 (0,0))) (Bm : w.heap[m]? = some (.cells #[.bool gh,.slice Ah nh ch,.slice Dh dh eh] 71 (0,0))) :
 Calls Tryz.prog 22 #[.agg #[.bool gx,.slice Ax nx cx,.slice Dx dx ex],.pointer (some ⟨n,0,none⟩),.pointer (some ⟨m,0,none⟩)] w fun e w'=>e = .returned (.tuple #[])∧Rewr n m w w' ∧
  w'.heap[n]? = some (.cells (if x < lo then #[.bool gx,.slice Ax nx cx,.slice Dx dx ex] else #[.bool gl,.slice Al nl cl,.slice Dl dl el]) 71 (0,0))∧w'.heap[m]? = some (.cells (if hi < x then #[.bool gx,.slice Ax nx cx,.slice Dx dx ex] else #[.bool gh,.slice Ah nh ch,.slice Dh dh eh]) 71 (0,0)):=by
 have ln : n < w.heap.size:=(Array.getElem?_eq_some_iff.1 Bn).1
 have lm : m < w.heap.size:=(Array.getElem?_eq_some_iff.1 Bm).1
 have HX:=Lib.hid hx
 have HL:=Lib.hid hl
 have HH:=Lib.hid hh
 clear hx hl hh
 have cell : ∀ {W : World} {g : Nat} {c : Array Value} {t : TypeId} (p : Nat),W.heap[g]? = some (.cells c t (0,0))→W.cell? ⟨g,p,none⟩ = c[p]?:=fun p h=>by unfold World.cell?; rw [h]; rfl
 have fr : ∀ {W : World} {g : Nat} {c : Array Value} {t : TypeId} (p : Nat),W.heap[g]? = some (.cells c t (0,0))→W.frozen? ⟨g,p,none⟩ = false:=fun p h=>by unfold World.frozen?; rw [h]; simp
 have few : ∀ {W : World} {g : Nat} {b : Bool} {A D : Option Addr} {p q r s : Nat},W.heap[g]? = some (.cells #[.bool b,.slice A p q,.slice D r s] 71 (0,0))→Few W g:=fun h=>⟨_,h,by simp [Value.noWord]⟩
 have r0 : Rewr n m w w:=⟨rfl,rfl,rfl,Nat.le_refl _,fun _ _ _ _=>rfl⟩
 have b0:=(Below.refl w.heap.size w).alloc (Nat.le_refl _) (.cells #[.bool gx,.slice Ax nx cx,.slice Dx dx ex] 71)
 have R0:=Rewr.below r0 b0
 have Bn0:=(b0.block n ln).trans Bn
 have Bm0:=(b0.block m lm).trans Bm
 have n0 : (w.alloc (.cells #[.bool gx,.slice Ax nx cx,.slice Dx dx ex] 71)).cell? ⟨n,0,none⟩ = some (.bool gl):=cell 0 Bn0
 have n1 : (w.alloc (.cells #[.bool gx,.slice Ax nx cx,.slice Dx dx ex] 71)).cell? ⟨n,1,none⟩ = some (.slice Al nl cl):=cell 1 Bn0
 have n2 : (w.alloc (.cells #[.bool gx,.slice Ax nx cx,.slice Dx dx ex] 71)).cell? ⟨n,2,none⟩ = some (.slice Dl dl el):=cell 2 Bn0
 have lN : w.heap.size < (w.alloc (.cells #[.bool gx,.slice Ax nx cx,.slice Dx dx ex] 71)).heap.size:=by simp
 have BN0 : (w.alloc (.cells #[.bool gx,.slice Ax nx cx,.slice Dx dx ex] 71)).heap[w.heap.size]? = some (.cells #[.bool gx,.slice Ax nx cx,.slice Dx dx ex] 71 (0,0)):=by show (w.heap.push _)[w.heap.size]? = _; simp
 have H1:=Lib.hid (aBd (HX.out _ R0 (few Bn0) (few Bm0)) (HL.out _ R0 (few Bn0) (few Bm0)) k1 lx lxd ll lld hK)
 clear Bn0 Bm0
 replace BN0:=Lib.hid BN0
 replace R0:=Lib.hid R0
 replace b0:=Lib.hid b0
 go_enter Tryz.func22,Tryz.ntmps22
 go_wp2_with fail
 refine H1.out.mono ?_
 rintro e w1 ⟨rfl,hb1⟩
 have BN : w1.heap[w.heap.size]? = some (.cells #[.bool gx,.slice Ax nx cx,.slice Dx dx ex] 71 (0,0)):=(hb1.block _ lN).trans BN0.out
 have R1:=Rewr.below R0.out hb1
 have b1 : Below w.heap.size w w1:=b0.out.trans (hb1.mono (by simp))
 have Bn1:=(b1.block n ln).trans Bn
 have Bm1:=(b1.block m lm).trans Bm
 clear n0 n1 n2 H1 BN0 R0 b0 hb1
 have N0 : w1.cell? ⟨w.heap.size,0,none⟩ = some (.bool gx):=cell 0 BN
 have N1 : w1.cell? ⟨w.heap.size,1,none⟩ = some (.slice Ax nx cx):=cell 1 BN
 have N2 : w1.cell? ⟨w.heap.size,2,none⟩ = some (.slice Dx dx ex):=cell 2 BN
 have m0 : w1.cell? ⟨m,0,none⟩ = some (.bool gh):=cell 0 Bm1
 have m1 : w1.cell? ⟨m,1,none⟩ = some (.slice Ah nh ch):=cell 1 Bm1
 have m2 : w1.cell? ⟨m,2,none⟩ = some (.slice Dh dh eh):=cell 2 Bm1
 have n0 : w1.cell? ⟨n,0,none⟩ = some (.bool gl):=cell 0 Bn1
 have n1 : w1.cell? ⟨n,1,none⟩ = some (.slice Al nl cl):=cell 1 Bn1
 have n2 : w1.cell? ⟨n,2,none⟩ = some (.slice Dl dl el):=cell 2 Bn1
 have f0 : w1.frozen? ⟨n,0,none⟩ = false:=fr 0 Bn1
 have f1 : w1.frozen? ⟨n,1,none⟩ = false:=fr 1 Bn1
 have f2 : w1.frozen? ⟨n,2,none⟩ = false:=fr 2 Bn1
 replace BN:=Lib.hid BN
 replace R1:=Lib.hid R1
 replace Bn1:=Lib.hid Bn1
 replace Bm1:=Lib.hid Bm1
 have l1N : w.heap.size < w1.heap.size:=by have:=(Array.getElem?_eq_some_iff.1 BN.out).1; exact this
 have l1n : n < w1.heap.size:=by omega
 have l1m : m < w1.heap.size:=by omega
 by_cases hlt : x < lo
 ·have z1 : ((x - lo).num.sign < 0) = True:=by rw [aHk]; simp [hlt]
  have E2:=set3 (a':=.bool gx) (b':=.slice Ax nx cx) (c':=.slice Dx dx ex) Bn1.out
  have Bn2 : (Sy.World.putBlk w1 n 71 #[.bool gx,.slice Ax nx cx,.slice Dx dx ex]).heap[n]? = some (.cells #[.bool gx,.slice Ax nx cx,.slice Dx dx ex] 71 (0,0)):=by rw [bW _ l1n,if_pos rfl]
  have Bm2 : (Sy.World.putBlk w1 n 71 #[.bool gx,.slice Ax nx cx,.slice Dx dx ex]).heap[m]? = some (.cells #[.bool gh,.slice Ah nh ch,.slice Dh dh eh] 71 (0,0)):=by rw [bW _ l1n,if_neg (Ne.symm hnm)]; exact Bm1.out
  have BN2 : (Sy.World.putBlk w1 n 71 #[.bool gx,.slice Ax nx cx,.slice Dx dx ex]).heap[w.heap.size]? = some (.cells #[.bool gx,.slice Ax nx cx,.slice Dx dx ex] 71 (0,0)):=by rw [bW _ l1n,if_neg (by omega)]; exact BN.out
  have R2 : Rewr n m w (Sy.World.putBlk w1 n 71 #[.bool gx,.slice Ax nx cx,.slice Dx dx ex]):=Rewr.put_n R1.out l1n (.inl rfl)
  have s2 : (Sy.World.putBlk w1 n 71 #[.bool gx,.slice Ax nx cx,.slice Dx dx ex]).heap.size = w1.heap.size:=by unfold Sy.World.putBlk; simp
  rw [← E2] at Bn2 Bm2 BN2 R2 s2
  clear E2
  have H2:=Lib.hid (aBd (HX.out _ R2 (few Bn2) (few Bm2)) (HH.out _ R2 (few Bn2) (few Bm2)) k1 lx lxd lh lhd hK)
  replace Bn2:=Lib.hid Bn2
  replace Bm2:=Lib.hid Bm2
  replace BN2:=Lib.hid BN2
  replace R2:=Lib.hid R2
  replace s2:=Lib.hid s2
  go_wp2_with fail
  refine H2.out.mono ?_
  rintro e w3 ⟨rfl,hb3⟩
  have R3:=Rewr.below R2.out hb3
  have e2:=s2.out
  have Bn3 : w3.heap[n]? = some (.cells #[.bool gx,.slice Ax nx cx,.slice Dx dx ex] 71 (0,0)):=(hb3.block n (by omega)).trans Bn2.out
  have Bm3 : w3.heap[m]? = some (.cells #[.bool gh,.slice Ah nh ch,.slice Dh dh eh] 71 (0,0)):=(hb3.block m (by omega)).trans Bm2.out
  have BN3 : w3.heap[w.heap.size]? = some (.cells #[.bool gx,.slice Ax nx cx,.slice Dx dx ex] 71 (0,0)):=(hb3.block _ (by omega)).trans BN2.out
  have l3m : m < w3.heap.size:=by have:=hb3.size; omega
  clear hb3 H2 Bn2 Bm2 BN2 R2 s2 e2 N0 N1 N2 m0 m1 m2 n0 n1 n2 f0 f1 f2 z1
  have N0 : w3.cell? ⟨w.heap.size,0,none⟩ = some (.bool gx):=cell 0 BN3
  have N1 : w3.cell? ⟨w.heap.size,1,none⟩ = some (.slice Ax nx cx):=cell 1 BN3
  have N2 : w3.cell? ⟨w.heap.size,2,none⟩ = some (.slice Dx dx ex):=cell 2 BN3
  have m0 : w3.cell? ⟨m,0,none⟩ = some (.bool gh):=cell 0 Bm3
  have m1 : w3.cell? ⟨m,1,none⟩ = some (.slice Ah nh ch):=cell 1 Bm3
  have m2 : w3.cell? ⟨m,2,none⟩ = some (.slice Dh dh eh):=cell 2 Bm3
  have f0 : w3.frozen? ⟨m,0,none⟩ = false:=fr 0 Bm3
  have f1 : w3.frozen? ⟨m,1,none⟩ = false:=fr 1 Bm3
  have f2 : w3.frozen? ⟨m,2,none⟩ = false:=fr 2 Bm3
  clear BN3
  replace R3:=Lib.hid R3
  replace Bn3:=Lib.hid Bn3
  replace Bm3:=Lib.hid Bm3
  by_cases hgt : hi < x
  ·have z2 : ((x - hi).num.sign > 0) = True:=by rw [pE]; simp [hgt]
   have E4:=set3 (a':=.bool gx) (b':=.slice Ax nx cx) (c':=.slice Dx dx ex) Bm3.out
   replace E4:=Lib.hid E4
   go_wp2_with fail
   go_end0
   rw [E4.out]
   exact ⟨rfl,Rewr.put_n R3.out l3m (.inr rfl),by rw [bW _ l3m,if_neg hnm]; exact Bn3.out,by rw [bW _ l3m,if_pos rfl]⟩
  ·have z2 : ((x - hi).num.sign > 0) = False:=by rw [pE]; simp [hgt]
   go_wp2_with fail
   go_end0
   exact ⟨rfl,R3.out,Bn3.out,Bm3.out⟩
 ·have z1 : ((x - lo).num.sign < 0) = False:=by rw [aHk]; simp [hlt]
  have Bn2:=Bn1.out
  have Bm2:=Bm1.out
  have BN2:=BN.out
  have R2:=R1.out
  have s2 : w1.heap.size = w1.heap.size:=rfl
  have H2:=Lib.hid (aBd (HX.out _ R2 (few Bn2) (few Bm2)) (HH.out _ R2 (few Bn2) (few Bm2)) k1 lx lxd lh lhd hK)
  replace Bn2:=Lib.hid Bn2
  replace Bm2:=Lib.hid Bm2
  replace BN2:=Lib.hid BN2
  replace R2:=Lib.hid R2
  replace s2:=Lib.hid s2
  go_wp2_with fail
  refine H2.out.mono ?_
  rintro e w3 ⟨rfl,hb3⟩
  have R3:=Rewr.below R2.out hb3
  have e2:=s2.out
  have Bn3 : w3.heap[n]? = some (.cells #[.bool gl,.slice Al nl cl,.slice Dl dl el] 71 (0,0)):=(hb3.block n (by omega)).trans Bn2.out
  have Bm3 : w3.heap[m]? = some (.cells #[.bool gh,.slice Ah nh ch,.slice Dh dh eh] 71 (0,0)):=(hb3.block m (by omega)).trans Bm2.out
  have BN3 : w3.heap[w.heap.size]? = some (.cells #[.bool gx,.slice Ax nx cx,.slice Dx dx ex] 71 (0,0)):=(hb3.block _ (by omega)).trans BN2.out
  have l3m : m < w3.heap.size:=by have:=hb3.size; omega
  clear hb3 H2 Bn2 Bm2 BN2 R2 s2 e2 N0 N1 N2 m0 m1 m2 n0 n1 n2 f0 f1 f2 z1
  have N0 : w3.cell? ⟨w.heap.size,0,none⟩ = some (.bool gx):=cell 0 BN3
  have N1 : w3.cell? ⟨w.heap.size,1,none⟩ = some (.slice Ax nx cx):=cell 1 BN3
  have N2 : w3.cell? ⟨w.heap.size,2,none⟩ = some (.slice Dx dx ex):=cell 2 BN3
  have m0 : w3.cell? ⟨m,0,none⟩ = some (.bool gh):=cell 0 Bm3
  have m1 : w3.cell? ⟨m,1,none⟩ = some (.slice Ah nh ch):=cell 1 Bm3
  have m2 : w3.cell? ⟨m,2,none⟩ = some (.slice Dh dh eh):=cell 2 Bm3
  have f0 : w3.frozen? ⟨m,0,none⟩ = false:=fr 0 Bm3
  have f1 : w3.frozen? ⟨m,1,none⟩ = false:=fr 1 Bm3
  have f2 : w3.frozen? ⟨m,2,none⟩ = false:=fr 2 Bm3
  clear BN3
  replace R3:=Lib.hid R3
  replace Bn3:=Lib.hid Bn3
  replace Bm3:=Lib.hid Bm3
  by_cases hgt : hi < x
  ·have z2 : ((x - hi).num.sign > 0) = True:=by rw [pE]; simp [hgt]
   have E4:=set3 (a':=.bool gx) (b':=.slice Ax nx cx) (c':=.slice Dx dx ex) Bm3.out
   replace E4:=Lib.hid E4
   go_wp2_with fail
   go_end0
   rw [E4.out]
   exact ⟨rfl,Rewr.put_n R3.out l3m (.inr rfl),by rw [bW _ l3m,if_neg hnm]; exact Bn3.out,by rw [bW _ l3m,if_pos rfl]⟩
  ·have z2 : ((x - hi).num.sign > 0) = False:=by rw [pE]; simp [hgt]
   go_wp2_with fail
   go_end0
   exact ⟨rfl,R3.out,Bn3.out,Bm3.out⟩
end Go.Proofs.YtampehijkiencaaGreat

namespace Go.Proofs.YtampehijkiencaaGreat
theorem aJd {l : List PRate} (h : bM l = 0) {i : Nat} (hi : i < l.length) : 0≤(at_ l i).v:=by
 unfold bM at h
 split at h
 ·cases h
 ·have:=dI h i hi
  unfold dA at this
  split at this
  ·cases this
  ·split at this
   ·cases this
   ·rename_i hn; exact Rat.not_lt.1 hn
theorem aBh {l : List PRate} (h : bM l = 0) (t : Rat) : 0≤spd l t:=by
 unfold spd
 split
 ·exact Rat.le_refl
 ·have h1 : upto l t≤l.length:=(List.takeWhile_sublist _).length_le
  exact aJd h (by omega)
section
variable {s : PSec} {x : PState} {u v : Rat}
theorem aOf (h : aW s = 0) {i : Nat} (hi : i < s.mats.length) : bM (at_ s.mats i).cure = 0∧bM (at_ s.mats i).spoil = 0:=by
 have:=dI (mA h) i hi
 unfold lB at this
 by_cases c1 : bM (at_ s.mats i).cure = 0
 ·rw [if_neg (by simp [c1])] at this
  by_cases c2 : bM (at_ s.mats i).spoil = 0
  ·exact ⟨c1,c2⟩
  ·rw [if_pos c2] at this; exact absurd this c2
 ·rw [if_pos c1] at this; exact absurd this c1
theorem aMd (h : aW s = 0) {i : Nat} (hi : i < s.cells.length) : at_ x.cure i≤vJ s x i∧at_ x.spoil i≤rB s x i:=by
 obtain ⟨h0,h1,_⟩:=uO h hi
 have hm:=aOf h (i:=(at_ s.cells i).m.toNat) (by omega)
 have a:=aBh hm.1 (at_ x.temp i)
 have b:=aBh hm.2 (at_ x.temp i)
 unfold vJ rB
 constructor <;> grind
theorem qG {B t : Rat} {T : PLink→Rat} : ∀ (ls : List PLink) (a c : Rat),a≤c*(B - t)→(∀ l ∈ ls,0≤l.v∧T l≤B)→ls.foldl (fun a l=>a+l.v*(T l - t)) a≤ls.foldl (fun c l=>c+l.v) c*(B - t)
 | [],a,c,h,_=>h
 | l :: ls,a,c,h,hl=>by
  obtain ⟨h0,h1⟩:=hl l (by simp)
  rw [List.foldl_cons,List.foldl_cons]
  refine qG ls _ _ ?_ fun y hy=>hl y (by simp [hy])
  have:=Rat.mul_le_mul_of_nonneg_left (show T l - t≤B - t by grind) h0
  grind
theorem pS {B t : Rat} {T : PLink→Rat} : ∀ (ls : List PLink) (a c : Rat),c*(B - t)≤a→(∀ l ∈ ls,0≤l.v∧B≤T l)→ls.foldl (fun c l=>c+l.v) c*(B - t)≤ls.foldl (fun a l=>a+l.v*(T l - t)) a
 | [],a,c,h,_=>h
 | l :: ls,a,c,h,hl=>by
  obtain ⟨h0,h1⟩:=hl l (by simp)
  rw [List.foldl_cons,List.foldl_cons]
  refine pS ls _ _ ?_ fun y hy=>hl y (by simp [hy])
  have:=Rat.mul_le_mul_of_nonneg_left (show B - t≤T l - t by grind) h0
  grind
theorem aMr (h : aW s = 0) {i : Nat} (hi : i < s.cells.length) : tot s.links i ((at_ s.cells i).steam+(at_ s.cells i).air)≤(at_ s.cells i).cap:=by
 have:=dI (aLf h) i hi
 unfold jK at this
 split at this
 ·cases this
 ·rename_i hn; exact Rat.not_lt.1 hn
theorem aHd (h : aW s = 0) {z : PLink} (hz : z ∈ s.links) : 0≤z.v:=by
 obtain ⟨j,hj,e⟩:=List.getElem_of_mem hz
 rw [← e,← dU hj]
 exact (aAb h hj).2.2.2
theorem zX (h : aW s = 0) {i : Nat} (_hi : i < s.cells.length) {z : PLink} (hz : z ∈ nbm s.links i) : (z.a+z.b - (i : Int)).toNat < s.cells.length:=by
 obtain ⟨h1,h2⟩:=iM hz
 have:=gG (eB h) z h1
 omega
structure Btw (s : PSec) (x : PState) (u v : Rat) (lo hi : Rat) : Prop where
 temp : ∀ j,j < s.cells.length→lo≤at_ x.temp j∧at_ x.temp j≤hi
 steam : ∀ j,j < s.cells.length→(at_ s.cells j).steam ≠ 0→lo≤u∧u≤hi
 air : ∀ j,j < s.cells.length→(at_ s.cells j).air ≠ 0→lo≤v∧v≤hi
theorem pY {w T B t : Rat} (hw : 0≤w) (h : w ≠ 0→T≤B) : w*(T - t)≤w*(B - t):=by
 by_cases c : w = 0
 ·rw [c]; grind
 ·exact Rat.mul_le_mul_of_nonneg_left (by have:=h c; grind) hw
theorem qM {w T B t : Rat} (hw : 0≤w) (h : w ≠ 0→B≤T) : w*(B - t)≤w*(T - t):=by
 by_cases c : w = 0
 ·rw [c]; grind
 ·exact Rat.mul_le_mul_of_nonneg_left (by have:=h c; grind) hw
theorem vC {lo hi : Rat} (h : aW s = 0) (hb : Btw s x u v lo hi) {i : Nat} (hi' : i < s.cells.length) : lo≤sS s x u v i∧sS s x u v i≤hi:=by
 obtain ⟨_,_,hc,hs,ha⟩:=uO h hi'
 have ht:=aMr h hi'
 obtain ⟨b0,b1⟩:=hb.temp i hi'
 have hne : (at_ s.cells i).cap ≠ 0:=fun e=>by rw [e] at hc; exact absurd hc (by decide)
 have hd : flow s x u v i / (at_ s.cells i).cap*(at_ s.cells i).cap = flow s x u v i:=Rat.div_mul_cancel hne
 have nb : ∀ l ∈ nbm s.links (i : Int),0≤l.v∧(lo≤at_ x.temp (l.a+l.b - (i : Int)).toNat∧at_ x.temp (l.a+l.b - (i : Int)).toNat≤hi):=fun l hl=>⟨aHd h (iM hl).1,hb.temp _ (zX h hi' hl)⟩
 have up : flow s x u v i≤tot s.links i ((at_ s.cells i).steam+(at_ s.cells i).air)*(hi - at_ x.temp i):=by
  refine qG _ _ _ ?_ fun l hl=>⟨(nb l hl).1,(nb l hl).2.2⟩
  have p:=pY (T:=u) (B:=hi) (t:=at_ x.temp i) hs fun e=>(hb.steam i hi' e).2
  have q:=pY (T:=v) (B:=hi) (t:=at_ x.temp i) ha fun e=>(hb.air i hi' e).2
  grind
 have dn : tot s.links i ((at_ s.cells i).steam+(at_ s.cells i).air)*(lo - at_ x.temp i)≤flow s x u v i:=by
  refine pS _ _ _ ?_ fun l hl=>⟨(nb l hl).1,(nb l hl).2.1⟩
  have p:=qM (T:=u) (B:=lo) (t:=at_ x.temp i) hs fun e=>(hb.steam i hi' e).1
  have q:=qM (T:=v) (B:=lo) (t:=at_ x.temp i) ha fun e=>(hb.air i hi' e).1
  grind
 have up2:=Rat.mul_le_mul_of_nonneg_right ht (show 0≤hi - at_ x.temp i by grind)
 have dn2:=Rat.mul_le_mul_of_nonneg_right ht (show 0≤at_ x.temp i - lo by grind)
 unfold sS
 constructor
 ·by_cases c : lo≤at_ x.temp i+flow s x u v i / (at_ s.cells i).cap
  ·exact c
  ·have hp : 0 < ((lo - at_ x.temp i) - flow s x u v i / (at_ s.cells i).cap)*(at_ s.cells i).cap:=Rat.mul_pos (by grind) hc
   grind
 ·by_cases c : at_ x.temp i+flow s x u v i / (at_ s.cells i).cap≤hi
  ·exact c
  ·have hp : 0 < (flow s x u v i / (at_ s.cells i).cap - (hi - at_ x.temp i))*(at_ s.cells i).cap:=Rat.mul_pos (by grind) hc
   grind
end
end Go.Proofs.YtampehijkiencaaGreat

namespace Go.Proofs.YtampehijkiencaaGreat
open Go.RowKit Num
open Sy (Up Sees CallsG Seg)
theorem yF : dec 1 = [49]:=by
 unfold dec
 rw [if_neg (by omega),gQ (by omega),show 1 / 10 = 0 from rfl,dH]
 rfl
theorem wD {a : Nat} (h0 : 0 < a) (h1 : a < 10) : dec (a*10) = [UInt8.ofNat (48+a),48]:=by
 unfold dec
 rw [if_neg (by omega),gQ (by omega),show a*10 / 10 = a by omega,gQ (by omega),show a / 10 = 0 by omega,dH,show a*10 % 10 = 0 by omega,show a % 10 = a by omega]
 rfl
theorem qS (a : Nat) : cI ((a : Int) : Rat) = dec a:=by
 unfold cI
 have h : ¬ (((a : Int) : Rat).num < 0):=by rw [Rat.num_intCast]; omega
 have h2 : ((a : Int) : Rat).den = 1:=Rat.den_intCast _
 rw [if_neg h,if_pos h2,Rat.num_intCast,Int.natAbs_natCast,List.nil_append,List.append_nil]
theorem text80 : cI 80 = [56,48]:=by
 have:=qS 80
 rw [show (((80 : Nat) : Int) : Rat) = 80 from rfl] at this
 rw [this]
 exact wD (a:=8) (by decide) (by decide)
theorem text30 : cI 30 = [51,48]:=by
 have:=qS 30
 rw [show (((30 : Nat) : Int) : Rat) = 30 from rfl] at this
 rw [this]
 exact wD (a:=3) (by decide) (by decide)
theorem text1 : cI 1 = [49]:=by
 have:=qS 1
 rw [show (((1 : Nat) : Int) : Rat) = 1 from rfl] at this
 rw [this]
 exact yF
theorem aFk {k : World} {p : Nat} {ty : TypeId} {cs : Array Value} (h : Sy.Blk k p ty cs) : InAt k (some ⟨p,0,none⟩) cs:=fun q u hu =>
 ⟨p,0,rfl,Sy.heap_lt h,by rw [Nat.zero_add,cell_of_row k p q cs ty _ h]; exact hu⟩
section
variable {α : Type} [Inhabited α] {k : World} {p s : Nat} {ty : TypeId} {cs a b : Array Value} {P : Array Value→α→Prop} {x y : α}
theorem uP (h : Sy.Blk k p ty cs) (e : cs = a) (ha : a.size = s) (hx : P a x) (hP : ∀ a v,P a v→Seg s a) : Lst k (some ⟨p,0,none⟩) 1 s P [x]:=by
 subst e
 have h0 : ArrV 0 s P #[] (at_ [x]):=ArrV.empty
 have h1:=h0.push (a:=cs) ha hx
 simp only [Array.empty_append,Array.toArray_toList] at h1
 exact ⟨rfl,cs,aFk h,h1.rowC hP,h1⟩
theorem tT (h : Sy.Blk k p ty cs) (e : cs = a ++ b) (ha : a.size = s) (hb : b.size = s) (hx : P a x) (hy : P b y) (hP : ∀ a v,P a v→Seg s a) : Lst k (some ⟨p,0,none⟩) 2 s P [x,y]:=by
 subst e
 have h0 : ArrV 0 s P #[] (at_ [x,y]):=ArrV.empty
 have h1:=(h0.push (a:=a) ha hx).push (a:=b) hb hy
 simp only [Array.empty_append,Array.toArray_toList] at h1
 exact ⟨rfl,_,aFk h,h1.rowC hP,h1⟩
end
def exS : PSec:=⟨[⟨[⟨0,0⟩,⟨60,1⟩],[⟨0,0⟩],1,1⟩],[⟨0,4,1,0⟩,⟨0,4,0,0⟩],[⟨0,1,1⟩]⟩
theorem aEb : aW exS = 0:=by decide +kernel
theorem aKt : tU exS (dP exS 20) [180,180] [180,180] = 0:=by decide +kernel
theorem aJx : ∀ i,i < exS.cells.length→(nbm exS.links (i : Nat)).length≤1:=by decide +kernel
theorem aHc : (xF exS [180,180] [180,180] 2 (dP exS 20)).temp = [80,30]:=by decide +kernel
theorem aIr : (xF exS [180,180] [180,180] 2 (dP exS 20)).cure = [1,0]:=by decide +kernel
section
variable {k : World} {R : World→Value→Prop} {s : PSec} {t : Rat} {cs : Array Value} {K n0 n1 n2 d0 d1 d2 : Nat} {A0 A1 A2 : Option Addr}
theorem yT (hs : SecV (NP K) k A0 n0 A1 n1 A2 n2 s) (ht : RatV k cs t K) (hK1 : 1≤K) (hK : K≤1000000)
 (C : ∀ k' B0 m0 e0 B1 m1 e1 B2 m2 e2,Up k k'→StateV (NP K) k' B0 m0 B1 m1 B2 m2 (mZ (aW s) (dP s t))→R k' (.tuple #[.agg #[.slice B0 m0 e0,.slice B1 m1 e1,.slice B2 m2 e2],.int .i64 (aW s)])) :
 Cl k 34 #[.agg #[.slice A0 n0 d0,.slice A1 n1 d1,.slice A2 n2 d2],.agg cs] R:=by
 intro k0 u0
 replace hs:=SecV.up (aQ K) hs u0
 replace ht:=ht.up u0
 replace C:=fun k' B0 m0 e0 B1 m1 e1 B2 m2 e2 u=>C k' B0 m0 e0 B1 m1 e1 B2 m2 e2 (u0.trans u)
 refine vM ht.seg (vS hs hK1 hK fun k1 u1=>⟨_,rfl,fun f k2 u2=>?_,fun f=>?_⟩)
 ·have:=C k2 _ _ 0 _ _ 0 _ _ 0 (u1.trans u2) (by unfold mZ; rw [if_pos (eW f)]; exact mU)
  exact this
 ·have f:=cK f
  have hc24 : s.cells.length≤24:=by have:=dK f; unfold cH at this; omega
  refine aIy (s:=s) hs.cells.1 (by rw [hs.cells.1]; omega) (ht.up u1) fun k6 B0 m0 e0 B1 m1 e1 B2 m2 e2 u6 hr=>⟨_,_,_,_,_,_,_,_,_,rfl,fun k7 u7=>?_⟩
  have:=C k7 B0 m0 e0 B1 m1 e1 B2 m2 e2 ((u1.trans u6).trans u7) (by unfold mZ; rw [if_neg (by simp [f])]; exact StateV.up (aQ _) hr u7)
  rwa [f] at this
set_option maxHeartbeats 1000000 in
theorem wV (C : ∀ k',Up k k'→R k' (.bool true)) : Cl k 11 #[] R:=by
 intro k0 u0
 replace C:=fun k' u=>C k' (u0.trans u)
 have hN:=aQ 1
 refine aDo (gC (by decide) (by decide) fun k1 c0 u1 h0=>⟨c0,h0.seg,rfl,?_⟩)
 refine gC (by decide) (by decide) fun k2 c1 u2 h1=>⟨c1,h1.seg,rfl,?_⟩
 refine gC (by decide) (by decide) fun k3 c2 u3 h2=>⟨c2,h2.seg,rfl,?_⟩
 refine gC (by decide) (by decide) fun k4 c3 u4 h3=>⟨c3,h3.seg,rfl,?_⟩
 refine gC (by decide) (by decide) fun k5 c4 u5 h4=>⟨c4,h4.seg,rfl,?_⟩
 refine gC (by decide) (by decide) fun k6 c5 u6 h5=>⟨c5,h5.seg,rfl,?_⟩
 refine gC (by decide) (by decide) fun k7 c6 u7 h6=>⟨c6,h6.seg,rfl,?_⟩
 intro p7 k14 u14 b7 p8 k15 u15 b8 p9 k16 u16 b9 p10 k17 u17 b10 p11 k18 u18 b11
 have z : ∀ k : World,RatV k #[.bool false,.slice none 0 0,.slice none 0 0] 0 1:=fun k=>oU 1
 have hr0 : Lst k14 (some ⟨p7,0,none⟩) 2 6 (RateV (NP 1) k14) [⟨0,0⟩,⟨60,1⟩]:=by
  have y2:=u3.trans (u4.trans (u5.trans (u6.trans (u7.trans u14))))
  refine tT b7 (a:=(#[Value.bool false,.slice none 0 0,.slice none 0 0].toList ++ (#[Value.bool false,.slice none 0 0,.slice none 0 0].toList ++ ([]))).toArray) (b:=(c0.toList ++ (c1.toList ++ ([]))).toArray) (by simp) rfl (by simp [h0.seg.1,h1.seg.1]) ⟨_,_,rfl,z _,z _⟩ ⟨_,_,rfl,h0.up (u2.trans y2),h1.up y2⟩ fun _ _ h=>RateV.seg hN h
 have hr1 : Lst k15 (some ⟨p8,0,none⟩) 1 6 (RateV (NP 1) k15) [⟨0,0⟩] :=
  uP b8 rfl rfl ⟨#[.bool false,.slice none 0 0,.slice none 0 0],#[.bool false,.slice none 0 0,.slice none 0 0],rfl,z _,z _⟩ fun _ _ h=>RateV.seg hN h
 have hm : Lst k16 (some ⟨p9,0,none⟩) 1 8 (MatV (NP 1) k16) [⟨[⟨0,0⟩,⟨60,1⟩],[⟨0,0⟩],1,1⟩]:=by
  have y4:=u5.trans (u6.trans (u7.trans (u14.trans (u15.trans u16))))
  exact uP b9 rfl (by simp [h2.seg.1,h3.seg.1]) ⟨_,_,_,_,_,_,c2,c3,rfl,aY hN hr0 (u15.trans u16),aY hN hr1 u16,h2.up (u4.trans y4),h3.up y4⟩ fun _ _ h=>MatV.seg hN h
 have hc : Lst k17 (some ⟨p10,0,none⟩) 2 10 (CellV (NP 1) k17) [⟨0,4,1,0⟩,⟨0,4,0,0⟩]:=by
  have y6:=u7.trans (u14.trans (u15.trans (u16.trans u17)))
  refine tT b10 (a:=((Value.int .i64 0) :: (c4.toList ++ (c5.toList ++ (#[Value.bool false,.slice none 0 0,.slice none 0 0].toList ++ ([]))))).toArray) (b:=((Value.int .i64 0) :: (c4.toList ++ (#[Value.bool false,.slice none 0 0,.slice none 0 0].toList ++ (#[Value.bool false,.slice none 0 0,.slice none 0 0].toList ++ ([]))))).toArray) (by simp) (by simp [h4.seg.1,h5.seg.1]) (by simp [h4.seg.1])
   ⟨_,_,_,rfl,h4.up (u6.trans y6),h5.up y6,z _⟩ ⟨_,_,_,rfl,h4.up (u6.trans y6),z _,z _⟩ fun _ _ h=>CellV.seg hN h
 have hl : Lst k18 (some ⟨p11,0,none⟩) 1 5 (LinkV (NP 1) k18) [⟨0,1,1⟩] :=
  uP b11 rfl (by simp [h6.seg.1]) ⟨c6,rfl,h6.up (u14.trans (u15.trans (u16.trans (u17.trans u18))))⟩ fun _ _ h=>LinkV.seg hN h
 have hs : SecV (NP 1) k18 (some ⟨p9,0,none⟩) 1 (some ⟨p10,0,none⟩) 2 (some ⟨p11,0,none⟩) 1 exS:=⟨hm.up (u17.trans u18) fun _ _ h=>MatV.up hN h (u17.trans u18),hc.up u18 fun _ _ h=>CellV.up hN h u18,hl⟩
 have y18:=u1.trans (u2.trans (u3.trans (u4.trans (u5.trans (u6.trans (u7.trans (u14.trans (u15.trans (u16.trans (u17.trans u18))))))))))
 replace C:=fun k' u=>C k' (y18.trans u)
 clear y18 hr0 hr1 hm hc hl b7 b8 b9 b10 b11 h0 h1 h2 h3 h4 h5 h6 u1 u2 u3 u4 u5 u6 u7 u14 u15 u16 u17 u18
 refine gC (by decide) (by decide) fun k20 c12 u20 h12=>⟨c12,h12.seg,rfl,?_⟩
 refine yT (SecV.up hN hs u20) h12 (by decide) (by decide) fun k22 B0 m0 e0 B1 m1 e1 B2 m2 e2 u22 hst=>⟨_,_,_,_,_,_,_,_,_,_,rfl,?_⟩
 rw [aEb] at hst ⊢
 refine gC (by decide) (by decide) fun k24 c17 u24 h17=>⟨c17,h17.seg,rfl,?_⟩
 refine gC (by decide) (by decide) fun k26 c18 u26 h18=>⟨c18,h18.seg,rfl,?_⟩
 intro p19 k27 u27 b19
 have hh : Lst k27 (some ⟨p19,0,none⟩) 2 3 (NP 1 k27) [180,180]:=tT b19 (a:=c17) (b:=c18) (by simp) h17.seg.1 h18.seg.1 (h17.up (u26.trans u27)) (h18.up u27) fun _ _ h=>h.seg
 have y27:=u22.trans (u24.trans (u26.trans u27))
 refine aMy (d:=1) (SecV.up hN hs (u20.trans y27)) (StateV.up hN hst (u24.trans (u26.trans u27))) hh hh (fun _=>aJx) (by decide) (by decide) (by decide) (fun _ _ _=>by decide +kernel) (by decide) fun k29 P0 q0 f0 P1 q1 f1 P2 q2 f2 u29 hrun=>⟨_,_,_,_,_,_,_,_,_,_,rfl,?_⟩
 have e1 : mZ 0 (dP exS (((20 : Int)) : Rat)) = dP exS 20:=rfl
 rw [e1,aKt] at hrun ⊢
 have e2 : mZ 0 (xF exS [180,180] [180,180] ([180,180] : List Rat).length (dP exS 20)) = xF exS [180,180] [180,180] 2 (dP exS 20):=rfl
 rw [e2] at hrun
 have ht:=hrun.temp
 have hcu:=hrun.cure
 rw [aHc] at ht
 rw [aIr] at hcu
 have et : q0 = 2:=ht.1
 have ec : q1 = 2:=hcu.1
 subst et ec
 replace C:=fun k' u=>C k' ((u20.trans (y27.trans u29)).trans u)
 refine ⟨fun _=>⟨fun _=>⟨rfl,fun _=>⟨rfl,fun _=>?_,fun h=>absurd h (by decide)⟩,fun h=>absurd h (by decide)⟩,fun h=>absurd h (by decide)⟩,fun h=>absurd h (by decide)⟩
 obtain ⟨a,_,ga,ha,hb,hr,_⟩:=ht.el (i:=0) (by decide) (by decide)
 obtain ⟨a',_,ga',ha',hb',hr',_⟩:=ht.el (i:=1) (by decide) (by decide)
 obtain ⟨a2,_,ga2,ha2,hb2,hr2,_⟩:=hcu.el (i:=0) (by decide) (by decide)
 refine ⟨ha,hb,a,ga.seg,hr k29 (Up.refl _),tX ga (by decide +kernel) fun k31 u31=>⟨_,rfl,fun _=>?_,fun h=>?_⟩⟩
 ·refine ⟨ha',hb',a',ga'.seg,hr' k31 u31,tX (ga'.up u31) (by decide +kernel) fun k33 u33=>⟨_,rfl,fun _=>?_,fun h=>?_⟩⟩
  ·refine ⟨ha2,hb2,a2,ga2.seg,hr2 k33 (u31.trans u33),tX ((ga2.up u31).up u33) (by decide +kernel) fun k35 u35=>⟨_,rfl,fun k36 u36=>?_⟩⟩
   have:=C k36 (u31.trans (u33.trans (u35.trans u36)))
   have e : at_ ([1,0] : List Rat) 0 = 1:=rfl
   have e2 : (ByteArray.toList ⟨([49] : List UInt8).toArray⟩ == ByteArray.toList ⟨#[49]⟩) = true:=beq_self_eq_true _
   rw [e,text1,e2]
   exact this
  ·exfalso
   have e : at_ ([80,30] : List Rat) 1 = 30:=rfl
   have e2 : (ByteArray.toList ⟨([51,48] : List UInt8).toArray⟩ == ByteArray.toList ⟨#[51,48]⟩) = true:=beq_self_eq_true _
   rw [e,text30,e2] at h
   cases h
 ·exfalso
  have e : at_ ([80,30] : List Rat) 0 = 80:=rfl
  have e2 : (ByteArray.toList ⟨([56,48] : List UInt8).toArray⟩ == ByteArray.toList ⟨#[56,48]⟩) = true:=beq_self_eq_true _
  rw [e,text80,e2] at h
  cases h
end
end Go.Proofs.YtampehijkiencaaGreat

namespace Go.Proofs.YtampehijkiencaaGreat
open Go.RowKit Num W32
open Sy (Up Sees CallsG Seg)
abbrev NR (K : Nat) : World→Array Value→Rat→Prop:=fun k cs q=>QV k cs q K
theorem kF {q : Rat} : decide ((q.num.sign : Int)≤0) = decide (¬ 0 < q):=by
 refine decide_eq_decide.2 ?_
 rw [← aFz]
 rcases Int.lt_trichotomy q.num 0 with h | h | h
 ·rw [Int.sign_eq_neg_one_of_neg h]; omega
 ·rw [h]; decide
 ·rw [Int.sign_eq_one_of_pos h]; omega
theorem nP {x y : Rat} : 0 < x - y↔y < x:=by
 constructor <;> intro h <;> grind
theorem aFg {x y : Rat} : decide (((x - y).num.sign : Int)≤0) = decide (¬ y < x):=by rw [kF]; exact decide_eq_decide.2 (not_congr nP)
theorem aFo {x y : Rat} : decide (((x - y).num.sign : Int) > 0) = decide (y < x):=by rw [pF]; exact decide_eq_decide.2 nP
section
variable {k k' : World} {R : World→Value→Prop} {cs cs' : Array Value} {x y : Rat} {K L n c n0 n1 n2 d0 d1 d2 : Nat} {A A0 A1 A2 : Option Addr} {s : PSec}
theorem aAq {l : List PRate} (hl : Lst k A n 6 (RateV (NR K) k) l) (hK : K≤1000000) (C : ∀ k',Up k k'→R k' (.int .i64 (bM l))) :
 Cl k 61 #[.slice A n c] R:=by
 intro k0 u0
 have hN:=iX K
 replace hl:=aY hN hl u0
 replace C:=fun k' u=>C k' (u0.trans u)
 have hn:=hl.1
 refine aCx ⟨rfl,fun h k1 u1=>?_,fun h1=>⟨rfl,fun h k1 u1=>?_,fun h2=>?_⟩⟩
 ·have:=C k1 u1
  unfold bM at this
  rwa [if_pos (by simp at h; omega)] at this
 ·have:=C k1 u1
  unfold bM at this
  rwa [if_pos (by have:=of_decide_eq_true h; omega)] at this
 ·have h1 : n ≠ 0:=by simp at h1; omega
  have h2:=of_decide_eq_false h2
  have hE:=tB (l:=l) (by omega) (by omega)
  rw [hE] at C
  refine ⟨fun m k vs=>∃ j : Nat,j+m = n∧vs = [.int .i64 j]∧∀ i,i < j→dA l i = 0,⟨n,fun k1 u1=>⟨0,by omega,rfl,fun i hi=>by omega⟩⟩,?_⟩
  rintro m k1 vs u1 ⟨j,hj,rfl,hz⟩
  have succ : dA l j = 0→∀ i,i < j+1→dA l i = 0:=fun h i hi=>by
   by_cases e : i = j
   ·rw [e]; exact h
   ·exact hz i (by omega)
  refine ⟨j,rfl,rfl,fun hlt=>?_,fun hge k2 u2=>?_⟩
  ·have hlt:=aH hlt
   have hl1:=aY hN hl u1
   obtain ⟨a,_,⟨c0,c1,rfl,h0,h3⟩,ha,hb,_,hr⟩:=hl1.el (i:=j) (by omega) (by decide)
   have stop : ∀ (e : Int),e ≠ 0→dA l j = e→∀ k',Up k1 k'→R k' (.int .i64 e):=fun e he h k' u=>by
    have:=C k' (u1.trans u)
    rwa [eA hz h he (by omega)] at this
   have go : dA l j = 0→∃ m',m' < m∧∃ j' : Nat,j'+m' = n∧[Value.int .i64 (IntKind.wrap .i64 ((j : Int)+1))] = [.int .i64 j']∧∀ i,i < j'→dA l i = 0:=fun h=>⟨m - 1,by omega,j+1,by omega,by rw [aF (by omega)],succ h⟩
   refine ⟨fun hp=>?_,fun hp=>?_⟩
   ·have hp:=of_decide_eq_true hp
    have hp : 0 < j:=by omega
    rw [sR hp (by omega)]
    obtain ⟨a',_,⟨d0,d1,rfl,g0,g1⟩,ha',hb',_,hr'⟩:=hl1.el (i:=j - 1) (by omega) (by decide)
    refine ⟨ha,hb,ha,hb,c0,h0.seg,hr k1 c0 0 3 (Up.refl _) h0.seg.1 (fun q u h=>by rw [Nat.zero_add]; exact gU h),ha',hb',ha',hb',d0,g0.seg,hr' k1 d0 0 3 (Up.refl _) g0.seg.1 (fun q u h=>by rw [Nat.zero_add]; exact gU h),?_⟩
    refine aHg h0 g0 (by omega) fun k3 u3=>⟨_,rfl,fun hf=>?_,fun hf=>?_⟩
    ·rw [aFg] at hf
     intro k5 u5
     exact stop 7 (by decide) (by unfold dA; rw [if_pos ⟨hp,of_decide_eq_true hf⟩]) k5 (u3.trans u5)
    ·rw [aFg] at hf
     have hf : ¬ ¬ (at_ l (j - 1)).f < (at_ l j).f:=of_decide_eq_false hf
     refine ⟨ha,hb,ha,hb,c1,h3.seg,hr k3 c1 3 3 u3 h3.seg.1 (fun q u h=>nN h0.seg.1 (gU h)),?_⟩
     refine jQ (h3.up u3) fun k6 u6=>⟨_,rfl,fun hv=>?_,fun hv=>⟨fun _=>⟨ha,hb,ha,hb,c1,h3.seg,hr k6 c1 3 3 (u3.trans u6) h3.seg.1 (fun q u h=>nN h0.seg.1 (gU h)),ha',hb',ha',hb',d1,g1.seg,hr' k6 d1 3 3 (u3.trans u6) g1.seg.1 (fun q u h=>nN g0.seg.1 (gU h)),?_⟩,fun h=>?_⟩⟩
     ·rw [cW] at hv
      intro k8 u8
      exact stop 1 (by decide) (by unfold dA; rw [if_neg (by rintro ⟨_,h⟩; exact hf h),if_pos (of_decide_eq_true hv)]) k8 ((u3.trans u6).trans u8)
     ·rw [cW] at hv
      refine aHg ((h3.up u3).up u6) ((g1.up u3).up u6) (by omega) fun k9 u9=>⟨_,rfl,fun hw=>?_,fun hw=>?_⟩
      ·rw [gB] at hw
       intro k11 u11
       exact stop 7 (by decide) (by unfold dA; rw [if_neg (by rintro ⟨_,h⟩; exact hf h),if_neg (of_decide_eq_false hv),if_pos ⟨hp,of_decide_eq_true hw⟩]) k11 (((u3.trans u6).trans u9).trans u11)
      ·rw [gB] at hw
       intro k12 u12
       exact go (by unfold dA; rw [if_neg (by rintro ⟨_,h⟩; exact hf h),if_neg (of_decide_eq_false hv),if_neg (by rintro ⟨_,h⟩; exact of_decide_eq_false hw h)])
     ·have:=of_decide_eq_false h; omega
   ·have hp:=of_decide_eq_false hp
    have hp : j = 0:=by omega
    refine ⟨ha,hb,ha,hb,c1,h3.seg,hr k1 c1 3 3 (Up.refl _) h3.seg.1 (fun q u h=>nN h0.seg.1 (gU h)),?_⟩
    refine jQ h3 fun k6 u6=>⟨_,rfl,fun hv=>?_,fun hv=>⟨fun h=>?_,fun _=>?_⟩⟩
    ·rw [cW] at hv
     intro k8 u8
     exact stop 1 (by decide) (by unfold dA; rw [if_neg (by omega),if_pos (of_decide_eq_true hv)]) k8 (u6.trans u8)
    ·have:=of_decide_eq_true h; omega
    ·rw [cW] at hv
     intro k12 u12
     exact go (by unfold dA; rw [if_neg (by omega),if_neg (of_decide_eq_false hv),if_neg (by omega)])
  ·have hge:=aK hge
   have:=C k2 (u1.trans u2)
   rwa [cO fun i hi=>hz i (by omega)] at this
theorem aHo {k : World} {cs : Array Value} (h : QV k cs ((0 : Int) : Rat) 2) (hK : 2≤K) : QV k cs 0 K:=by
 have : ((0 : Int) : Rat) = 0:=rfl
 rw [this] at h
 exact h.mono hK
theorem qE {i j : Int} (C : ∀ k',Up k k'→R k' (.bool (decide (0≤i∧i < j)))) : Cl k 71 #[.int .i64 i,.int .i64 j] R:=by
 intro k0 u0
 refine yK ⟨fun h k1 u1=>?_,fun h k1 u1=>?_⟩
 ·have:=C k1 (u0.trans u1)
  have h:=of_decide_eq_true h
  rwa [show decide (0≤i∧i < j) = decide (i < j) from decide_eq_decide.2 ⟨fun g=>g.2,fun g=>⟨h,g⟩⟩] at this
 ·have:=C k1 (u0.trans u1)
  have h:=of_decide_eq_false h
  rwa [show decide (0≤i∧i < j) = false from decide_eq_false fun g=>h g.1] at this
end
end Go.Proofs.YtampehijkiencaaGreat

namespace Go.Proofs.YtampehijkiencaaGreat
open Go.RowKit Num W32
open Sy (Up Sees CallsG Seg ReadAt)
section
variable {α : Type} [Inhabited α] {k : World} {A : Option Addr} {n s i : Nat} {P : Array Value→α→Prop} {l : List α}
theorem Lst.elx (h : Lst k A n s P l) (hi : i < l.length) (hs : 0 < s) : ∃ a : Array Value,a.size = s∧P a (at_ l i)∧(∃ b o,A = some ⟨b,o,none⟩)∧((0 : Int)≤(i : Int)∧((i : Int) : Int) < (n : Nat)) ∧
 (∀ k',Up k k'→ReadAt k'.cell? A (Int.toNat (i : Int)*s+0) s (.agg a)) ∧
 (∀ k' (c : Array Value) j m,Up k k'→c.size = m→(∀ (q : Nat) u,c[q]? = some u→a[j+q]? = some u)→ReadAt k'.cell? A (Int.toNat (i : Int)*s+j) m (.agg c)) ∧
 ∀ k' j z,Up k k'→a[j]? = some (.int .i64 z)→ReadAt k'.cell? A (Int.toNat (i : Int)*s+j) 1 (.int .i64 z):=by
 obtain ⟨a,h1,h2,h3,h4⟩:=h.2.el (i:=i) (by rw [h.1]; exact hi) hs
 refine ⟨a,h1,h2,h3,⟨by omega,by have:=h.1; omega⟩,fun k' u=>h4 k' u 0 s (.agg a) h1 fun q v hv=>by rw [Nat.zero_add]; exact hv,fun k' c j m u hc hq=>h4 k' u j m (.agg c) hc hq,fun k' j z u hz=>h4 k' u j 1 (.int .i64 z) rfl fun q v hv=>?_⟩
 match q,hv with
 | 0,hv =>
  have : v = .int .i64 z:=by
   have e : (Value.int .i64 z).cells = #[.int .i64 z]:=rfl
   rw [e] at hv
   simpa using hv.symm
  rw [this]; exact hz
 | q+1,hv =>
  have e : (Value.int .i64 z).cells = #[.int .i64 z]:=rfl
  rw [e] at hv
  simp at hv
end
theorem aHi {L : List PLink} {j : Nat} (h : j < L.length) (i : Int) : nbm (L.take (j+1)) i = nbm (L.take j) i ++ ((if (at_ L j).a = i then [at_ L j] else []) ++ (if (at_ L j).b = i then [at_ L j] else [])):=by
 unfold nbm
 rw [List.take_succ_eq_append_getElem h,List.flatMap_append,dU h]; simp
theorem aFt {L : List PLink} {j : Nat} (h : j < L.length) (i : Int) (t : Rat) (hne : (at_ L j).a ≠ (at_ L j).b) :
 tot (L.take (j+1)) i t = if (at_ L j).a = i∨(at_ L j).b = i then tot (L.take j) i t+(at_ L j).v else tot (L.take j) i t:=by
 unfold tot
 rw [aHi h,List.foldl_append]
 by_cases h1 : (at_ L j).a = i
 ·have h2 : (at_ L j).b ≠ i:=fun e=>hne (by rw [h1,e])
  simp [h1,h2]
 ·by_cases h2 : (at_ L j).b = i <;> simp [h1,h2]
theorem aAy {b : Bool} (h : (!b) = true) : b = false:=by simpa using h
theorem qX {b : Bool} (h : (!b) = false) : b = true:=by simpa using h
theorem gY {x y : Int} (h : (x == y) = true) : x = y:=by simpa using h
theorem fW {x y : Int} (h : (x == y) = false) : x ≠ y:=by simpa using h
theorem vV {L : List PLink} {x : PLink} : ∀ {i : Nat},((List.range i).any (fun k=>pair x (at_ L k)) = true)↔∃ k,k < i∧pair x (at_ L k) = true:=by
 intro i
 rw [List.any_eq_true]
 constructor
 ·rintro ⟨k,hk,h⟩; exact ⟨k,by simpa using hk,h⟩
 ·rintro ⟨k,hk,h⟩; exact ⟨k,by simpa using hk,h⟩
section
variable {k k' : World} {R : World→Value→Prop} {cs cs' : Array Value} {s : PSec} {K n0 n1 n2 d0 d1 d2 : Nat} {A0 A1 A2 : Option Addr}
theorem aKl (hs : SecV (NR K) k A0 n0 A1 n1 A2 n2 s) (hne : ∀ i,i < s.links.length→(at_ s.links i).a ≠ (at_ s.links i).b) {i : Nat} (hi : i < s.cells.length) (hn : s.links.length≤64) (hK : K≤1000000)
 (C : ∀ k' ds,Up k k'→QV k' ds (tot s.links i ((at_ s.cells i).steam+(at_ s.cells i).air)) (2*K+1+64*(K+1))→R k' (.agg ds)) :
 Cl k 73 #[.agg #[.slice A0 n0 d0,.slice A1 n1 d1,.slice A2 n2 d2],.int .i64 i] R:=by
 intro k0 u0
 have hN:=iX K
 replace hs:=SecV.up hN hs u0
 replace C:=fun k' ds u=>C k' ds (u0.trans u)
 have e2:=hs.links.1
 obtain ⟨a,_,⟨c0,c1,c2,rfl,q0,q1,q2⟩,ha,hb,_,hr,_⟩:=hs.cells.elx hi (by decide)
 refine aEh ⟨ha,hb,ha,hb,c1,q1.seg,hr k0 c1 4 3 (Up.refl _) q1.seg.1 (fun q u h=>?_),ha,hb,ha,hb,c2,q2.seg,hr k0 c2 7 3 (Up.refl _) q2.seg.1 (fun q u h=>?_),?_⟩
 ·exact mY (d:=3) (nN q0.seg.1 (gU h))
 ·have t:=nN (c:=c0) q0.seg.1 (nN (c:=c1) q1.seg.1 (gU (l:=[]) h))
  rw [show 3+(3+q) = 6+q by omega] at t
  exact mY (d:=6) t
 ·refine aBc q1 q2 (by omega) fun k1 ds u1 hd=>⟨ds,hd.seg,rfl,?_⟩
  refine ⟨fun m k vs=>∃ (j : Nat) (ds : Array Value),j+m = n2∧vs = [.int .i64 j,.agg ds]∧QV k ds (tot (s.links.take j) i ((at_ s.cells i).steam+(at_ s.cells i).air)) (2*K+1+j*(K+1)),⟨n2,fun k2 u2=>⟨0,ds,by omega,rfl,(hd.up u2).mono (by omega)⟩⟩,?_⟩
  rintro m k2 vs u2 ⟨j,es,hj,rfl,he⟩
  have hmul : j*(K+1)≤64*(K+1):=Nat.mul_le_mul_right _ (by omega)
  have hsucc : (j+1)*(K+1) = j*(K+1)+(K+1):=Nat.succ_mul _ _
  refine ⟨j,es,he.seg,rfl,rfl,fun hlt=>?_,fun hge k10 u10=>?_⟩
  ·have hlt:=aH hlt
   have hjl : j < s.links.length:=by omega
   obtain ⟨a,_,⟨c3,rfl,g3⟩,ha,hb,_,hr,hr1⟩:=(SecV.up hN hs (u1.trans u2)).links.elx (i:=j) hjl (by decide)
   have g4 : ∀ k',Up k2 k'→ReadAt k'.cell? A2 (Int.toNat (j : Int)*5+2) 3 (.agg c3):=fun k' u=>hr k' c3 2 3 u g3.seg.1 fun q u h=>mY (d:=1) (mY (d:=0) (by rw [Nat.zero_add]; exact gU h))
   have ht:=aFt hjl (i : Int) ((at_ s.cells i).steam+(at_ s.cells i).air) (hne j hjl)
   have done : ∀ k' fs,QV k' fs (tot (s.links.take j) i ((at_ s.cells i).steam+(at_ s.cells i).air)+(at_ s.links j).v) (2*K+1+j*(K+1)+K+1)→((at_ s.links j).a = i∨(at_ s.links j).b = i)→QV k' fs (tot (s.links.take (j+1)) i ((at_ s.cells i).steam+(at_ s.cells i).air)) (2*K+1+(j+1)*(K+1)):=fun k' fs h g=>by
    rw [ht,if_pos g]; exact h.mono (by omega)
   refine ⟨ha,hb,ha,hb,_,hr1 k2 0 _ (Up.refl _) rfl,fun f=>?_,fun f=>⟨ha,hb,ha,hb,_,hr1 k2 1 _ (Up.refl _) rfl,fun g=>?_,fun g k9 u9=>?_⟩⟩
   ·refine ⟨ha,hb,ha,hb,c3,g3.seg,g4 k2 (Up.refl _),aBc he g3 (by omega) fun k4 fs u4 hf=>⟨fs,hf.seg,rfl,fun k5 u5=>⟨m - 1,by omega,j+1,fs,by omega,by rw [aF (by omega)],?_⟩⟩⟩
    exact (done k4 fs hf (.inl (gY f))).up u5
   ·refine ⟨ha,hb,ha,hb,c3,g3.seg,g4 k2 (Up.refl _),aBc he g3 (by omega) fun k4 fs u4 hf=>⟨fs,hf.seg,rfl,fun k5 u5=>⟨m - 1,by omega,j+1,fs,by omega,by rw [aF (by omega)],?_⟩⟩⟩
    exact (done k4 fs hf (.inr (gY g))).up u5
   ·refine ⟨m - 1,by omega,j+1,es,by omega,by rw [aF (by omega)],?_⟩
    rw [ht,if_neg (by rintro (h | h); exact fW f h; exact fW g h)]
    exact (he.up u9).mono (by omega)
  ·have hge:=aK hge
   rw [List.take_of_length_le (by omega)] at he
   exact C k10 es ((u1.trans u2).trans u10) ((he.up u10).mono (by omega))
theorem aJu (hs : SecV (NR K) k A0 n0 A1 n1 A2 n2 s) (hK : K≤1000000) (C : ∀ k',Up k k'→R k' (.int .i64 (aW s))) :
 Cl k 30 #[.agg #[.slice A0 n0 d0,.slice A1 n1 d1,.slice A2 n2 d2]] R:=by
 intro k0 u0
 have hN:=iX K
 replace hs:=SecV.up hN hs u0
 replace C:=fun k' u=>C k' (u0.trans u)
 have e0:=hs.mats.1
 have e1:=hs.cells.1
 have e2:=hs.links.1
 have big : cH s→∀ k',Up k0 k'→R k' (.int .i64 4):=fun h k' u=>by
  have:=C k' u
  unfold aW at this
  rwa [if_pos h] at this
 refine aDe ⟨rfl,fun a=>big ?_,fun a1=>⟨rfl,fun a=>big ?_,fun a2=>⟨rfl,fun a=>big ?_,fun a3=>⟨rfl,fun a=>big ?_,fun a4=>⟨rfl,fun a=>big ?_,fun a5=>?_⟩⟩⟩⟩⟩
 ·have:=gY a; unfold cH; omega
 ·have:=of_decide_eq_true a; unfold cH; omega
 ·have:=gY a; unfold cH; omega
 ·have:=of_decide_eq_true a; unfold cH; omega
 ·have:=of_decide_eq_true a; unfold cH; omega
 replace a1:=fW a1
 replace a2:=of_decide_eq_false a2
 replace a3:=fW a3
 replace a4:=of_decide_eq_false a4
 replace a5:=of_decide_eq_false a5
 have hsz : ¬ cH s:=by unfold cH; omega
 clear big
 unfold aW at C
 rw [if_neg hsz] at C
 refine ⟨fun m k vs=>∃ j : Nat,j+m = n0∧vs = [.int .i64 j]∧∀ i,i < j→lB (at_ s.mats i) = 0,⟨n0,fun k1 u1=>⟨0,by omega,rfl,fun i hi=>by omega⟩⟩,?_⟩
 rintro m k1 vs u1 ⟨j,hj,rfl,hz⟩
 refine ⟨j,rfl,rfl,fun hlt=>?_,fun hge=>?_⟩
 ·have hlt:=aH hlt
  obtain ⟨a,_,⟨B,p,q,D,p',q',c0,c1,rfl,l0,l1,g0,g1⟩,ha,hb,hr,_⟩:=(SecV.up hN hs u1).mats.elx (i:=j) (by omega) (by decide)
  have stop : ∀ e : Int,e ≠ 0→lB (at_ s.mats j) = e→∀ k',Up k1 k'→R k' (.int .i64 e):=fun e he h k' u=>by
   have:=C k' (u1.trans u)
   have e3 : kO s = e:=by unfold kO; exact eA hz h he (by omega)
   rwa [if_pos (by rw [e3]; exact he),e3] at this
  refine ⟨ha,hb,B,p,q,D,p',q',c0,g0.seg,c1,g1.seg,hr k1 (Up.refl _),aAq l0 hK fun k2 u2=>⟨_,rfl,fun f k3 u3=>?_,fun f=>aAq (aY hN l1 u2) hK fun k4 u4=>⟨_,rfl,fun g k5 u5=>?_,fun g=>?_⟩⟩⟩
  ·exact stop _ (eW f) (by unfold lB; rw [if_pos (eW f)]) k3 (u2.trans u3)
  ·exact stop _ (eW g) (by unfold lB; rw [if_neg (by simp [cK f]),if_pos (eW g)]) k5 ((u2.trans u4).trans u5)
  ·refine jQ ((g0.up u2).up u4) fun k6 u6=>⟨_,rfl,fun p k7 u7=>?_,fun p=>jQ (((g1.up u2).up u4).up u6) fun k8 u8=>⟨_,rfl,fun q k9 u9=>?_,fun q k9 u9=>?_⟩⟩
   ·rw [kF] at p
    exact stop 1 (by decide) (by unfold lB; rw [if_neg (by simp [cK f]),if_neg (by simp [cK g]),if_pos (.inl (of_decide_eq_true p))]) k7 (((u2.trans u4).trans u6).trans u7)
   ·rw [kF] at q
    exact stop 1 (by decide) (by unfold lB; rw [if_neg (by simp [cK f]),if_neg (by simp [cK g]),if_pos (.inr (of_decide_eq_true q))]) k9 ((((u2.trans u4).trans u6).trans u8).trans u9)
   ·rw [kF] at p q
    have hm : lB (at_ s.mats j) = 0:=by
     unfold lB
     rw [if_neg (by simp [cK f]),if_neg (by simp [cK g]),if_neg (by rintro (h | h); exact of_decide_eq_false p h; exact of_decide_eq_false q h)]
    exact ⟨m - 1,by omega,j+1,by omega,by rw [aF (by omega)],dE hz hm⟩
 have hge:=aK hge
 have hM : kO s = 0:=cO fun i hi=>hz i (by omega)
 rw [if_neg (by simp [hM])] at C
 replace C:=fun k' u=>C k' (u1.trans u)
 replace hs:=SecV.up hN hs u1
 clear hz hj hge u1
 refine ⟨fun m k vs=>∃ j : Nat,j+m = n1∧vs = [.int .i64 j]∧∀ i,i < j→jS s.mats.length (at_ s.cells i) = 0,⟨n1,fun k1 u1=>⟨0,by omega,rfl,fun i hi=>by omega⟩⟩,?_⟩
 rintro m k2 vs u2 ⟨j,hj,rfl,hz⟩
 refine ⟨j,rfl,rfl,fun hlt=>?_,fun hge=>?_⟩
 ·have hlt:=aH hlt
  obtain ⟨a,_,⟨c0,c1,c2,rfl,g0,g1,g2⟩,ha,hb,hr,_⟩:=(SecV.up hN hs u2).cells.elx (i:=j) (by omega) (by decide)
  have stop : (at_ s.cells j).m < 0∨(s.mats.length : Int)≤(at_ s.cells j).m∨¬ 0 < (at_ s.cells j).cap∨(at_ s.cells j).steam < 0∨(at_ s.cells j).air < 0→∀ k',Up k2 k'→R k' (.int .i64 1):=fun h k' u=>by
   have:=C k' (u2.trans u)
   have e3 : iI s = 1:=by unfold iI; exact eA hz (by unfold jS; rw [if_pos h]) (by decide) (by omega)
   rwa [if_pos (by rw [e3]; decide),e3] at this
  refine ⟨ha,hb,_,c0,g0.seg,c1,g1.seg,c2,g2.seg,hr k2 (Up.refl _),rfl,qE fun k3 u3=>⟨_,rfl,fun f k4 u4=>?_,fun f=>?_⟩⟩
  ·refine stop ?_ k4 (u3.trans u4)
   have f : ¬ (0≤(at_ s.cells j).m∧(at_ s.cells j).m < (n0 : Nat)):=of_decide_eq_false (aAy f)
   omega
  ·have f : 0≤(at_ s.cells j).m∧(at_ s.cells j).m < (n0 : Nat):=of_decide_eq_true (qX f)
   refine jQ (g0.up u3) fun k4 u4=>⟨_,rfl,fun p k5 u5=>?_,fun p=>jQ ((g1.up u3).up u4) fun k6 u6=>⟨_,rfl,fun q k7 u7=>?_,fun q=>jQ (((g2.up u3).up u4).up u6) fun k8 u8=>⟨_,rfl,fun r k9 u9=>?_,fun r k9 u9=>?_⟩⟩⟩
   ·rw [kF] at p
    exact stop (.inr (.inr (.inl (of_decide_eq_true p)))) k5 ((u3.trans u4).trans u5)
   ·rw [cW] at q
    exact stop (.inr (.inr (.inr (.inl (of_decide_eq_true q))))) k7 (((u3.trans u4).trans u6).trans u7)
   ·rw [cW] at r
    exact stop (.inr (.inr (.inr (.inr (of_decide_eq_true r))))) k9 ((((u3.trans u4).trans u6).trans u8).trans u9)
   ·rw [kF] at p
    rw [cW] at q r
    have hc : jS s.mats.length (at_ s.cells j) = 0:=by
     unfold jS
     rw [if_neg]
     rintro (h | h | h | h | h)
     ·omega
     ·omega
     ·exact of_decide_eq_false p h
     ·exact of_decide_eq_false q h
     ·exact of_decide_eq_false r h
    exact ⟨m - 1,by omega,j+1,by omega,by rw [aF (by omega)],dE hz hc⟩
 have hge:=aK hge
 have hC : iI s = 0:=cO fun i hi=>hz i (by omega)
 rw [if_neg (by simp [hC])] at C
 replace C:=fun k' u=>C k' (u2.trans u)
 replace hs:=SecV.up hN hs u2
 clear hz hj hge u2
 refine ⟨fun m k vs=>∃ j : Nat,j+m = n2∧vs = [.int .i64 j]∧∀ i,i < j→fC s.cells.length s.links i = 0,⟨n2,fun k1 u1=>⟨0,by omega,rfl,fun i hi=>by omega⟩⟩,?_⟩
 rintro m k3 vs u3 ⟨j,hj,rfl,hz⟩
 refine ⟨j,rfl,rfl,fun hlt=>?_,fun hge=>?_⟩
 ·have hlt:=aH hlt
  obtain ⟨a,_,⟨c0,rfl,g0⟩,ha,hb,hr,_⟩:=(SecV.up hN hs u3).links.elx (i:=j) (by omega) (by decide)
  have stop : ∀ e : Int,e ≠ 0→fC s.cells.length s.links j = e→∀ k',Up k3 k'→R k' (.int .i64 e):=fun e he h k' u=>by
   have:=C k' (u3.trans u)
   have e3 : eC s.cells.length s.links = e:=eA hz h he (by omega)
   rwa [if_pos (by rw [e3]; exact he),e3] at this
  refine ⟨ha,hb,_,_,c0,g0.seg,hr k3 (Up.refl _),rfl,qE fun k4 u4=>⟨_,rfl,fun f k5 u5=>?_,fun f=>⟨rfl,qE fun k6 u6=>⟨_,rfl,fun g k7 u7=>?_,fun g=>⟨fun h k7 u7=>?_,fun h=>jQ ((g0.up u4).up u6) fun k8 u8=>⟨_,rfl,fun p k9 u9=>?_,fun p=>?_⟩⟩⟩⟩⟩⟩
  ·have f : ¬ (0≤(at_ s.links j).a∧(at_ s.links j).a < (n1 : Nat)):=of_decide_eq_false (aAy f)
   exact stop 1 (by decide) (dQ (.inl (by rw [← e1]; exact f))) k5 (u4.trans u5)
  ·have g : ¬ (0≤(at_ s.links j).b∧(at_ s.links j).b < (n1 : Nat)):=of_decide_eq_false (aAy g)
   exact stop 1 (by decide) (dQ (.inr (.inl (by rw [← e1]; exact g)))) k7 ((u4.trans u6).trans u7)
  ·exact stop 1 (by decide) (dQ (.inr (.inr (.inl (gY h))))) k7 ((u4.trans u6).trans u7)
  ·rw [cW] at p
   exact stop 1 (by decide) (dQ (.inr (.inr (.inr (of_decide_eq_true p))))) k9 (((u4.trans u6).trans u8).trans u9)
  ·rw [cW] at p
   have f : 0≤(at_ s.links j).a∧(at_ s.links j).a < (n1 : Nat):=of_decide_eq_true (qX f)
   have g : 0≤(at_ s.links j).b∧(at_ s.links j).b < (n1 : Nat):=of_decide_eq_true (qX g)
   have hno : ¬ (¬ (0≤(at_ s.links j).a∧(at_ s.links j).a < s.cells.length)∨¬ (0≤(at_ s.links j).b∧(at_ s.links j).b < s.cells.length)∨(at_ s.links j).a = (at_ s.links j).b∨(at_ s.links j).v < 0):=by
    rw [← e1]
    rintro (t | t | t | t)
    ·exact t f
    ·exact t g
    ·exact fW h t
    ·exact of_decide_eq_false p t
   refine ⟨fun m k vs=>∃ i : Nat,i+m = j∧vs = [.int .i64 i]∧∀ q,q < i→pair (at_ s.links j) (at_ s.links q) = false,⟨j,fun k1 u1=>⟨0,by omega,rfl,fun q hq=>by omega⟩⟩,?_⟩
   rintro m' k10 vs u10 ⟨i,hi,rfl,hp⟩
   refine ⟨i,rfl,fun hlt'=>?_,fun hge' k11 u11=>?_⟩
   ·have hlt':=aH hlt'
    have v10:=((u4.trans u6).trans u8).trans u10
    obtain ⟨a,_,⟨c1,rfl,g1⟩,ha,hb,hr,_⟩:=(SecV.up hN hs (u3.trans v10)).links.elx (i:=i) (by omega) (by decide)
    have twice : pair (at_ s.links j) (at_ s.links i) = true→∀ k',Up k10 k'→R k' (.int .i64 8):=fun t k' u=>by
     refine stop 8 (by decide) ?_ k' (v10.trans u)
     unfold fC
     rw [if_neg hno,if_pos (vV.2 ⟨i,by omega,t⟩)]
    have next : pair (at_ s.links j) (at_ s.links i) = false→∃ m'',m'' < m'∧∃ i' : Nat,i'+m'' = j∧[Value.int .i64 (IntKind.wrap .i64 ((i : Int)+1))] = [.int .i64 i']∧∀ q,q < i'→pair (at_ s.links j) (at_ s.links q) = false:=fun t=>⟨m' - 1,by omega,i+1,by omega,by rw [aF (by omega)],dE hp t⟩
    have pt : ((at_ s.links i).a = (at_ s.links j).a∧(at_ s.links i).b = (at_ s.links j).b∨(at_ s.links i).a = (at_ s.links j).b∧(at_ s.links i).b = (at_ s.links j).a)→pair (at_ s.links j) (at_ s.links i) = true:=fun t=>decide_eq_true t
    have pf : ¬ ((at_ s.links i).a = (at_ s.links j).a∧(at_ s.links i).b = (at_ s.links j).b∨(at_ s.links i).a = (at_ s.links j).b∧(at_ s.links i).b = (at_ s.links j).a)→pair (at_ s.links j) (at_ s.links i) = false:=fun t=>decide_eq_false t
    refine ⟨ha,hb,_,_,c1,g1.seg,hr k10 (Up.refl _),fun t1=>⟨fun t2=>twice (pt (.inl ⟨gY t1,gY t2⟩)),fun t2=>⟨fun t3=>⟨fun t4=>twice (pt (.inr ⟨gY t3,gY t4⟩)),fun t4 k' u=>next (pf ?_)⟩,fun t3 k' u=>next (pf ?_)⟩⟩,fun t1=>⟨fun t3=>⟨fun t4=>twice (pt (.inr ⟨gY t3,gY t4⟩)),fun t4 k' u=>next (pf ?_)⟩,fun t3 k' u=>next (pf ?_)⟩⟩
    ·rintro (⟨_,t⟩ | ⟨_,t⟩)
     ·exact fW t2 t
     ·exact fW t4 t
    ·rintro (⟨_,t⟩ | ⟨t,_⟩)
     ·exact fW t2 t
     ·exact fW t3 t
    ·rintro (⟨t,_⟩ | ⟨_,t⟩)
     ·exact fW t1 t
     ·exact fW t4 t
    ·rintro (⟨t,_⟩ | ⟨t,_⟩)
     ·exact fW t1 t
     ·exact fW t3 t
   ·have hge':=aK hge'
    refine ⟨m - 1,by omega,j+1,by omega,by rw [aF (by omega)],dE hz ?_⟩
    unfold fC
    rw [if_neg hno,if_neg]
    intro t
    obtain ⟨q,hq,hpq⟩:=vV.1 t
    rw [hp q (by omega)] at hpq
    cases hpq
 have hge:=aK hge
 have hL : eC s.cells.length s.links = 0:=cO fun i hi=>hz i (by omega)
 rw [if_neg (by simp [hL])] at C
 replace C:=fun k' u=>C k' (u3.trans u)
 replace hs:=SecV.up hN hs u3
 clear hz hj hge u3
 refine ⟨fun m k vs=>∃ j : Nat,j+m = n1∧vs = [.int .i64 j]∧∀ i,i < j→jK s i = 0,⟨n1,fun k1 u1=>⟨0,by omega,rfl,fun i hi=>by omega⟩⟩,?_⟩
 rintro m k5 vs u5 ⟨j,hj,rfl,hz⟩
 refine ⟨j,rfl,rfl,fun hlt=>?_,fun hge k6 u6=>?_⟩
 ·have hlt:=aH hlt
  have hs5:=SecV.up hN hs u5
  obtain ⟨a,_,⟨c0,c1,c2,rfl,g0,g1,g2⟩,ha,hb,_,hr,_⟩:=hs5.cells.elx (i:=j) (by omega) (by decide)
  have hne : ∀ i,i < s.links.length→(at_ s.links i).a ≠ (at_ s.links i).b:=fun i hi=>by
   have:=dI hL i hi
   unfold fC at this
   split at this
   ·cases this
   ·rename_i hn
    simp only [not_or,Decidable.not_not] at hn
    exact hn.2.2.1
  refine ⟨ha,hb,ha,hb,c0,g0.seg,hr k5 c0 1 3 (Up.refl _) g0.seg.1 (fun q u h=>mY (d:=0) (by rw [Nat.zero_add]; exact gU h)),aKl hs5 hne (by omega) (by omega) hK fun k6 ds u6 hd=>⟨ds,hd.seg,rfl,?_⟩⟩
  refine aHg hd (g0.up u6) (by omega) fun k8 u8=>⟨_,rfl,fun f k9 u9=>?_,fun f k9 u9=>?_⟩
  ·rw [aFo] at f
   have:=C k9 (((u5.trans u6).trans u8).trans u9)
   have e : jK s j = 60:=by unfold jK; rw [if_pos (of_decide_eq_true f)]
   rwa [eA hz e (by decide) (by omega)] at this
  ·rw [aFo] at f
   exact ⟨m - 1,by omega,j+1,by omega,by rw [aF (by omega)],dE hz (by unfold jK; rw [if_neg (of_decide_eq_false f)])⟩
 ·have hge:=aK hge
  have:=C k6 (u5.trans u6)
  rwa [cO fun i hi=>hz i (by omega)] at this
end
end Go.Proofs.YtampehijkiencaaGreat

namespace Go.Proofs.YtampehijkiencaaGreat
open Go.RowKit Num W32
open Sy (Up Sees CallsG Seg ReadAt)
section
variable {k k' : World} {R : World→Value→Prop} {cs cs' : Array Value} {u v t q p : Rat} {us vs : List Rat} {s : PSec} {x : PState} {K L T d n0 n1 n2 d0 d1 d2 n3 n4 n5 d3 d4 d5 n6 d6 n7 d7 M : Nat} {A0 A1 A2 A3 A4 A5 A6 A7 : Option Addr}
theorem aJt (C : ∀ k',Up k k'→R k' (.bool (decide (n3 = n1∧n4 = n1∧n5 = n1)))) :
 Cl k 100 #[.agg #[.slice A0 n0 d0,.slice A1 n1 d1,.slice A2 n2 d2],.agg #[.slice A3 n3 d3,.slice A4 n4 d4,.slice A5 n5 d5]] R:=by
 intro k0 u0
 replace C:=fun k' u=>C k' (u0.trans u)
 refine aCw ⟨rfl,rfl,fun e=>⟨rfl,fun e'=>⟨rfl,fun k1 u1=>?_⟩,fun e' k1 u1=>?_⟩,fun e k1 u1=>?_⟩
 ·have:=C k1 u1
  have e:=gY e
  have e':=gY e'
  have h : decide (n3 = n1∧n4 = n1∧n5 = n1) = (((n5 : Nat) : Int) == (n1 : Nat)):=by
   rw [Bool.eq_iff_iff,decide_eq_true_iff,beq_iff_eq]
   constructor
   ·intro h; omega
   ·intro h; omega
  rwa [h] at this
 ·have:=C k1 u1
  have e':=fW e'
  rwa [decide_eq_false (by omega)] at this
 ·have:=C k1 u1
  have e:=fW e
  rwa [decide_eq_false (by omega)] at this
theorem aOj (hs : SecV (NR K) k A0 n0 A1 n1 A2 n2 s) (h3 : n3 = x.temp.length) (h4 : n4 = x.cure.length) (h5 : n5 = x.spoil.length) (hK : K≤1000000) (C : ∀ k',Up k k'→R k' (.int .i64 (gD s x))) :
 Cl k 54 #[.agg #[.slice A0 n0 d0,.slice A1 n1 d1,.slice A2 n2 d2],.agg #[.slice A3 n3 d3,.slice A4 n4 d4,.slice A5 n5 d5]] R:=by
 intro k0 u0
 have e1:=hs.cells.1
 replace C:=fun k' u=>C k' (u0.trans u)
 have hsz : sized s x↔n3 = n1∧n4 = n1∧n5 = n1:=by unfold sized; rw [h3,h4,h5,e1]
 unfold gD at C
 refine aHn (aJu (SecV.up (iX K) hs u0) hK fun k1 u1=>⟨_,rfl,fun f k2 u2=>?_,fun f=>aJt fun k2 u2=>⟨_,rfl,fun g k3 u3=>?_,fun g k3 u3=>?_⟩⟩)
 ·have:=C k2 (u1.trans u2)
  rwa [if_pos (eW f)] at this
 ·have:=C k3 ((u1.trans u2).trans u3)
  rwa [if_neg (by simp [cK f]),if_pos (by rw [hsz]; exact of_decide_eq_false (aAy g))] at this
 ·have:=C k3 ((u1.trans u2).trans u3)
  rwa [if_neg (by simp [cK f]),if_neg (by rw [hsz,Decidable.not_not]; exact of_decide_eq_true (qX g))] at this
end
end Go.Proofs.YtampehijkiencaaGreat

namespace Go.Proofs.YtampehijkiencaaGreat
open Go.RowKit Num W32
open Sy (Up Sees CallsG Seg ReadAt)
section
variable {k k' : World} {R : World→Value→Prop} {cs cs' : Array Value} {u v t q p : Rat} {us vs : List Rat} {s : PSec} {x : PState} {K L T d n0 n1 n2 d0 d1 d2 n3 n4 n5 d3 d4 d5 n6 d6 n7 d7 M : Nat} {A0 A1 A2 A3 A4 A5 A6 A7 : Option Addr}
theorem aOh (hs : SecV (NR K) k A0 n0 A1 n1 A2 n2 s) (hx : StateV (NR T) k A3 n3 A4 n4 A5 n5 x) (hK : K≤1000000) (hT : T≤10000000)
 (C : ∀ k' ds,Up k k'→QV k' ds (aMl s x) (2+24*(K+T+1))→R k' (.tuple #[.agg ds,.int .i64 (gD s x)])) :
 Cl k 38 #[.agg #[.slice A0 n0 d0,.slice A1 n1 d1,.slice A2 n2 d2],.agg #[.slice A3 n3 d3,.slice A4 n4 d4,.slice A5 n5 d5]] R:=by
 intro k0 u0
 have hN:=iX K
 replace hs:=SecV.up hN hs u0
 replace hx:=StateV.up (iX T) hx u0
 replace C:=fun k' ds u=>C k' ds (u0.trans u)
 unfold aMl at C
 refine aFc (aJp (z:=0) (by decide) (by decide) fun ka da ua hda=>⟨da,hda.seg,rfl,?_⟩)
 have hzero:=aHo hda (Nat.le_refl 2)
 replace hs:=SecV.up hN hs ua
 replace hx:=StateV.up (iX T) hx ua
 replace C:=fun k' ds u=>C k' ds (ua.trans u)
 refine aOj hs hx.temp.1 hx.cure.1 hx.spoil.1 hK fun k1 u1=>⟨_,rfl,fun f k2 u2=>?_,fun f=>?_⟩
 ·exact C k2 _ (u1.trans u2) (by rw [if_pos (eW f)]; exact ((hzero.up u1).up u2).mono (by omega))
 ·have f:=cK f
  rw [if_neg (by simp [f]),f] at C
  obtain ⟨hE,z3,z4,z5⟩:=oW f
  have hc24 : s.cells.length≤24:=by have:=dK hE; unfold cH at this; omega
  have e1:=hs.cells.1
  refine ⟨fun m k vs=>∃ (j : Nat) (ds : Array Value),j+m = n1∧vs = [.int .i64 j,.agg ds]∧QV k ds (aJf s x j) (2+j*(K+T+1)),⟨n1,fun k2 u2=>⟨0,da,by omega,rfl,((hzero.up u1).up u2).mono (by omega)⟩⟩,?_⟩
  rintro m k3 vs u3 ⟨j,ds,hj,rfl,hv⟩
  refine ⟨j,ds,hv.seg,rfl,rfl,fun hlt=>?_,fun hge k9 u9=>?_⟩
  ·have hlt:=aH hlt
   have v3:=u1.trans u3
   obtain ⟨a,_,⟨c0,c1,c2,rfl,q0,q1,q2⟩,ha,hb,_,hr,_⟩:=(SecV.up hN hs v3).cells.elx (i:=j) (by omega) (by decide)
   obtain ⟨t,_,ht,ta,tb,tr,_⟩:=(StateV.up (iX T) hx v3).temp.elx (i:=j) (by omega) (by decide)
   have hm : j*(K+T+1)≤24*(K+T+1):=Nat.mul_le_mul_right _ (by omega)
   have hm2 : (j+1)*(K+T+1) = j*(K+T+1)+(K+T+1):=Nat.succ_mul _ _
   refine ⟨ha,hb,ha,hb,c0,q0.seg,hr k3 c0 1 3 (Up.refl _) q0.seg.1 (fun q u h=>mY (d:=0) (by rw [Nat.zero_add]; exact gU h)),ta,tb,t,ht.seg,tr k3 (Up.refl _),?_⟩
   refine aPb q0 ht (by omega) fun k5 y5 u5 w5=>⟨y5,w5.seg,rfl,?_⟩
   refine aBc (hv.up u5) w5 (by omega) fun k7 y7 u7 w7=>⟨y7,w7.seg,rfl,fun k8 u8=>?_⟩
   exact ⟨m - 1,by omega,j+1,y7,by omega,by rw [aF (by omega)],(w7.up u8).mono (by omega)⟩
  ·have hge:=aK hge
   have ej : j = s.cells.length:=by omega
   subst ej
   have hm : s.cells.length*(K+T+1)≤24*(K+T+1):=Nat.mul_le_mul_right _ hc24
   exact C k9 ds ((u1.trans u3).trans u9) ((hv.up u9).mono (by omega))
end
end Go.Proofs.YtampehijkiencaaGreat

namespace Go.Proofs.YtampehijkiencaaGreat
open Go.RowKit Num W32
def oth (i : Int) (z : PLink) : Nat:=(z.a+z.b - i).toNat
theorem aFx (z : PLink) (L : List PLink) (i : Int) (h : z.a ≠ z.b) : nbm (z :: L) i = (if z.a = i∨z.b = i then [z] else []) ++ nbm L i:=by
 unfold nbm
 rw [List.flatMap_cons]
 congr 1
 by_cases h1 : z.a = i
 ·rw [if_pos h1,if_neg (fun e=>h (h1.trans e.symm)),if_pos (Or.inl h1)]; rfl
 ·by_cases h2 : z.b = i
  ·rw [if_neg h1,if_pos h2,if_pos (Or.inr h2)]; rfl
  ·rw [if_neg h1,if_neg h2,if_neg (by simp [h1,h2])]; rfl
theorem sI (i : Int) : ∀ L : List PLink,(∀ z ∈ L,z.a ≠ z.b∧0≤z.a∧0≤z.b)→L.Pairwise (fun x y=>pair y x = false)→((nbm L i).map (oth i)).Nodup
 | [],_,_=>by simp [nbm]
 | z :: L,h,hp=>by
  rw [List.pairwise_cons] at hp
  obtain ⟨h0,h1,h2⟩:=h z (by simp)
  have ih:=sI i L (fun y hy=>h y (by simp [hy])) hp.2
  rw [aFx z L i h0]
  split
  ·rename_i hz
   show (oth i z :: (nbm L i).map (oth i)).Nodup
   rw [List.nodup_cons]
   refine ⟨fun hm=>?_,ih⟩
   obtain ⟨y,hy,e⟩:=List.mem_map.1 hm
   obtain ⟨hyL,hyi⟩:=iM hy
   obtain ⟨g0,g1,g2⟩:=h y (by simp [hyL])
   have:=hp.1 y hyL
   unfold pair at this
   have:=of_decide_eq_false this
   unfold oth at e
   omega
  ·exact ih
theorem aJg {n : Nat} {L : List PLink} (h : eC n L = 0) : L.Pairwise (fun x y=>pair y x = false):=by
 rw [List.pairwise_iff_getElem]
 intro i j hi hj hij
 have:=dI h j hj
 unfold fC at this
 split at this
 ·cases this
 ·split at this
  ·cases this
  ·rename_i hn
   simp only [List.any_eq_true,List.mem_range,not_exists,not_and,Bool.not_eq_true] at hn
   have:=hn i hij
   rwa [dU hi,dU hj] at this
theorem aLr {s : PSec} (h : aW s = 0) {i : Nat} (hi : i < s.cells.length) : (nbm s.links i).length+1≤s.cells.length:=by
 have hl:=gG (eB h)
 have hne : ∀ z ∈ s.links,z.a ≠ z.b:=fun z hz=>by
  obtain ⟨j,hj,e⟩:=List.getElem_of_mem hz
  rw [← e,← dU hj]
  exact (aAb h hj).2.2.1
 have hd:=sI i s.links (fun z hz=>⟨hne z hz,(hl z hz).1.1,(hl z hz).2.1⟩) (aJg (eB h))
 have:=nodup_lt_length s.cells.length (i :: (nbm s.links i).map (oth i)) (by
  rw [List.nodup_cons]
  refine ⟨fun hm=>?_,hd⟩
  obtain ⟨y,hy,e⟩:=List.mem_map.1 hm
  obtain ⟨hyL,hyi⟩:=iM hy
  have:=hne y hyL
  have:=hl y hyL
  unfold oth at e
  omega) (fun x hx=>by
  rcases List.mem_cons.1 hx with rfl | hx
  ·exact hi
  ·obtain ⟨y,hy,rfl⟩:=List.mem_map.1 hx
   obtain ⟨hyL,hyi⟩:=iM hy
   have:=hl y hyL
   unfold oth
   omega)
 simpa using this
end Go.Proofs.YtampehijkiencaaGreat

namespace Go.Proofs.YtampehijkiencaaGreat
open Go.RowKit Num W32
open Sy (Up Sees CallsG Seg ReadAt)
def aPl (f : Nat→Rat) : Nat→Rat
 | 0=>0
 | n+1=>aPl f n+f n
def lf (L : List PLink) (t : Nat→Rat) (j : Nat) : Rat:=(nbm L (j : Int)).foldl (fun s l=>s+l.v*(t (l.a+l.b - (j : Int)).toNat - t j)) 0
def bring (s : PSec) (x : PState) (u v : Rat) (i : Nat) : Rat:=(at_ s.cells i).steam*(u - at_ x.temp i)+(at_ s.cells i).air*(v - at_ x.temp i)
section
variable {k : World} {R : World→Value→Prop} {s : PSec} {x : PState} {n0 n1 n2 d0 d1 d2 n3 n4 n5 d3 d4 d5 : Nat} {A0 A1 A2 A3 A4 A5 : Option Addr}
theorem aFv {most : Nat} (hs : SecA k A0 n0 A1 n1 A2 n2 s) (hx : StateA k A3 n3 A4 n4 A5 n5 x) (hm : most≤1000)
 (C : ∀ k' B0 m0 e0 B1 m1 e1 B2 m2 e2 B3 m3 e3 B4 m4 e4 B5 m5 e5 b,Up k k'→(b = true→gD s x = 0∧s.cells.length≤most∧SecV (NP 1) k' B0 m0 B1 m1 B2 m2 s∧StateV (NP 1) k' B3 m3 B4 m4 B5 m5 x) →
   R k' (.tuple #[.agg #[.slice B0 m0 e0,.slice B1 m1 e1,.slice B2 m2 e2],.agg #[.slice B3 m3 e3,.slice B4 m4 e4,.slice B5 m5 e5],.bool b])) :
 Cl k 18 #[.agg #[.slice A0 n0 d0,.slice A1 n1 d1,.slice A2 n2 d2],.agg #[.slice A3 n3 d3,.slice A4 n4 d4,.slice A5 n5 d5],.int .i64 most] R:=by
 intro k0 u0
 replace hs:=hs.up u0
 replace hx:=hx.up u0
 have no : ∀ k',Up k0 k'→R k' (.tuple #[.agg #[.slice none 0 0,.slice none 0 0,.slice none 0 0],.agg #[.slice none 0 0,.slice none 0 0,.slice none 0 0],.bool false]):=fun k' u=>C k' _ _ _ _ _ _ _ _ _ _ _ _ _ _ _ _ _ _ false (u0.trans u) (by intro h; cases h)
 refine aCm (aOs (most:=most) hs hm fun k1 b u1 hb=>⟨_,rfl,fun _ k2 u2=>no k2 (u1.trans u2),fun f=>yM hx.temp.1 hx.cure.1 hx.spoil.1 fun k4 b' u4 hb'=>⟨_,rfl,fun _ k5 u5=>no k5 ((u1.trans u4).trans u5),fun f'=>?_⟩⟩)
 have hf:=hb (qX f)
 have v4:=u1.trans u4
 refine aKx (hs.up v4) hf hm fun k7 B0 m0 e0 B1 m1 e1 B2 m2 e2 D0 p0 f0 D1 p1 f1 D2 p2 f2 u7 hp hr=>⟨_,_,_,_,_,_,_,_,_,_,_,_,_,_,_,_,_,_,rfl,?_⟩
 have v7:=v4.trans u7
 refine aCu (hx.up v7) (hb' (qX f')) fun k9 B3 m3 e3 B4 m4 e4 B5 m5 e5 D3 p3 f3 D4 p4 f4 D5 p5 f5 u9 hxp hxr=>⟨_,_,_,_,_,_,_,_,_,_,_,_,_,_,_,_,_,_,rfl,?_⟩
 refine aOh (K:=2) (T:=2) (SecV.up (iX 2) hr u9) hxr (by decide) (by decide) fun k11 ds u11 hd=>⟨_,hd.seg,_,rfl,fun k12 u12=>?_⟩
 have v12:=u11.trans u12
 exact C k12 B0 m0 e0 B1 m1 e1 B2 m2 e2 B3 m3 e3 B4 m4 e4 B5 m5 e5 _ ((u0.trans v7).trans (u9.trans v12)) fun h=>⟨by simpa using h,hf.cells,SecV.up (aQ 1) hp (u9.trans v12),StateV.up (aQ 1) hxp v12⟩
end
end Go.Proofs.YtampehijkiencaaGreat

namespace Go.Proofs.YtampehijkiencaaGreat
open Go.RowKit Num W32
open Sy (Up Sees CallsG Seg ReadAt Rewr)
theorem aMo {k w W : World} {n m : Nat} (hs : Sees k w) (hn : k.heap[n]? = some Sy.dead) (hm : k.heap[m]? = some Sy.dead) (r : Rewr n m w W) (fn : Few W n) (fm : Few W m) : ∃ k',Sees k' W∧Below k.heap.size k k':=by
 classical
 let k' : World:={ W with heap:=W.heap.mapIdx fun i o=>if k.heap[i]? = some Sy.dead then Sy.dead else o }
 have hk : ∀ (g : Nat),k'.heap[g]? = (W.heap[g]?).map fun o=>if k.heap[g]? = some Sy.dead then Sy.dead else o:=fun g=>by
  show (W.heap.mapIdx _)[g]? = _
  rw [Array.getElem?_mapIdx]
 have hsize : k'.heap.size = W.heap.size:=by simp [k']
 have hkw:=hs.size
 refine ⟨k',⟨rfl,rfl,rfl,hsize.symm,fun g o hg hd=>?_,fun g hg=>?_⟩,⟨r.os.trans hs.os,r.tape.trans hs.tape,r.output.trans hs.output,by rw [hsize,← hkw]; exact r.size,fun g hg=>?_⟩⟩
 ·rw [hk] at hg
  cases hw : W.heap[g]? with
  | none=>rw [hw] at hg; cases hg
  | some o' =>
   rw [hw] at hg
   simp only [Option.map_some,Option.some.injEq] at hg
   split at hg
   ·exact absurd hg.symm hd
   ·rw [hg]
 ·rw [hk] at hg
  cases hw : W.heap[g]? with
  | none=>rw [hw] at hg; cases hg
  | some o' =>
   rw [hw] at hg
   simp only [Option.map_some,Option.some.injEq] at hg
   split at hg
   ·rename_i hd
    by_cases c : g = n
    ·subst c
     obtain ⟨cs,h1,h2⟩:=fn
     rw [hw] at h1
     exact ⟨cs,_,_,h1,h2⟩
    ·by_cases c' : g = m
     ·subst c'
      obtain ⟨cs,h1,h2⟩:=fm
      rw [hw] at h1
      exact ⟨cs,_,_,h1,h2⟩
     ·obtain ⟨cs,t,fr,h1,h2⟩:=hs.dark g hd
      exact ⟨cs,t,fr,by rw [← hw,r.block g (Sy.heap_lt h1) c c']; exact h1,h2⟩
   ·rw [hg]; exact ⟨#[],0,(1,0),rfl,by simp⟩
 ·rw [hk]
  have hlt : g < w.heap.size:=by rw [hkw]; exact hg
  have hlt' : g < W.heap.size:=Nat.lt_of_lt_of_le hlt r.size
  by_cases hd : k.heap[g]? = some Sy.dead
  ·rw [Array.getElem?_eq_getElem hlt']; simp [hd]
  ·have c : g ≠ n:=fun e=>hd (by rw [e]; exact hn)
   have c' : g ≠ m:=fun e=>hd (by rw [e]; exact hm)
   rw [r.block g hlt c c']
   rw [Array.getElem?_eq_getElem hg] at hd ⊢
   have:=hs.live g _ (Array.getElem?_eq_getElem hg) (fun e=>hd (by rw [e]))
   rw [this]
   simp [hd]
section
variable {k : World} {c cl ch : Array Value} {x lo hi : Rat} {K : Nat} {R : World→Array Value→Array Value→Prop}
theorem tN (hx : RatV k c x K) (hl : RatV k cl lo K) (hh : RatV k ch hi K) (hK1 : 1≤K) (hK : K≤1073741824) (C : ∀ k',Up k k'→R k' (if x < lo then c else cl) (if hi < x then c else ch)) :
 ∀ k0,Up k k0→Sy.CallsB Tryz.prog 22 [.agg c] k0 71 71 (cl.toList ++ ([])).toArray (ch.toList ++ ([])).toArray R:=by
 intro k0 u0 w n m hw hnm hd hd' B1 B2
 rw [List.append_nil,Array.toArray_toList] at B1 B2
 rw [List.append_nil,Array.toArray_toList,List.append_nil,Array.toArray_toList]
 obtain ⟨gx,Ax,nx,cx,Dx,dx,ex,rfl,hx,a1,a2⟩:=hx.up u0
 obtain ⟨gl,Al,nl,cl,Dl,dl,el,rfl,hl,a3,a4⟩:=hl.up u0
 obtain ⟨gh,Ah,nh,ch,Dh,dh,eh,rfl,hh,a5,a6⟩:=hh.up u0
 have tr : ∀ {W : World} {g : Bool} {A D : Option Addr} {p q r s : Nat} {z : Rat},Rewr n m w W→Few W n→Few W m→RatR k0 g A p q D r s z→RatR W g A p q D r s z:=fun r f1 f2 h=>by
  obtain ⟨k',s1,s2⟩:=aMo hw hd hd' r f1 f2
  exact (h.up (Up.of_below s2)).sees s1
 refine (aOk (fun W r f1 f2=>tr r f1 f2 hx) (fun W r f1 f2=>tr r f1 f2 hl) (fun W r f1 f2=>tr r f1 f2 hh) hK1 a1 a2 a3 a4 a5 a6 hK hnm B1 B2).mono ?_
 rintro e w' ⟨rfl,r,b1,b2⟩
 have nw : ∀ {p : Prop} [Decidable p] {g g' : Bool} {A A' D D' : Option Addr} {p1 q1 r1 s1 p2 q2 r2 s2 : Nat},Seg 3 (if p then #[.bool g,.slice A p1 q1,.slice D r1 s1] else #[.bool g',.slice A' p2 q2,.slice D' r2 s2]):=by
  intro p _ g g' A A' D D' p1 q1 r1 s1 p2 q2 r2 s2
  split <;> exact ⟨rfl,by simp [Value.scalar,Value.noWord]⟩
 obtain ⟨k',s1,s2⟩:=aMo hw hd hd' r ⟨_,b1,fun u hu=>(nw.2 u hu).2⟩ ⟨_,b2,fun u hu=>(nw.2 u hu).2⟩
 exact ⟨_,_,k',rfl,s1,s2,r,b1,b2,nw,nw,C k' (u0.trans (Up.of_below s2))⟩
theorem jJ {p : Prop} [Decidable p] {y z : Rat} {a b : Array Value} (ha : RatV k a y K) (hb : RatV k b z K) : RatV k (if p then a else b) (if p then y else z) K:=by
 split
 ·exact ha
 ·exact hb
def Seen (s : PSec) (x : PState) (u v : Rat) (j : Nat) (lo hi : Rat) : Prop:=∀ i,i < j→(lo≤at_ x.temp i∧at_ x.temp i≤hi)∧((at_ s.cells i).steam ≠ 0→lo≤u∧u≤hi)∧((at_ s.cells i).air ≠ 0→lo≤v∧v≤hi)
theorem uF {y : Rat} : (if y < lo then y else lo)≤lo∧(if y < lo then y else lo)≤y:=by split <;> constructor <;> grind
theorem tS {y : Rat} : hi≤(if hi < y then y else hi)∧y≤(if hi < y then y else hi):=by split <;> constructor <;> grind
end
section
variable {k : World} {R : World→Value→Prop} {s : PSec} {x : PState} {n0 n1 n2 d0 d1 d2 n3 n4 n5 d3 d4 d5 : Nat} {A0 A1 A2 A3 A4 A5 : Option Addr} {n6 n7 n8 n9 : Int}
theorem aLv (h3 : n3 = n1) (h4 : n4 = n1) (h5 : n5 = n1) (C : ∀ k',Up k k'→R k' (.bool true)) :
 Cl k 21 #[.agg #[.slice A0 n0 d0,.slice A1 n1 d1,.slice A2 n2 d2],.agg #[.slice A3 n3 d3,.slice A4 n4 d4,.slice A5 n5 d5]] R:=by
 intro k0 u0
 subst h3 h4 h5
 have e : (((n5 : Nat) : Int) == ((n5 : Nat) : Int)) = true:=by simp
 exact aBo ⟨rfl,rfl,fun _=>⟨rfl,fun _=>⟨rfl,fun k1 u1=>by rw [e]; exact C k1 (u0.trans u1)⟩,fun h=>by rw [e] at h; cases h⟩,fun h=>by rw [e] at h; cases h⟩
theorem rL (hs : SecA k A0 n0 A1 n1 A2 n2 s) (hx : StateA k A3 n3 A4 n4 A5 n5 x) (i6 : In64 n6) (i7 : In64 n7) (i8 : In64 n8) (i9 : In64 n9) (C : ∀ k',Up k k'→R k' (.bool true)) :
 Cl k 4 #[.agg #[.slice A0 n0 d0,.slice A1 n1 d1,.slice A2 n2 d2],.agg #[.slice A3 n3 d3,.slice A4 n4 d4,.slice A5 n5 d5],.agg #[.int .i64 n6,.int .i64 n7],.agg #[.int .i64 n8,.int .i64 n9]] R:=by
 intro k0 u0
 replace hs:=hs.up u0
 replace hx:=hx.up u0
 replace C:=fun k' u=>C k' (u0.trans u)
 refine wA (aFv (most:=8) hs hx (by decide) fun k1 B0 m0 e0 B1 m1 e1 B2 m2 e2 B3 m3 e3 B4 m4 e4 B5 m5 e5 b u1 hb=>⟨_,_,_,_,_,_,_,_,_,_,_,_,_,_,_,_,_,_,_,rfl,fun _=>wV fun k3 u3=>⟨_,rfl,fun k4 u4=>C k4 ((u1.trans u3).trans u4)⟩,fun f=>?_⟩)
 obtain ⟨h0,h8,hp,hxp⟩:=hb (qX f)
 obtain ⟨hE,hz⟩:=oW h0
 have hd : aW s = 0→∀ i,i < s.cells.length→(nbm s.links (i : Nat)).length≤23:=fun hE i hi=>by have:=aLr hE hi; omega
 have hn:=hp.cells.1
 have hc:=hxp.temp.1
 have hc1:=hxp.cure.1
 have hc2:=hxp.spoil.1
 obtain ⟨z3,z4,z5⟩:=id hz
 have hsz:=dK hE
 unfold cH at hsz
 refine qR i6 i7 fun k6 c6 u6 w6=>⟨c6,w6.seg,rfl,?_⟩
 refine qR i8 i9 fun k8 c8 u8 w8=>⟨c8,w8.seg,rfl,?_⟩
 have v8:=u6.trans u8
 replace hp:=SecV.up (aQ 1) hp v8
 replace hxp:=StateV.up (aQ 1) hxp v8
 refine aEu (K:=1) (T:=1) (d:=23) hp hxp (w6.up u8) w8 hd (by decide) (by decide) (by decide) (by decide) (by decide) fun k10 E0 q0 g0 E1 q1 g1 E2 q2 g2 u10 hq=>⟨_,_,_,_,_,_,_,_,_,_,rfl,?_⟩
 have er : mZ (gD s x) (cJ s x (ofQ n6 n7) (ofQ n8 n9)) = cJ s x (ofQ n6 n7) (ofQ n8 n9):=by unfold mZ; rw [if_neg (by simp [h0])]
 rw [er] at hq
 replace hq : StateV (NP 127) k10 E0 q0 E1 q1 E2 q2 (cJ s x (ofQ n6 n7) (ofQ n8 n9)):=StateV.mono hq fun cs q h=>h.mono (by decide)
 rw [h0]
 have l0 : q0 = m1:=by rw [hq.temp.1,hn]; simp [cJ]
 have l1 : q1 = m1:=by rw [hq.cure.1,hn]; simp [cJ]
 have l2 : q2 = m1:=by rw [hq.spoil.1,hn]; simp [cJ]
 refine ⟨fun h=>absurd h (by decide),fun _=>aLv l0 l1 l2 fun k13 u13=>⟨_,rfl,fun h=>absurd h (by decide),fun _=>?_⟩⟩
 have v13:=u10.trans u13
 replace hp:=SecV.up (aQ 1) hp v13
 replace hxp:=StateV.up (aQ 1) hxp v13
 replace hq:=StateV.up (aQ 127) hq u13
 have wu:=w6.up (u8.trans v13)
 have wv:=w8.up v13
 obtain ⟨t,_,ht,ta,tb,tr,_⟩:=hxp.temp.el (i:=0) (by omega) (by decide)
 refine ⟨ta,tb,t,ht.seg,tr k13 (Up.refl _),ta,tb,t,ht.seg,tr k13 (Up.refl _),rfl,?_⟩
 refine ⟨fun m k vs=>∃ (j : Nat) (cl ch : Array Value) (lo hi : Rat),j+m = m1∧vs = [.int .i64 j,.agg cl,.agg ch]∧RatV k cl lo 1∧RatV k ch hi 1∧Seen s x (ofQ n6 n7) (ofQ n8 n9) j lo hi,⟨m1,fun k1 u1=>⟨0,t,t,_,_,by omega,rfl,RatV.up ht u1,RatV.up ht u1,fun i hi=>by omega⟩⟩,?_⟩
 rintro m k15 vs u15 ⟨j,cl,ch,lo,hi,hj,rfl,hlo,hhi,hsee⟩
 refine ⟨j,cl,hlo.seg,ch,hhi.seg,rfl,fun hlt=>?_,fun hge=>⟨rfl,?_⟩⟩
 ·have hlt:=aH hlt
  obtain ⟨a,_,⟨c0,c1,c2,rfl,r0,r1,r2⟩,ha,hb,hr,_⟩:=(SecV.up (aQ 1) hp u15).cells.el (i:=j) (by omega) (by decide)
  obtain ⟨t,_,ht,ta,tb,tr,_⟩:=(StateV.up (aQ 1) hxp u15).temp.el (i:=j) (by omega) (by decide)
  replace wu:=wu.up u15
  replace wv:=wv.up u15
  refine ⟨ha,hb,_,c0,r0.seg,c1,r1.seg,c2,r2.seg,hr k15 (Up.refl _),ta,tb,t,ht.seg,tr k15 (Up.refl _),?_⟩
  refine tN ht hlo hhi (by decide) (by decide) fun k17 u17=>?_
  have hlo1:=jJ (p:=at_ x.temp j < lo) (RatV.up ht u17) (hlo.up u17)
  have hhi1:=jJ (p:=hi < at_ x.temp j) (RatV.up ht u17) (hhi.up u17)
  have e1:=@uF lo (at_ x.temp j)
  have e2:=@tS hi (at_ x.temp j)
  revert hlo1 hhi1 e1 e2
  generalize (if at_ x.temp j < lo then t else cl) = dl
  generalize (if hi < at_ x.temp j then t else ch) = dh
  generalize (if at_ x.temp j < lo then at_ x.temp j else lo) = lo1
  generalize (if hi < at_ x.temp j then at_ x.temp j else hi) = hi1
  intro hlo1 hhi1 e1 e2
  refine tP (r1.up u17) (by decide) fun k19 u19=>⟨_,rfl,fun hs1=>?_,fun hs1=>?_⟩
  ·have v19:=u17.trans u19
   refine tN (wu.up v19) (hlo1.up u19) (hhi1.up u19) (by decide) (by decide) fun k21 u21=>?_
   have hlo2:=jJ (p:=ofQ n6 n7 < lo1) ((wu.up v19).up u21) ((hlo1.up u19).up u21)
   have hhi2:=jJ (p:=hi1 < ofQ n6 n7) ((wu.up v19).up u21) ((hhi1.up u19).up u21)
   have e3:=@uF lo1 (ofQ n6 n7)
   have e4:=@tS hi1 (ofQ n6 n7)
   revert hlo2 hhi2 e3 e4
   generalize (if ofQ n6 n7 < lo1 then c6 else dl) = dl2
   generalize (if hi1 < ofQ n6 n7 then c6 else dh) = dh2
   generalize (if ofQ n6 n7 < lo1 then ofQ n6 n7 else lo1) = lo2
   generalize (if hi1 < ofQ n6 n7 then ofQ n6 n7 else hi1) = hi2
   intro hlo2 hhi2 e3 e4
   refine tP (r2.up (v19.trans u21)) (by decide) fun k23 u23=>⟨_,rfl,fun hs2=>?_,fun hs2 k27 u27=>?_⟩
   ·have v23:=v19.trans (u21.trans u23)
    refine tN (wv.up v23) (hlo2.up u23) (hhi2.up u23) (by decide) (by decide) fun k25 u25 k26 u26=>?_
    have e5:=@uF lo2 (ofQ n8 n9)
    have e6:=@tS hi2 (ofQ n8 n9)
    refine ⟨m - 1,by omega,j+1,_,_,_,_,by omega,by rw [aF (by omega)],(jJ (p:=ofQ n8 n9 < lo2) ((wv.up v23).up u25) ((hlo2.up u23).up u25)).up u26,(jJ (p:=hi2 < ofQ n8 n9) ((wv.up v23).up u25) ((hhi2.up u23).up u25)).up u26,?_⟩
    intro i hi'
    by_cases c : i < j
    ·obtain ⟨p1,p2,p3⟩:=hsee i c
     refine ⟨by grind,fun h=>by have:=p2 h; grind,fun h=>by have:=p3 h; grind⟩
    ·have : i = j:=by omega
     subst this
     refine ⟨by grind,fun h=>by grind,fun h=>by grind⟩
   ·have hs2 : (at_ s.cells j).air = 0:=by simpa using hs2
    refine ⟨m - 1,by omega,j+1,dl2,dh2,lo2,hi2,by omega,by rw [aF (by omega)],(hlo2.up u23).up u27,(hhi2.up u23).up u27,?_⟩
    intro i hi'
    by_cases c : i < j
    ·obtain ⟨p1,p2,p3⟩:=hsee i c
     refine ⟨by grind,fun h=>by have:=p2 h; grind,fun h=>by have:=p3 h; grind⟩
    ·have : i = j:=by omega
     subst this
     refine ⟨by grind,fun h=>by grind,fun h=>absurd hs2 h⟩
  ·have hs1 : (at_ s.cells j).steam = 0:=by simpa using hs1
   have v19:=u17.trans u19
   refine tP (r2.up v19) (by decide) fun k29 u29=>⟨_,rfl,fun hs2=>?_,fun hs2 k33 u33=>?_⟩
   ·have v29:=v19.trans u29
    refine tN (wv.up v29) (hlo1.up (u19.trans u29)) (hhi1.up (u19.trans u29)) (by decide) (by decide) fun k31 u31 k32 u32=>?_
    have e5:=@uF lo1 (ofQ n8 n9)
    have e6:=@tS hi1 (ofQ n8 n9)
    refine ⟨m - 1,by omega,j+1,_,_,_,_,by omega,by rw [aF (by omega)],(jJ (p:=ofQ n8 n9 < lo1) ((wv.up v29).up u31) ((hlo1.up (u19.trans u29)).up u31)).up u32,(jJ (p:=hi1 < ofQ n8 n9) ((wv.up v29).up u31) ((hhi1.up (u19.trans u29)).up u31)).up u32,?_⟩
    intro i hi'
    by_cases c : i < j
    ·obtain ⟨p1,p2,p3⟩:=hsee i c
     refine ⟨by grind,fun h=>by have:=p2 h; grind,fun h=>by have:=p3 h; grind⟩
    ·have : i = j:=by omega
     subst this
     refine ⟨by grind,fun h=>absurd hs1 h,fun h=>by grind⟩
   ·have hs2 : (at_ s.cells j).air = 0:=by simpa using hs2
    refine ⟨m - 1,by omega,j+1,dl,dh,lo1,hi1,by omega,by rw [aF (by omega)],hlo1.up (u19.trans (u29.trans u33)),hhi1.up (u19.trans (u29.trans u33)),?_⟩
    intro i hi'
    by_cases c : i < j
    ·obtain ⟨p1,p2,p3⟩:=hsee i c
     refine ⟨by grind,fun h=>by have:=p2 h; grind,fun h=>by have:=p3 h; grind⟩
    ·have : i = j:=by omega
     subst this
     refine ⟨by grind,fun h=>absurd hs1 h,fun h=>absurd hs2 h⟩
 have hge:=aK hge
 have ej : j = s.cells.length:=by omega
 subst ej
 have btw : Btw s x (ofQ n6 n7) (ofQ n8 n9) lo hi:=⟨fun i hi=>(hsee i hi).1,fun i hi=>(hsee i hi).2.1,fun i hi=>(hsee i hi).2.2⟩
 replace hxp:=StateV.up (aQ 1) hxp u15
 replace hq:=StateV.up (aQ 127) hq u15
 refine ⟨fun m k vs=>∃ i : Nat,i+m = m1∧vs = [.int .i64 i],⟨m1,fun k1 u1=>⟨0,by omega,rfl⟩⟩,?_⟩
 rintro m k34 vs u34 ⟨i,hi',rfl⟩
 refine ⟨i,rfl,fun hlt=>?_,fun hge=>?_⟩
 ·have hlt:=aH hlt
  have hil : i < s.cells.length:=by omega
  obtain ⟨t1,t2⟩:=vC hE btw hil
  obtain ⟨t3,t4⟩:=aMd (x:=x) hE hil
  have a1 : at_ (cJ s x (ofQ n6 n7) (ofQ n8 n9)).temp i = sS s x (ofQ n6 n7) (ofQ n8 n9) i:=iC hil
  have a2 : at_ (cJ s x (ofQ n6 n7) (ofQ n8 n9)).cure i = vJ s x i:=iC hil
  have a3 : at_ (cJ s x (ofQ n6 n7) (ofQ n8 n9)).spoil i = rB s x i:=iC hil
  replace hxp:=StateV.up (aQ 1) hxp u34
  replace hq:=StateV.up (aQ 127) hq u34
  obtain ⟨a,_,g0,ha0,hb0,hr0,_⟩:=hq.temp.el (i:=i) (by simp [cJ]; omega) (by decide)
  obtain ⟨b,_,g1,ha1,hb1,hr1,_⟩:=hq.cure.el (i:=i) (by simp [cJ]; omega) (by decide)
  obtain ⟨c,_,g2,ha2,hb2,hr2,_⟩:=hq.spoil.el (i:=i) (by simp [cJ]; omega) (by decide)
  obtain ⟨b',_,f1,ya1,yb1,yr1,_⟩:=hxp.cure.el (i:=i) (by omega) (by decide)
  obtain ⟨c',_,f2,ya2,yb2,yr2,_⟩:=hxp.spoil.el (i:=i) (by omega) (by decide)
  rw [a1] at g0
  rw [a2] at g1
  rw [a3] at g2
  have q1 : RatV k34 cl lo 127:=(hlo.up u34).mono (by decide)
  have q2 : RatV k34 ch hi 127:=(hhi.up u34).mono (by decide)
  refine ⟨ha0,hb0,a,g0.seg,hr0 k34 (Up.refl _),qH g0 q1 (by decide) (by decide) fun k36 u36=>⟨_,rfl,fun h=>?_,fun _=>⟨ha0,hb0,a,g0.seg,hr0 k36 u36,?_⟩⟩⟩
  ·rw [gB] at h; exact absurd (of_decide_eq_true h) (Rat.not_lt.2 t1)
  refine qH (RatV.up g0 u36) (q2.up u36) (by decide) (by decide) fun k39 u39=>⟨_,rfl,fun h=>?_,fun _=>?_⟩
  ·have h:=of_decide_eq_true h
   rw [pE] at h
   exact absurd h (Rat.not_lt.2 t2)
  have v39:=u36.trans u39
  refine ⟨ha1,hb1,b,g1.seg,hr1 k39 v39,ya1,yb1,b',f1.seg,yr1 k39 v39,?_⟩
  refine qH (RatV.up g1 v39) ((RatV.up f1 v39).mono (by decide)) (by decide) (by decide) fun k42 u42=>⟨_,rfl,fun h=>?_,fun _=>?_⟩
  ·rw [gB] at h; exact absurd (of_decide_eq_true h) (Rat.not_lt.2 t3)
  have v42:=v39.trans u42
  refine ⟨ha2,hb2,c,g2.seg,hr2 k42 v42,ya2,yb2,c',f2.seg,yr2 k42 v42,?_⟩
  refine qH (RatV.up g2 v42) ((RatV.up f2 v42).mono (by decide)) (by decide) (by decide) fun k45 u45=>⟨_,rfl,fun h=>?_,fun _ k47 u47=>?_⟩
  ·rw [gB] at h; exact absurd (of_decide_eq_true h) (Rat.not_lt.2 t4)
  exact ⟨m - 1,by omega,i+1,by omega,by rw [aF (by omega)]⟩
 ·exact wV fun k49 u49=>⟨_,rfl,fun k50 u50=>C k50 ((u1.trans (v8.trans (v13.trans (u15.trans u34)))).trans (u49.trans u50))⟩
end
end Go.Proofs.YtampehijkiencaaGreat

