/- Several texts in one. (Printed by prep.py.) -/
import Derived.Test.YtampehijkiencaaGreatSlVS
import Derived.Test.YtampehijkiencaaGreatSlVSL
import Derived.Test.YtampehijkiencaaGreatSlCU
namespace Go.Proofs.YtampehijkiencaaGreat
open Go.RowKit Num W32
open Sy (Up Sees CallsG Seg ReadAt)
abbrev NR' (K : Nat) : World→Array Value→Rat→Prop:=fun k cs q=>QV k cs q K
def aOo (cs : Array Value) (q : Rat) : Prop:=∃ y z,In64 y∧In64 z∧cs = #[.int .i64 y,.int .i64 z]∧q = ofQ y z
def tF (cs : Array Value) (r : PRate) : Prop:=∃ y z y' z',In64 y∧In64 z∧In64 y'∧In64 z'∧cs = #[.int .i64 y,.int .i64 z,.int .i64 y',.int .i64 z']∧r = ⟨ofQ y z,ofQ y' z'⟩
def MatA (k : World) (cs : Array Value) (m : PMat) : Prop:=∃ A n c B n' c' y z y' z',In64 y∧In64 z∧In64 y'∧In64 z'∧cs = #[.slice A n c,.slice B n' c',.int .i64 y,.int .i64 z,.int .i64 y',.int .i64 z'] ∧
 Lst k A n 4 tF m.cure∧Lst k B n' 4 tF m.spoil∧m.done = ofQ y z∧m.limit = ofQ y' z'
def aPw (cs : Array Value) (x : PCell) : Prop:=∃ m y z y' z' y'' z'',In64 m∧In64 y∧In64 z∧In64 y'∧In64 z'∧In64 y''∧In64 z''∧cs = #[.int .i64 m,.int .i64 y,.int .i64 z,.int .i64 y',.int .i64 z',.int .i64 y'',.int .i64 z'']∧x = ⟨m,ofQ y z,ofQ y' z',ofQ y'' z''⟩
def aPr (cs : Array Value) (x : PLink) : Prop:=∃ a b y z,In64 a∧In64 b∧In64 y∧In64 z∧cs = #[.int .i64 a,.int .i64 b,.int .i64 y,.int .i64 z]∧x = ⟨a,b,ofQ y z⟩
structure SecA (k : World) (A : Option Addr) (n : Nat) (B : Option Addr) (n' : Nat) (C : Option Addr) (n'' : Nat) (s : PSec) : Prop where
 mats : Lst k A n 6 (MatA k) s.mats
 cells : Lst k B n' 7 aPw s.cells
 links : Lst k C n'' 4 aPr s.links
structure StateA (k : World) (A : Option Addr) (n : Nat) (B : Option Addr) (n' : Nat) (C : Option Addr) (n'' : Nat) (x : PState) : Prop where
 temp : Lst k A n 2 aOo x.temp
 cure : Lst k B n' 2 aOo x.cure
 spoil : Lst k C n'' 2 aOo x.spoil
theorem Lst.kept {α : Type} [Inhabited α] {k k' : World} {A : Option Addr} {n s : Nat} {P : Array Value→α→Prop} {l : List α} (h : Lst k A n s P l) (u : Up k k') : Lst k' A n s P l:=h.up u fun _ _ h=>h
theorem MatA.up {k k' : World} {cs : Array Value} {m : PMat} (h : MatA k cs m) (u : Up k k') : MatA k' cs m:=by
 obtain ⟨A,n,c,B,n',c',y,z,y',z',h1,h2,h3,h4,e,l0,l1,e1,e2⟩:=h
 exact ⟨A,n,c,B,n',c',y,z,y',z',h1,h2,h3,h4,e,l0.kept u,l1.kept u,e1,e2⟩
theorem SecA.up {k k' : World} {A B C : Option Addr} {n n' n'' : Nat} {s : PSec} (h : SecA k A n B n' C n'' s) (u : Up k k') : SecA k' A n B n' C n'' s:=⟨h.mats.up u fun _ _ h=>h.up u,h.cells.kept u,h.links.kept u⟩
structure FewP (s : PSec) (most : Nat) : Prop where
 mats : s.mats.length≤10
 cells : s.cells.length≤most
 links : s.links.length≤2*most+20
 rates : ∀ i,i < s.mats.length→(at_ s.mats i).cure.length≤20∧(at_ s.mats i).spoil.length≤20
section
variable {k k' : World} {R : World→Value→Prop} {s : PSec} {x : PState} {n0 n1 n2 d0 d1 d2 n3 n4 n5 d3 d4 d5 n c n' c' K L : Nat} {A0 A1 A2 A3 A4 A5 A A' : Option Addr}
theorem aOz {most : Nat} (hs : SecA k A0 n0 A1 n1 A2 n2 s) (hm : most≤1000) (C : ∀ k' b,Up k k'→(b = true→FewP s most)→R k' (.bool b)) :
 Cl k 9 #[.agg #[.slice A0 n0 d0,.slice A1 n1 d1,.slice A2 n2 d2],.int .i64 most] R:=by
 intro k0 u0
 replace hs:=hs.up u0
 replace C:=fun k' b u=>C k' b (u0.trans u)
 have e0:=hs.mats.1
 have e1:=hs.cells.1
 have e2:=hs.links.1
 have no : ∀ k',Up k0 k'→R k' (.bool false):=fun k' u=>C k' false u (by intro h; cases h)
 have wr : IntKind.wrap .i64 ((IntKind.wrap .i64 (2*(most : Int)))+20) = ((2*most+20 : Nat) : Int):=by rw [IntKind.wrap_i64,IntKind.wrap_i64]; omega
 refine aOi ⟨rfl,fun _=>no,fun a1=>⟨rfl,fun _=>no,fun a2=>⟨rfl,fun _=>no,fun a3=>⟨rfl,?_⟩⟩⟩⟩
 rw [wr] at a3
 replace a1:=of_decide_eq_false a1
 replace a2:=of_decide_eq_false a2
 replace a3:=of_decide_eq_false a3
 refine ⟨fun m k vs=>∃ j : Nat,j+m = n0∧vs = [.int .i64 j]∧∀ i,i < j→(at_ s.mats i).cure.length≤20∧(at_ s.mats i).spoil.length≤20,⟨n0,fun k1 u1=>⟨0,by omega,rfl,fun i hi=>by omega⟩⟩,?_⟩
 rintro m k1 vs u1 ⟨j,hj,rfl,hz⟩
 refine ⟨j,rfl,fun hlt=>?_,fun hge k2 u2=>?_⟩
 ·have hlt:=aG hlt
  obtain ⟨a,_,⟨B,p,q,D,p',q',y,z,y',z',_,_,_,_,rfl,l0,l1,_,_⟩,ha,hb,hr,_⟩:=(hs.up u1).mats.el (i:=j) (by omega) (by decide)
  refine ⟨ha,hb,B,p,q,D,p',q',_,_,_,_,hr k1 (Up.refl _),rfl,fun _ k2 u2=>no k2 (u1.trans u2),fun b1=>⟨rfl,fun _ k2 u2=>no k2 (u1.trans u2),fun b2 k2 u2=>?_⟩⟩
  have b1:=of_decide_eq_false b1
  have b2:=of_decide_eq_false b2
  have g1:=l0.1
  have g2:=l1.1
  exact ⟨m - 1,by omega,j+1,by omega,by rw [aF (by omega)],cF hz ⟨by omega,by omega⟩⟩
 ·have hge:=aK hge
  exact C k2 true (u1.trans u2) fun _=>⟨by omega,by omega,by omega,fun i hi=>hz i (by omega)⟩
theorem wU {l : List PRate} (hl : Lst k A n 4 tF l) (hn : l.length≤1000)
 (C : ∀ k' B m d B' m' d',Up k k'→Lst k' B m 6 (RateV (NP 1) k') l→Lst k' B' m' 6 (RateV (NR' 2) k') l→R k' (.tuple #[.slice B m d,.slice B' m' d'])) :
 Cl k 25 #[.slice A n c] R:=by
 intro k0 u0
 replace hl:=hl.kept u0
 replace C:=fun k' B m d B' m' d' u=>C k' B m d B' m' d' (u0.trans u)
 have hN:=bQ 1
 have hM:=mX 2
 have en:=hl.1
 have s0 : ∀ {k : World},∀ a (v : PRate),RateV (NP 1) k a v→Seg 6 a:=fun _ _ h=>RateV.seg hN h
 have s1 : ∀ {k : World},∀ a (v : PRate),RateV (NR' 2) k a v→Seg 6 a:=fun _ _ h=>RateV.seg hM h
 refine aEp ⟨rfl,fun m k vs=>∃ (j : Nat) (B0 B1 : Option Addr) (e0 e1 : Nat) (x0 x1 : Array Value),j+m = n∧vs = [.int .i64 j,.tuple #[.slice B0 j e0,.agg x0],.tuple #[.slice B1 j e1,.agg x1]] ∧
  ArrV j 6 (RateV (NP 1) k) x0 (at_ l)∧ArrV j 6 (RateV (NR' 2) k) x1 (at_ l),⟨n,fun k1 u1=>⟨0,_,_,_,_,_,_,by omega,rfl,ArrV.empty,ArrV.empty⟩⟩,?_⟩
 rintro m k1 vs u1 ⟨j,B0,B1,e0,e1,x0,x1,hj,rfl,h0,h1⟩
 refine ⟨j,B0,j,e0,x0,h0.rowC s0,B1,j,e1,x1,h1.rowC s1,rfl,fun hlt=>?_,fun hge k2 u2 r0 k3 u3 r1 k4 u4=>?_⟩
 ·have hlt:=aG hlt
  obtain ⟨a,_,⟨y,z,y',z',i1,i2,i3,i4,rfl,er⟩,ha,hb,hr,_⟩:=(hl.kept u1).el (i:=j) (by omega) (by decide)
  refine ⟨ha,hb,y,z,y',z',hr k1 (Up.refl _),wC i1 i2 fun k2 a2 u2 w2=>⟨a2,w2.seg,rfl,wC i3 i4 fun k4 a4 u4 w4=>⟨a4,w4.seg,rfl,by simp [w2.seg.1,w4.seg.1],by decide,⟨by simp; omega,by simp; omega⟩,?_⟩⟩⟩
  rintro B0' _ g0' _ rfl rfl _
  refine yI i1 i2 fun k6 a6 u6 w6=>⟨a6,w6.seg,rfl,yI i3 i4 fun k8 a8 u8 w8=>⟨a8,w8.seg,rfl,by simp [w6.seg.1,w8.seg.1],by decide,⟨by simp; omega,by simp; omega⟩,?_⟩⟩
  rintro B1' _ g1' _ rfl rfl _ k9 u9
  have v9:=(((u2.trans u4).trans u6).trans u8).trans u9
  refine ⟨m - 1,by omega,j+1,B0',B1',g0',g1',_,_,by omega,by rw [aF (by omega)]; rfl,?_,?_⟩
  ·refine ArrV.push (a:=(a2.toList ++ (a4.toList ++ ([]))).toArray) (h0.mono fun a v h=>RateV.up hN h v9) (by simp [w2.seg.1,w4.seg.1]) ⟨a2,a4,rfl,?_,?_⟩
   ·rw [er]; exact w2.up (((u4.trans u6).trans u8).trans u9)
   ·rw [er]; exact w4.up ((u6.trans u8).trans u9)
  ·refine ArrV.push (a:=(a6.toList ++ (a8.toList ++ ([]))).toArray) (h1.mono fun a v h=>RateV.up hM h v9) (by simp [w6.seg.1,w8.seg.1]) ⟨a6,a8,rfl,?_,?_⟩
   ·rw [er]; exact w6.up (u8.trans u9)
   ·rw [er]; exact w8.up u9
 ·have hge:=aK hge
  have ej : j = l.length:=by omega
  have v4:=(u2.trans u3).trans u4
  refine C k4 B0 j e0 B1 j e1 (u1.trans v4) ⟨ej,?_⟩ ⟨ej,?_⟩
  ·exact (h0.mono fun a v h=>RateV.up hN h v4).els s0 (dO r0 (u3.trans u4))
  ·exact (h1.mono fun a v h=>RateV.up hM h v4).els s1 (dO r1 u4)
theorem aKw {l : List PMat} (hl : Lst k A n 6 (MatA k) l) (hn : l.length≤1000) (hr20 : ∀ i,i < l.length→(at_ l i).cure.length≤20∧(at_ l i).spoil.length≤20)
 (C : ∀ k' B m d B' m' d',Up k k'→Lst k' B m 8 (MatV (NP 1) k') l→Lst k' B' m' 8 (MatV (NR' 2) k') l→R k' (.tuple #[.slice B m d,.slice B' m' d'])) :
 Cl k 43 #[.slice A n c] R:=by
 intro k0 u0
 replace hl:=hl.up u0 fun _ _ h=>h.up u0
 replace C:=fun k' B m d B' m' d' u=>C k' B m d B' m' d' (u0.trans u)
 have hN:=bQ 1
 have hM:=mX 2
 have en:=hl.1
 have s0 : ∀ {k : World},∀ a (v : PMat),MatV (NP 1) k a v→Seg 8 a:=fun _ _ h=>MatV.seg hN h
 have s1 : ∀ {k : World},∀ a (v : PMat),MatV (NR' 2) k a v→Seg 8 a:=fun _ _ h=>MatV.seg hM h
 refine aHp ⟨rfl,fun m k vs=>∃ (j : Nat) (B0 B1 : Option Addr) (e0 e1 : Nat) (x0 x1 : Array Value),j+m = n∧vs = [.int .i64 j,.tuple #[.slice B0 j e0,.agg x0],.tuple #[.slice B1 j e1,.agg x1]] ∧
  ArrV j 8 (MatV (NP 1) k) x0 (at_ l)∧ArrV j 8 (MatV (NR' 2) k) x1 (at_ l),⟨n,fun k1 u1=>⟨0,_,_,_,_,_,_,by omega,rfl,ArrV.empty,ArrV.empty⟩⟩,?_⟩
 rintro m k1 vs u1 ⟨j,B0,B1,e0,e1,x0,x1,hj,rfl,h0,h1⟩
 refine ⟨j,B0,j,e0,x0,h0.rowC s0,B1,j,e1,x1,h1.rowC s1,rfl,fun hlt=>?_,fun hge k2 u2 r0 k3 u3 r1 k4 u4=>?_⟩
 ·have hlt:=aG hlt
  obtain ⟨g20,g21⟩:=hr20 j (by omega)
  obtain ⟨a,_,⟨D,p,q,D',p',q',y,z,y',z',i1,i2,i3,i4,rfl,l0,l1,ed,el⟩,ha,hb,hr,_⟩:=(hl.up u1 fun _ _ h=>h.up u1).el (i:=j) (by omega) (by decide)
  refine ⟨ha,hb,D,p,q,D',p',q',y,z,y',z',hr k1 (Up.refl _),wU l0 (by omega) fun ka P0 m0 f0 P1 m1 f1 ua wa wa'=>⟨_,_,_,_,_,_,rfl,wU (l1.kept ua) (by omega) fun kb P2 m2 f2 P3 m3 f3 ub wb wb'=>⟨_,_,_,_,_,_,rfl,?_⟩⟩⟩
  refine wC i1 i2 fun k2 a2 u2 w2=>⟨a2,w2.seg,rfl,wC i3 i4 fun k4 a4 u4 w4=>⟨a4,w4.seg,rfl,by simp [w2.seg.1,w4.seg.1],by decide,⟨by simp; omega,by simp; omega⟩,?_⟩⟩
  rintro B0' _ g0' _ rfl rfl _
  refine yI i1 i2 fun k6 a6 u6 w6=>⟨a6,w6.seg,rfl,yI i3 i4 fun k8 a8 u8 w8=>⟨a8,w8.seg,rfl,by simp [w6.seg.1,w8.seg.1],by decide,⟨by simp; omega,by simp; omega⟩,?_⟩⟩
  rintro B1' _ g1' _ rfl rfl _ k9 u9
  have x9:=(((u2.trans u4).trans u6).trans u8).trans u9
  have v9:=(ua.trans ub).trans x9
  refine ⟨m - 1,by omega,j+1,B0',B1',g0',g1',_,_,by omega,by rw [aF (by omega)]; rfl,?_,?_⟩
  ·refine ArrV.push (a:=((Value.slice P0 m0 f0) :: ((Value.slice P2 m2 f2) :: (a2.toList ++ (a4.toList ++ ([]))))).toArray) (h0.mono fun a v h=>MatV.up hN h v9) (by simp [w2.seg.1,w4.seg.1]) ⟨P0,m0,f0,P2,m2,f2,a2,a4,rfl,aW hN wa (ub.trans x9),aW hN wb x9,?_,?_⟩
   ·rw [ed]; exact w2.up (((u4.trans u6).trans u8).trans u9)
   ·rw [el]; exact w4.up ((u6.trans u8).trans u9)
  ·refine ArrV.push (a:=((Value.slice P1 m1 f1) :: ((Value.slice P3 m3 f3) :: (a6.toList ++ (a8.toList ++ ([]))))).toArray) (h1.mono fun a v h=>MatV.up hM h v9) (by simp [w6.seg.1,w8.seg.1]) ⟨P1,m1,f1,P3,m3,f3,a6,a8,rfl,aW hM wa' (ub.trans x9),aW hM wb' x9,?_,?_⟩
   ·rw [ed]; exact w6.up (u8.trans u9)
   ·rw [el]; exact w8.up u9
 ·have hge:=aK hge
  have ej : j = l.length:=by omega
  have v4:=(u2.trans u3).trans u4
  refine C k4 B0 j e0 B1 j e1 (u1.trans v4) ⟨ej,?_⟩ ⟨ej,?_⟩
  ·exact (h0.mono fun a v h=>MatV.up hN h v4).els s0 (dO r0 (u3.trans u4))
  ·exact (h1.mono fun a v h=>MatV.up hM h v4).els s1 (dO r1 u4)
end
end Go.Proofs.YtampehijkiencaaGreat

namespace Go.Proofs.YtampehijkiencaaGreat
open Go.RowKit Num
open Sy (Up Sees CallsG Seg RowC)
section
variable {α : Type} {n s i j : Nat} {P : Array Value→α→Prop} {xs a : Array Value} {ys : List Value} {f g : Nat→α}
theorem aIs {q : Nat} (hs : xs.size = n*s) (hi : i < n) (hq : q < n) (hj : j+ys.length≤s) : elt (Sy.over xs (i*s+j) ys) s q = if q = i then Sy.over (elt xs s i) j ys else elt xs s q:=by
 have h1 : (i+1)*s≤n*s:=Nat.mul_le_mul_right s hi
 have h2 : (q+1)*s≤n*s:=Nat.mul_le_mul_right s hq
 have h3 : (i+1)*s = i*s+s:=Nat.succ_mul _ _
 have h4 : (q+1)*s = q*s+s:=Nat.succ_mul _ _
 by_cases e : q = i
 ·subst e
  rw [if_pos rfl]
  refine pQ (by rw [Sy.over_size,fB]) fun p hp=>?_
  rw [eT _ _ _ _ hp (by rw [Sy.over_size]; omega),rS _ _ _ _ (by omega),rS _ _ _ _ (by rw [fB]; exact hj),eT _ _ _ _ hp (by omega)]
  by_cases c : j≤p∧p < j+ys.length
  ·rw [if_pos (by omega),if_pos c]
   congr 1
   omega
  ·rw [if_neg (by omega),if_neg c]
 ·rw [if_neg e]
  refine pQ (fB _ _ _) fun p hp=>?_
  rw [eT _ _ _ _ hp (by rw [Sy.over_size]; omega),rS _ _ _ _ (by omega),eT _ _ _ _ hp (by omega),if_neg]
  rintro ⟨c,d⟩
  rcases Nat.lt_or_gt_of_ne e with e | e
  ·have:=Nat.mul_le_mul_right s e
   have h5 : (q.succ)*s = q*s+s:=Nat.succ_mul _ _
   omega
  ·have:=Nat.mul_le_mul_right s e
   have h5 : (i.succ)*s = i*s+s:=Nat.succ_mul _ _
   omega
theorem ArrV.part (h : ArrV n s P xs f) (hi : i < n) (hj : j+ys.length≤s) (hy : ∀ a,a.size = s→P a (f i)→P (Sy.over a j ys) (g i)) (e : ∀ q,q < n→q ≠ i→f q = g q) : ArrV n s P (Sy.over xs (Int.toNat (i : Int)*s+j) ys) g:=by
 refine ⟨by rw [Sy.over_size]; exact h.size,fun q hq=>?_⟩
 show P (elt (Sy.over xs (i*s+j) ys) s q) (g q)
 rw [aIs h.size hi hq hj]
 split
 ·rename_i e; subst e; exact hy _ (fB _ _ _) (Arr.el h q hq)
 ·rename_i c; rw [← e q hq c]; exact Arr.el h q hq
theorem wG {p m q : List Value} (h : ys.length = m.length) : Sy.over (p ++ (m ++ q)).toArray p.length ys = (p ++ (ys ++ q)).toArray:=by
 apply Array.ext'
 rw [Sy.over_eq _ _ _ (by simp; omega)]
 simp [h]
end
section
variable {α : Type} [Inhabited α] {k : World} {A : Option Addr} {n s i : Nat} {P : Array Value→α→Prop} {xs a : Array Value} {l : List α} {v : α}
theorem aNh (h : i < l.length) : at_ (l ++ [v]) i = at_ l i:=by
 rw [cG (by simp; omega),cG h,List.getElem_append_left h]
theorem aNd : at_ (l ++ [v]) l.length = v:=by
 rw [cG (by simp)]; simp
theorem ArrV.snoc (h : ArrV l.length s P xs (at_ l)) (ha : a.size = s) (hp : P a v) : ArrV (l.length+1) s P (xs ++ a.toList.toArray) (at_ (l ++ [v])) :=
 (h.congr fun i hi=>(aNh hi).symm).push ha (by rw [aNd]; exact hp)
end
theorem zR {P : Program} {ops : Array Oper} {rest : List Oper} {o : Oper} {a : Act} {Q : Exit→Act→World→Prop} {w w' : World} {v' : Value} (hgd : o.guard = none) (s x : Operand) (t : TypeId)
 (ho : o.op = .call { callee:=.builtin .append,args:=#[s,x],argTypes:=#[t,t] }) (hr : (Builtin.append_ #[t,t] o.type #[a.eval s,a.eval x]).run P w = .ok v' w') (h : wpList P ops Q rest (a.put o.dst v') w') : wpList P ops Q (o :: rest) a w :=
 wpList_plain hgd fun _ hK=>by
  unfold Oper.wp execOp
  simp only [ho,resolve,invoke,builtin,Sem.run_bind,Sem.run_pure,Result.andThen_ok,List.map_toArray,List.map_cons,List.map_nil,hr]
  exact hK _ _ h
open Sy in
theorem aCq {P : Program} {k w : World} {t ty e s n c : Nat} {i : TypeInfo} {z : Value} {ad : Addr} {xs : List Value} (hw : Sees k w) (ht : P.underlying t = some (.slice e)) (hi : P.info? e = some i) (hz : i.zero = some z) (hsz : i.size = s) (hzs : z.cells.size = s) (h0 : 0 < s)
 (hzw : ∀ u ∈ z.cells.toList,u.noWord = true) (hl : xs.length = n*s) (hrc : ∀ u ∈ xs,u.scalar = true∧u.noWord = true) (hc : ∀ (j : Nat) u,xs[j]? = some u→(w.alloc (.cells #[] e)).cell? (ad.add j) = some u) (hb : i.bytes≤1000) (hn : n≤1000000) :
 ∃ A c' w' k',(Builtin.append_ #[t,t] ty #[.slice (some ⟨w.heap.size,0,none⟩) 0 0,.slice (some ad) n c]).run P (w.alloc (.cells #[] e)) = .ok (.slice A n c') w'∧Sees k' w'∧Below k.heap.size k k'∧Below w.heap.size w w'∧Gift k.heap.size k' w' e s A n c' xs.toArray:=by
 let ρ0 : Env:=⟨fun _=>none,fun _=>none,fun _=>none,fun _=>none⟩
 have hC : Core ρ0 k w k w []:=⟨hw,hw.size.symm,Below.refl _ _,Below.refl _ _,(fun b n h=>by cases h),⟨(fun r hr=>by cases hr),(fun r hr=>by cases hr)⟩⟩
 obtain ⟨k1,g1⟩:=hC.fresh (n0:=0) (rows0:=[]) (fun r hr=>by cases hr) (xs:=#[]) (cells:=#[]) (n:=0) (c:=0) (s:=s) (ty:=e) w.drawn h0 (by simp) (Nat.le_refl _) (by simp) (fun p u h=>by simp at h) (by simp) (by intro u h; simp at h) (Sy.ext_le ρ0 _ _ (fun _ _=>rfl) (fun _ _=>rfl))
 have hC1 : Core (ρ0.ext 0 [.slice,.row] [.slice (some ⟨w.heap.size,0,none⟩) 0 0,.agg #[]]) k w k1 (w.alloc (.cells #[] e)) [⟨0,1,e,s⟩]:=⟨g1.sees,hw.size.symm,g1.kb,g1.wb,(fun b n h=>by cases h),g1.rows⟩
 obtain ⟨A,c',w',k',g2,g3,g4⟩:=hC1.app (P:=P) (n0:=2) (rows0:=[]) (r:=⟨0,1,e,s⟩) (by simp) (fun r hr=>by cases hr) (t:=t) (ty:=ty) ht hi hz hsz hzs hzw (A:=some ⟨w.heap.size,0,none⟩) (B:=some ad) (n:=0) (c:=0) (m:=n) (c2:=c) (xs:=#[]) (news:=xs) rfl rfl hl (fun h=>by cases h)
  (fun b hb' j u hj=>by injection hb' with hb'; subst hb'; exact hc j u hj) hrc (by
    refine ⟨?_,by omega⟩
    rw [Nat.zero_add]
    exact Nat.le_trans (Nat.mul_le_mul hb hn) (by decide)) (by intro u h; simp at h) (fun A' c'=>Sy.ext_le _ _ _ (fun i hi=>by
     show (if i < 0 then none else _) = none
     rw [if_neg (by omega)]
     exact List.getElem?_eq_none (by simp; omega)) (fun i hi=>by
     show (if i < 0 then none else _) = none
     rw [if_neg (by omega)]
     exact List.getElem?_eq_none (by simp; omega)))
 rw [Nat.zero_add] at g2 g3 g4
 refine ⟨A,c',w',k',g2,g4.sees,g4.kb,g4.wb,?_⟩
 obtain ⟨A1,n1,c1,ys,h1,h2,h3,h4,h5,h6,h7,h8⟩:=g4.rows.ok ⟨2,3,e,s⟩ (by simp)
 have e1 : some (Value.slice A n c') = some (Value.slice A1 n1 c1):=h1
 have e2 : some (Value.agg (#[] ++ xs.toArray)) = some (Value.agg ys):=h2
 injection e1 with e1; injection e1 with f1 f2 f3; subst f1 f2 f3
 injection e2 with e2; injection e2 with e2; subst e2
 rw [Array.empty_append] at h6 h8
 exact ⟨h6,h7,fun u hu=>hrc u (by simpa using hu),h8.imp id fun ⟨g,cs,e,q1,q2,q3,q4,q5,q6,_⟩=>⟨g,cs,e,q1,q2,q3,q4,q5,q6⟩⟩
theorem aEq : (Tryz.prog.info? 131).map (fun i=>(i.zero,i.size,i.bytes)) = some (some (.agg #[.bool false,.slice none 0 0,.slice none 0 0,.bool false,.slice none 0 0,.slice none 0 0]),6,112):=by kernel_rfl
set_option maxRecDepth 100000 in
set_option maxHeartbeats 1000000 in
theorem pX (w : World) (A : Option Addr) (n c : Nat) (xs : List Value) (hl : xs.length = n*6) (hx : ∀ u ∈ xs,u.oneCell' = true) (hc : ∀ (j : Nat) u,xs[j]? = some u→∃ b o,A = some ⟨b,o,none⟩∧b < w.heap.size∧w.cell? ⟨b,o+j,none⟩ = some u) (hn : n≤1000000) :
 Calls Tryz.prog 93 #[.slice A n c] w fun e w'=>(∃ v,e = .returned v∧rB w w' n 6 131 xs v)∧Below w.heap.size w w':=by
 have qT : ∀ (w : World) (a : Option Addr) (l c : Nat),(binOp .eql 81 (.slice a l c) (.slice none 0 0)).run Tryz.prog w = .ok (.bool a.isNone) w:=fun w a l c=>Lib.run_eql_slice_nil w _ _ a l c 0 0 Tryz.underlying81
 obtain ⟨i0,hi,hz0,hz1,hz2⟩:=info_parts aEq
 cases A with
 | none =>
  obtain ⟨rfl,rfl⟩:=nM hl (by decide) hc
  go_enter Tryz.func93,Tryz.ntmps93
  go_wp2
  go_ret
  exact ⟨⟨_,rfl,none,0,rfl,World.ownsRow_nil _ _ _ _⟩,Below.refl _ _⟩
 | some ad =>
  have hnews : ∀ j u,xs[j]? = some u→(w.alloc (.cells #[] 131)).cell? (ad.add j) = some u:=fun j u hu=>by
   obtain ⟨b,o,e,hb,h⟩:=hc j u hu
   injection e with e
   subst e
   have hadd : (⟨b,o,none⟩ : Addr).add j = ⟨b,o+j,none⟩:=by unfold Addr.add; split <;> simp_all
   rw [hadd]
   exact (((Below.refl _ w).alloc (Nat.le_refl _) _).cell hb).trans h
  clear hc
  go_enter Tryz.func93,Tryz.ntmps93
  go_wp2_with (at_builtin; refine wpList_append_own _ rfl (.tmp 5) (.tmp 6) 81 rfl w.heap.size 131 i0 _ 6 112 Tryz.underlying81 hi hz0 hz1 hz2 rfl (by decide) _ 0 [] rfl (World.ownsRow_made w #[] 0 (Nat.le_refl _) (Nat.zero_le _) (by simp)) ad n c xs rfl hl hnews hx (by unfold maxLen; omega) (by omega) (by simp) ?_; intro v' w1 hown hgrow _)
  go_wp2
  go_ret
  rw [Nat.zero_add,List.nil_append] at hown
  exact ⟨⟨_,rfl,sH hown⟩,((Below.refl _ w).alloc (Nat.le_refl _) _).grown hgrow (by simp) (fun k hk=>by have h2 : some w.heap.size = some k:=hk; injection h2 with h2; omega)⟩
theorem aEg : (Tryz.prog.info? 98).map (fun i=>(i.zero,i.size,i.bytes)) = some (some (.agg #[.slice none 0 0,.slice none 0 0,.bool false,.slice none 0 0,.slice none 0 0,.bool false,.slice none 0 0,.slice none 0 0]),8,160):=by kernel_rfl
set_option maxRecDepth 100000 in
set_option maxHeartbeats 1000000 in
theorem aAc {k : World} {A : Option Addr} {n c : Nat} {xs : Array Value} {R : World→Value→Prop} (hl : xs.size = n*8) (hrc : RowC xs) (hc : InAt k A xs) (hn : n≤1000000) (C : ∀ k' B q,Up k k'→R k' (.tuple #[.slice B n q,.agg xs])) :
 Sy.CallsR Tryz.prog 91 #[.slice A n c] k 98 8 R:=by
 intro w hw
 have qT : ∀ (w : World) (a : Option Addr) (l c : Nat),(binOp .eql 33 (.slice a l c) (.slice none 0 0)).run Tryz.prog w = .ok (.bool a.isNone) w:=fun w a l c=>Lib.run_eql_slice_nil w _ _ a l c 0 0 Tryz.underlying33
 obtain ⟨i0,hi,hz0,hz1,hz2⟩:=info_parts aEg
 have hc' : ∀ (j : Nat) u,xs.toList[j]? = some u→∃ b o,A = some ⟨b,o,none⟩∧b < w.heap.size∧w.cell? ⟨b,o+j,none⟩ = some u:=fun j u hu=>by
  obtain ⟨b,o,e1,hb,hc⟩:=hc j u (by simpa using hu)
  exact ⟨b,o,e1,by rw [hw.size]; exact hb,hw.cell hc⟩
 cases A with
 | none =>
  obtain ⟨rfl,e0⟩:=nM (by rw [Array.length_toList]; exact hl) (by decide) hc'
  have e1 : xs = #[]:=by apply Array.ext'; exact e0
  subst e1
  go_enter Tryz.func91,Tryz.ntmps91
  go_wp2
  go_ret
  exact ⟨none,0,0,rfl,#[],k,hw,Below.refl _ _,Below.refl _ _,⟨by simp,Nat.le_refl _,hrc,.inl ⟨rfl,rfl⟩⟩,C k none 0 (Up.refl k)⟩
 | some ad =>
  have hnews : ∀ (j : Nat) u,xs.toList[j]? = some u→(w.alloc (.cells #[] 98)).cell? (ad.add j) = some u:=fun j u hu=>by
   obtain ⟨b,o,e,hb,h⟩:=hc' j u hu
   injection e with e
   subst e
   have hadd : (⟨b,o,none⟩ : Addr).add j = ⟨b,o+j,none⟩:=by unfold Addr.add; split <;> simp_all
   rw [hadd]
   exact (((Below.refl _ w).alloc (Nat.le_refl _) _).cell hb).trans h
  obtain ⟨A',c',w',k',g1,g2,g3,g4,g5⟩:=aCq (c:=c) (ty:=33) hw Tryz.underlying33 hi hz0 hz1 rfl (by decide) (by simp [Value.cells,Value.noWord]) (by rw [Array.length_toList]; exact hl) hrc hnews (by rw [hz2]; decide) hn
  rw [Array.toArray_toList] at g5
  clear hc hc'
  go_enter Tryz.func91,Tryz.ntmps91
  go_wp2_with (at_builtin; refine zR rfl (.tmp 5) (.tmp 6) 33 rfl g1 ?_)
  go_wp2
  go_ret
  exact ⟨A',n,c',xs,k',rfl,g2,g3,g4,g5,C k' A' c' (Up.of_below g3)⟩
end Go.Proofs.YtampehijkiencaaGreat

namespace Go.Proofs.YtampehijkiencaaGreat
open Go.RowKit Num
open Sy (Up Sees CallsG Seg RowC)
structure PLayer where
 m : Int
 n : Int
 cap : Rat
 v : Rat
 deriving Inhabited
def mK (l : PLayer) : Prop:=l.n < 1∨¬ 0 < l.v
instance (l : PLayer) : Decidable (mK l):=by unfold mK; exact inferInstance
def lD (l : PLayer) : PCell:=⟨l.m,l.cap,0,0⟩
def cnt (ls : List PLayer) : Nat:=(ls.map fun l=>l.n.toNat).sum
def iT (ls : List PLayer) : List PCell:=ls.flatMap fun l=>List.replicate l.n.toNat (lD l)
def eK (ls : List PLayer) : List Rat:=ls.flatMap fun l=>List.replicate l.n.toNat l.v
def kR (ls : List PLayer) : Int:=if ls.length < 1∨24 < ls.length then 4 else if ∃ i,i < ls.length∧mK (at_ ls i) then 1 else if 24 < cnt ls then 4 else 0
def eC (u : Rat) (l : List PCell) : List PCell:=l.modify 0 fun c=>{ c with steam:=u }
def nL (v : Rat) (l : List PCell) : List PCell:=l.modify (l.length - 1) fun c=>{ c with air:=v }
def eQ (vs : List Rat) : List PLink:=(List.range (vs.length - 1)).map fun i : Nat=>⟨(i : Int),((i+1 : Nat) : Int),at_ vs i*at_ vs (i+1) / (at_ vs i+at_ vs (i+1))⟩
def iC (mats : List PMat) (ls : List PLayer) (u v : Rat) : PSec:=⟨mats,nL v (eC u (iT ls)),eQ (eK ls)⟩
def eZ (mats : List PMat) (ls : List PLayer) (u v : Rat) : Int:=if kR ls ≠ 0 then kR ls else bM (iC mats ls u v)
def sF (e : Int) (s : PSec) : PSec:=if e ≠ 0 then ⟨[],[],[]⟩ else s
theorem mE (ls : List PLayer) : (iT ls).length = cnt ls:=by
 unfold iT cnt
 induction ls with
 | nil=>rfl
 | cons l ls ih=>rw [List.flatMap_cons,List.length_append,ih,List.map_cons,List.sum_cons,List.length_replicate]
theorem jE (ls : List PLayer) : (eK ls).length = cnt ls:=by
 unfold eK cnt
 induction ls with
 | nil=>rfl
 | cons l ls ih=>rw [List.flatMap_cons,List.length_append,ih,List.map_cons,List.sum_cons,List.length_replicate]
section
variable {ls : List PLayer} {j : Nat}
theorem tG (h : j < ls.length) : iT (ls.take (j+1)) = iT (ls.take j) ++ List.replicate (at_ ls j).n.toNat (lD (at_ ls j)):=by
 unfold iT
 rw [List.take_succ_eq_append_getElem h,List.flatMap_append,cG h]; simp
theorem tX (h : j < ls.length) : eK (ls.take (j+1)) = eK (ls.take j) ++ List.replicate (at_ ls j).n.toNat (at_ ls j).v:=by
 unfold eK
 rw [List.take_succ_eq_append_getElem h,List.flatMap_append,cG h]; simp
theorem rL (h : j < ls.length) : cnt (ls.take (j+1)) = cnt (ls.take j)+(at_ ls j).n.toNat:=by
 unfold cnt
 rw [List.take_succ_eq_append_getElem h,List.map_append,List.sum_append,cG h]; simp
theorem aJh : cnt (ls.take j)≤cnt ls:=by
 conv=>rhs; rw [← List.take_append_drop j ls]
 unfold cnt
 rw [List.map_append,List.sum_append]
 omega
theorem pT (h : ls.length < 1∨24 < ls.length) : kR ls = 4:=by unfold kR; rw [if_pos h]
theorem pN (h1 : ¬ ls.length < 1) (h2 : ¬ 24 < ls.length) (hj : j < ls.length) (hb : mK (at_ ls j)) : kR ls = 1:=by
 unfold kR
 rw [if_neg (by omega),if_pos ⟨j,hj,hb⟩]
theorem xB (h1 : ¬ ls.length < 1) (h2 : ¬ 24 < ls.length) (hb : ∀ i,i < ls.length→¬ mK (at_ ls i)) (h : 24 < cnt (ls.take j)) : kR ls = 4:=by
 unfold kR
 rw [if_neg (by omega),if_neg (fun ⟨i,hi,hh⟩=>hb i hi hh),if_pos (Nat.lt_of_lt_of_le h aJh)]
theorem aJw (h1 : ¬ ls.length < 1) (h2 : ¬ 24 < ls.length) (hb : ∀ i,i < ls.length→¬ mK (at_ ls i)) (h : cnt ls≤24) : kR ls = 0:=by
 unfold kR
 rw [if_neg (by omega),if_neg (fun ⟨i,hi,hh⟩=>hb i hi hh),if_neg (by omega)]
theorem aBy (h1 : ¬ ls.length < 1) (hb : ∀ i,i < ls.length→¬ mK (at_ ls i)) : 1≤cnt ls:=by
 have h:=hb 0 (by omega)
 unfold mK at h
 have h2:=rL (ls:=ls) (j:=0) (by omega)
 have h3:=aJh (ls:=ls) (j:=0+1)
 omega
theorem kJ {α : Type} [Inhabited α] {l : List α} {i q : Nat} {f : α→α} (hq : q < l.length) : at_ (l.modify i f) q = if q = i then f (at_ l q) else at_ l q:=by
 rw [cG (by simpa using hq),cG hq,List.getElem_modify]
 by_cases e : i = q
 ·rw [if_pos e,if_pos e.symm]
 ·rw [if_neg e,if_neg (Ne.symm e)]
theorem wV (vs : List Rat) : (eQ vs).length = vs.length - 1:=by simp [eQ]
theorem aCd {e : Int} {s : PSec} (h : e = 0) : sF e s = s:=by unfold sF; rw [if_neg (by simp [h])]
end
section
variable {N N' : World→Array Value→Rat→Prop} {k k' : World} {cs : Array Value}
def LayerV (N : World→Array Value→Rat→Prop) (k : World) (cs : Array Value) (x : PLayer) : Prop:=∃ c0 c1,cs = ((Value.int .i64 x.m) :: ((Value.int .i64 x.n) :: (c0.toList ++ (c1.toList ++ ([]))))).toArray∧N k c0 x.cap∧N k c1 x.v
theorem LayerV.up (hN : Num3 N) {r : PLayer} (h : LayerV N k cs r) (u : Up k k') : LayerV N k' cs r:=by
 obtain ⟨c0,c1,e,h0,h1⟩:=h
 exact ⟨c0,c1,e,hN.up h0 u,hN.up h1 u⟩
theorem LayerV.seg (hN : Num3 N) {r : PLayer} (h : LayerV N k cs r) : Seg 8 cs:=by
 obtain ⟨c0,c1,rfl,h0,h1⟩:=h
 have s0:=hN.seg h0
 have s1:=hN.seg h1
 refine ⟨by simp [s0.1,s1.1],fun u hu=>?_⟩
 simp only [List.append_nil,List.mem_cons,List.mem_append] at hu
 rcases hu with rfl | rfl | hu | hu
 ·exact ⟨rfl,rfl⟩
 ·exact ⟨rfl,rfl⟩
 ·exact s0.2 u hu
 ·exact s1.2 u hu
theorem RateV.mono {r : PRate} (hN : ∀ cs q,N k cs q→N' k cs q) (h : RateV N k cs r) : RateV N' k cs r:=by
 obtain ⟨c0,c1,e,h0,h1⟩:=h
 exact ⟨c0,c1,e,hN _ _ h0,hN _ _ h1⟩
theorem MatV.mono {r : PMat} (hN : ∀ cs q,N k cs q→N' k cs q) (h : MatV N k cs r) : MatV N' k cs r:=by
 obtain ⟨A,n,c,B,n',c',c0,c1,e,l0,l1,h0,h1⟩:=h
 exact ⟨A,n,c,B,n',c',c0,c1,e,l0.mono fun _ _ h=>RateV.mono hN h,l1.mono fun _ _ h=>RateV.mono hN h,hN _ _ h0,hN _ _ h1⟩
theorem CellV.steam_ (hN : Num3 N) {r : PCell} {c : Array Value} {u : Rat} (h : CellV N k cs r) (hc : N k c u) : CellV N k (Sy.over cs 4 (c.toList ++ ([]))) { r with steam:=u }:=by
 obtain ⟨c0,c1,c2,rfl,h0,h1,h2⟩:=h
 have s0:=(hN.seg h0).1
 have s1:=(hN.seg h1).1
 have sc:=(hN.seg hc).1
 have e:=wG (p:=Value.int .i64 r.m :: c0.toList) (m:=c1.toList) (q:=c2.toList ++ []) (ys:=c.toList ++ []) (by simp [s1,sc])
 rw [show (Value.int .i64 r.m :: c0.toList).length = 4 by simp [s0]] at e
 exact ⟨c0,c,c2,by rw [show (Value.int .i64 r.m :: (c0.toList ++ (c1.toList ++ (c2.toList ++ [])))) = (Value.int .i64 r.m :: c0.toList) ++ (c1.toList ++ (c2.toList ++ [])) from rfl,e]; simp,h0,hc,h2⟩
theorem CellV.air_ (hN : Num3 N) {r : PCell} {c : Array Value} {u : Rat} (h : CellV N k cs r) (hc : N k c u) : CellV N k (Sy.over cs 7 (c.toList ++ ([]))) { r with air:=u }:=by
 obtain ⟨c0,c1,c2,rfl,h0,h1,h2⟩:=h
 have s0:=(hN.seg h0).1
 have s1:=(hN.seg h1).1
 have s2:=(hN.seg h2).1
 have sc:=(hN.seg hc).1
 have e:=wG (p:=Value.int .i64 r.m :: (c0.toList ++ c1.toList)) (m:=c2.toList) (q:=[]) (ys:=c.toList ++ []) (by simp [s2,sc])
 rw [show (Value.int .i64 r.m :: (c0.toList ++ c1.toList)).length = 7 by simp [s0,s1]] at e
 exact ⟨c0,c1,c,by rw [show (Value.int .i64 r.m :: (c0.toList ++ (c1.toList ++ (c2.toList ++ [])))) = (Value.int .i64 r.m :: (c0.toList ++ c1.toList)) ++ (c2.toList ++ []) by simp,e]; simp,h0,h1,hc⟩
end
theorem edges {N : World→Array Value→Rat→Prop} {k : World} (hN : Num3 N) {ls : List PLayer} {n : Nat} {xs c d : Array Value} {u v : Rat} (hn : n = cnt ls) (hp : 1≤n) (h : ArrV n 10 (CellV N k) xs (at_ (iT ls))) (hc : N k c u) (hd : N k d v) :
 ArrV n 10 (CellV N k) (Sy.over (Sy.over xs (Int.toNat ((0 : Nat) : Int)*10+4) (c.toList ++ ([]))) (Int.toNat ((n - 1 : Nat) : Int)*10+7) (d.toList ++ ([]))) (at_ (nL v (eC u (iT ls)))):=by
 have hl:=mE ls
 have hsc:=(hN.seg hc).1
 have hsd:=(hN.seg hd).1
 have h1 : ArrV n 10 (CellV N k) (Sy.over xs (Int.toNat ((0 : Nat) : Int)*10+4) (c.toList ++ ([]))) (at_ (eC u (iT ls))):=by
  refine ArrV.part (i:=0) h (by omega) (by simp [hsc]) (fun a _ ha=>?_) fun q hq hne=>?_
  ·unfold eC
   rw [kJ (by omega),if_pos rfl]
   exact CellV.steam_ hN ha hc
  ·unfold eC
   rw [kJ (by omega),if_neg hne]
 have hl2 : (eC u (iT ls)).length = cnt ls:=by unfold eC; rw [List.length_modify,hl]
 refine ArrV.part (i:=n - 1) h1 (by omega) (by simp [hsd]) (fun a _ ha=>?_) fun q hq hne=>?_
 ·unfold nL
  rw [kJ (by omega),if_pos (by omega)]
  exact CellV.air_ hN ha hd
 ·unfold nL
  rw [kJ (by omega),if_neg (by omega)]
theorem nP (mats : List PMat) (ls : List PLayer) (u v : Rat) : (iC mats ls u v).cells.length = cnt ls∧(iC mats ls u v).links.length = cnt ls - 1:=by
 constructor
 ·show (nL v (eC u (iT ls))).length = _
  unfold nL eC
  rw [List.length_modify,List.length_modify,mE]
 ·show (eQ (eK ls)).length = _
  rw [wV,jE]
end Go.Proofs.YtampehijkiencaaGreat

namespace Go.Proofs.YtampehijkiencaaGreat
open Go.RowKit Num
open Sy (Up Sees CallsG Seg RowC ReadIn)
theorem lX {α : Type} {x : α} {l : List α} {i : Nat} : (l ++ List.replicate i x) ++ [x] = l ++ List.replicate (i+1) x:=by rw [List.append_assoc,List.replicate_succ']
theorem tD {a : Array Value} {v : Value} {j : Nat} (hv : v.cells = #[v]) (ha : a[j]? = some v) : v.cells.size = 1∧∀ (q : Nat) u,v.cells[q]? = some u→a[j+q]? = some u:=by
 rw [hv]
 refine ⟨rfl,fun q u hq=>?_⟩
 match q with
 | 0=>simp at hq; subst hq; exact ha
 | q+1=>simp at hq
theorem mC {a : Array Value} : ∀ (q : Nat) u,(Value.agg a).cells[q]? = some u→a[0+q]? = some u:=fun q u h=>by rw [Nat.zero_add]; exact h
theorem cI {j n : Nat} (h : j < n) : decide ((0 : Int)≤(j : Int)∧((j : Int) : Int) < (n : Nat)) = true:=decide_eq_true ⟨by omega,by omega⟩
section
variable {k : World} {R : World→Value→Prop} {c2 c3 : Array Value} {u v : Rat} {mats : List PMat} {ls : List PLayer} {n0 n1 d0 d1 : Nat} {A0 A1 : Option Addr}
set_option maxHeartbeats 4000000 in
theorem aMg (hm : Lst k A0 n0 8 (MatV (NP 1) k) mats) (h20 : ∀ i,i < mats.length→(at_ mats i).cure.length≤1000∧(at_ mats i).spoil.length≤1000) (hm0 : mats.length≤1000) (hl : Lst k A1 n1 8 (LayerV (NP 1) k) ls) (hu : RatV k c2 u 1) (hv : RatV k c3 v 1)
 (C : ∀ k' B0 m0 e0 B1 m1 e1 B2 m2 e2,Up k k'→SecV (NP 5) k' B0 m0 B1 m1 B2 m2 (sF (eZ mats ls u v) (iC mats ls u v))→R k' (.tuple #[.agg #[.slice B0 m0 e0,.slice B1 m1 e1,.slice B2 m2 e2],.int .i64 (eZ mats ls u v)])) :
 Cl k 44 #[.slice A0 n0 d0,.slice A1 n1 d1,.agg c2,.agg c3] R:=by
 intro k0 u0
 have hN:=bQ 1
 have hM:=bQ 5
 have low : ∀ {k : World} cs q,NP 1 k cs q→NP 5 k cs q:=fun cs q h=>h.mono (by decide)
 replace hm : Lst k0 A0 n0 8 (MatV (NP 5) k0) mats:=hm.up u0 fun _ _ h=>MatV.mono low (MatV.up hN h u0)
 replace hl:=hl.up u0 fun _ _ h=>LayerV.up hN h u0
 replace hu:=hu.up u0
 replace hv:=hv.up u0
 replace C:=fun k' B0 m0 e0 B1 m1 e1 B2 m2 e2 uu=>C k' B0 m0 e0 B1 m1 e1 B2 m2 e2 (u0.trans uu)
 have en:=hl.1
 have em:=hm.1
 have bad : ∀ e : Int,eZ mats ls u v = e→e ≠ 0→∀ k',Up k0 k'→R k' (.tuple #[.agg #[.slice none 0 0,.slice none 0 0,.slice none 0 0],.int .i64 e]):=fun e he h0 k' uu=>by
  have:=C k' none 0 0 none 0 0 none 0 0 uu (by unfold sF; rw [he,if_pos h0]; exact ⟨.nil,.nil,.nil⟩)
  rwa [he] at this
 have lay : ∀ e : Int,kR ls = e→e ≠ 0→∀ k',Up k0 k'→R k' (.tuple #[.agg #[.slice none 0 0,.slice none 0 0,.slice none 0 0],.int .i64 e]):=fun e he h0=>bad e (by unfold eZ; rw [he,if_pos h0]) h0
 refine aGo hu.seg hv.seg ⟨rfl,fun h k1 u1=>lay 4 (pT (.inl (by have:=of_decide_eq_true h; omega))) (by decide) k1 u1,fun h1=>⟨rfl,fun h k1 u1=>lay 4 (pT (.inr (by have:=of_decide_eq_true h; omega))) (by decide) k1 u1,fun h24=>⟨rfl,?_⟩⟩⟩
 replace h1 : ¬ ls.length < 1:=by have:=of_decide_eq_false h1; omega
 replace h24 : ¬ 24 < ls.length:=by have:=of_decide_eq_false h24; omega
 refine ⟨fun m k vs=>∃ j : Nat,j+m = n1∧vs = [.int .i64 j]∧∀ i,i < j→¬ mK (at_ ls i),⟨n1,fun k1 u1=>⟨0,by omega,rfl,fun i hi=>by omega⟩⟩,?_⟩
 rintro m k2 vs u2 ⟨j,hj,rfl,hb⟩
 refine ⟨j,rfl,fun hlt=>?_,fun hge k8 u8=>?_⟩
 ·have hlt:=aG hlt
  obtain ⟨a,_,⟨c0,c1,rfl,q0,q1⟩,ha,hbd,hr,_⟩:=(hl.up u2 fun _ _ h=>LayerV.up hN h u2).el (i:=j) (by omega) (by decide)
  refine ⟨ha,hbd,_,_,c0,q0.seg,c1,q1.seg,hr k2 (Up.refl _),fun c k3 u3=>lay 1 (pN h1 h24 (j:=j) (by omega) (.inl (by have:=of_decide_eq_true c; omega))) (by decide) k3 (u2.trans u3),fun c=>?_⟩
  refine vE q1 (by decide) fun k5 u5=>⟨_,rfl,fun d k6 u6=>lay 1 (pN h1 h24 (j:=j) (by omega) (.inr (by simpa using d))) (by decide) k6 (u2.trans (u5.trans u6)),fun d k7 u7=>?_⟩
  refine ⟨m - 1,by omega,j+1,by omega,by rw [aF (by omega)],cF hb fun hbad=>?_⟩
  have c:=of_decide_eq_false c
  rcases hbad with hbad | hbad
  ·omega
  ·exact hbad (by simpa using d)
 have hge:=aK hge
 have hb : ∀ i,i < ls.length→¬ mK (at_ ls i):=fun i hi=>hb i (by omega)
 obtain ⟨hmn,xs,hin,hrc,hxs⟩:=hm.up u2 fun _ _ h=>MatV.up hM h u2
 refine aAc (xs:=xs) hxs.size hrc (hin.up u8) (by omega) fun k9 A5 c5 u9=>⟨A5,n0,c5,xs,rfl,rfl,?_⟩
 have v9:=u2.trans (u8.trans u9)
 replace hxs:=hxs.mono fun a v h=>MatV.up hM h (u8.trans u9)
 have hl9:=hl.up v9 fun _ _ h=>LayerV.up hN h v9
 refine ⟨fun m k vs=>∃ (j : Nat) (B0 B1 : Option Addr) (n e0 e1 : Nat) (x0 x1 : Array Value),j+m = n1∧vs = [.int .i64 j,.tuple #[.slice B0 n e0,.agg x0],.tuple #[.slice B1 n e1,.agg x1]]∧n = cnt (ls.take j)∧n≤24 ∧
  ArrV n 3 (NP 1 k) x0 (at_ (eK (ls.take j)))∧ArrV n 10 (CellV (NP 5) k) x1 (at_ (iT (ls.take j))),⟨n1,fun k1 u1=>⟨0,none,none,0,0,0,#[],#[],by omega,rfl,by simp [cnt],by omega,ArrV.empty,ArrV.empty⟩⟩,?_⟩
 rintro m k10 vs u10 ⟨j,B0,B1,n,e0,e1,x0,x1,hj,rfl,hn,hn24,h0,hc⟩
 have hs0 : ∀ {k : World},∀ a v,NP 1 k a v→Seg 3 a:=fun _ _ h=>h.seg
 have hs1 : ∀ {k : World},∀ a v,CellV (NP 5) k a v→Seg 10 a:=fun _ _ h=>CellV.seg hM h
 have hs2 : ∀ {k : World},∀ a v,MatV (NP 5) k a v→Seg 8 a:=fun _ _ h=>MatV.seg hM h
 have hs3 : ∀ {k : World},∀ a v,LinkV (NP 5) k a v→Seg 5 a:=fun _ _ h=>LinkV.seg hM h
 refine ⟨j,B0,n,e0,x0,h0.rowC hs0,B1,n,e1,x1,hc.rowC hs1,rfl,fun hlt=>?_,fun hge=>?_⟩
 ·have hlt:=aG hlt
  have hjl : j < ls.length:=by omega
  obtain ⟨a,_,⟨c0,c1,rfl,q0,q1⟩,ha,hbd,hr,_⟩:=(hl9.up u10 fun _ _ h=>LayerV.up hN h u10).el (i:=j) (by omega) (by decide)
  have hnb:=hb j hjl
  have hn1 : 1≤(at_ ls j).n:=by unfold mK at hnb; omega
  have hct:=rL hjl
  have hw : IntKind.wrap .i64 (24 - ((n : Nat) : Int)) = 24 - (n : Int):=by rw [IntKind.wrap_i64]; omega
  refine ⟨ha,hbd,_,_,c0,q0.seg,c1,q1.seg,hr k10 (Up.refl _),rfl,fun c k11 u11=>?_,fun c=>?_⟩
  ·rw [hw] at c
   have c:=of_decide_eq_true c
   exact lay 4 (xB (j:=j+1) h1 h24 hb (by omega)) (by decide) k11 (v9.trans (u10.trans u11))
  rw [hw] at c
  have c:=of_decide_eq_false c
  refine ⟨fun m k vs=>∃ (i : Nat) (B0 B1 : Option Addr) (p e0 e1 : Nat) (x0 x1 : Array Value),i+m = (at_ ls j).n.toNat∧p = n+i∧vs = [.int .i64 i,.tuple #[.slice B0 p e0,.agg x0],.tuple #[.slice B1 p e1,.agg x1]] ∧
   ArrV p 3 (NP 1 k) x0 (at_ (eK (ls.take j) ++ List.replicate i (at_ ls j).v))∧ArrV p 10 (CellV (NP 5) k) x1 (at_ (iT (ls.take j) ++ List.replicate i (lD (at_ ls j)))),
   ⟨(at_ ls j).n.toNat,fun k12 u12=>⟨0,B0,B1,n,e0,e1,x0,x1,by omega,rfl,rfl,?_,?_⟩⟩,?_⟩
  ·rw [List.replicate_zero,List.append_nil]; exact h0.mono fun _ _ h=>h.up u12
  ·rw [List.replicate_zero,List.append_nil]; exact hc.mono fun _ _ h=>CellV.up hM h u12
  ·rintro m' k12 vs u12 ⟨i,B0',B1',p,e0',e1',y0,y1,hi,rfl,rfl,g0,gc⟩
   refine ⟨i,B0',n+i,e0',y0,g0.rowC hs0,B1',n+i,e1',y1,gc.rowC hs1,rfl,fun hlt'=>?_,fun hge' k14 u14=>?_⟩
   ·have hlt':=of_decide_eq_true hlt'
    refine ⟨by simp [q0.seg.1],by decide,⟨by simp; omega,by simp; omega⟩,?_⟩
    rintro C1 _ f1 _ rfl rfl _
    refine ⟨by simp [q1.seg.1],by decide,⟨by simp; omega,by simp; omega⟩,?_⟩
    rintro C0 _ f0 _ rfl rfl _ k13 u13
    have lv : (eK (ls.take j) ++ List.replicate i (at_ ls j).v).length = n+i:=by rw [List.length_append,jE,List.length_replicate,hn]
    have lc : (iT (ls.take j) ++ List.replicate i (lD (at_ ls j))).length = n+i:=by rw [List.length_append,mE,List.length_replicate,hn]
    refine ⟨m' - 1,by omega,i+1,C0,C1,_,f0,f1,_,_,by omega,rfl,by rw [aF (by omega)]; rfl,?_,?_⟩
    ·have g:=ArrV.snoc (P:=NP 1 k13) (l:=eK (ls.take j) ++ List.replicate i (at_ ls j).v) (v:=(at_ ls j).v) (a:=c1) (by rw [lv]; exact g0.mono fun _ _ h=>h.up u13) q1.seg.1 (q1.up (u12.trans u13))
     rw [lv,lX] at g
     rw [List.append_nil]
     exact g
    ·have g:=ArrV.snoc (P:=CellV (NP 5) k13) (l:=iT (ls.take j) ++ List.replicate i (lD (at_ ls j))) (v:=lD (at_ ls j)) (a:=(Value.int .i64 (at_ ls j).m :: (c0.toList ++ ([Value.bool false,Value.slice none 0 0,Value.slice none 0 0] ++ ([Value.bool false,Value.slice none 0 0,Value.slice none 0 0] ++ [])))).toArray) (by rw [lc]; exact gc.mono fun _ _ h=>CellV.up hM h u13) (by simp [q0.seg.1]) ⟨c0,#[Value.bool false,Value.slice none 0 0,Value.slice none 0 0],#[Value.bool false,Value.slice none 0 0,Value.slice none 0 0],rfl,low _ _ (q0.up (u12.trans u13)),kE 5,kE 5⟩
     rw [lc,lX] at g
     exact g
   ·have hge':=of_decide_eq_false hge'
    have ei : i = (at_ ls j).n.toNat:=by omega
    subst ei
    refine ⟨m - 1,by omega,j+1,B0',B1',_,e0',e1',y0,y1,by omega,by rw [aF (by omega)],by rw [hct,hn],by omega,?_,?_⟩
    ·rw [tX hjl]; exact g0.mono fun _ _ h=>h.up u14
    ·rw [tG hjl]; exact gc.mono fun _ _ h=>CellV.up hM h u14
 have hge:=aK hge
 have ej : ls.take j = ls:=List.take_of_length_le (by omega)
 rw [ej] at hn h0 hc
 have hp:=aBy h1 hb
 have v10:=v9.trans u10
 have hpr : IntKind.wrap .i64 (((n : Nat) : Int) - 1) = ((n - 1 : Nat) : Int):=fY (by omega) (by omega)
 refine ⟨rfl,cI (j:=0) (by omega),cI (j:=0) (by omega),⟨by omega,by omega⟩,?_⟩
 rintro _ rfl
 rw [hpr]
 refine ⟨cI (by omega),cI (by omega),⟨by omega,by omega⟩,?_⟩
 rintro _ rfl
 have hcl:=edges hM hn (by omega) hc (low _ _ (hu.up v10)) (low _ _ (hv.up v10))
 refine ⟨fun m k vs=>∃ (j : Nat) (B : Option Addr) (e : Nat) (x : Array Value),j+1+m = n∧vs = [.int .i64 ((j+1 : Nat) : Int),.tuple #[.slice B j e,.agg x]]∧ArrV j 5 (LinkV (NP 5) k) x (at_ (eQ (eK ls))),⟨n - 1,fun k1 u1=>⟨0,none,0,#[],by omega,rfl,ArrV.empty⟩⟩,?_⟩
 rintro m' k15 vs u15 ⟨i,B,e,x,hi,rfl,hlk⟩
 refine ⟨((i+1 : Nat) : Int),B,i,e,x,hlk.rowC hs3,rfl,fun hlt=>?_,fun hge=>⟨rfl,?_⟩⟩
 ·have hlt:=of_decide_eq_true hlt
  have hpi : IntKind.wrap .i64 (((i+1 : Nat) : Int) - 1) = ((i : Nat) : Int):=by rw [fY (by omega) (by omega)]; rfl
  rw [hpi]
  replace h0:=h0.mono fun _ _ h=>h.up u15
  obtain ⟨a,ha,q0,r0⟩:=h0.read (i:=i) (by omega)
  obtain ⟨b,hb',q1,r1⟩:=h0.read (i:=i+1) (by omega)
  refine ⟨cI (by omega),a,q0.seg,r0 0 3 (.agg a) ha mC,cI (by omega),b,q1.seg,r1 0 3 (.agg b) hb' mC,?_⟩
  refine uU q0 q1 (by decide) (by decide) (by decide) (by decide) fun k17 y17 u17 w17=>⟨y17,w17.seg,rfl,?_⟩
  refine jW (q0.up u17) (q1.up u17) (by decide) (by decide) (by decide) (by decide) fun k19 y19 u19 w19=>⟨y19,w19.seg,rfl,?_⟩
  refine aJn (w17.up u19) w19 (by decide) (by decide) (by decide) (by decide) fun k21 y21 u21 w21=>⟨y21,w21.seg,rfl,by simp [w21.seg.1],by decide,⟨by simp; omega,by simp; omega⟩,?_⟩
  rintro C1 _ f1 _ rfl rfl _ k22 u22
  refine ⟨m' - 1,by omega,i+1,C1,f1,_,by omega,by rw [aF (by omega)]; rfl,?_⟩
  refine ArrV.push (a:=(Value.int .i64 (i : Int) :: (Value.int .i64 ((i+1 : Nat) : Int) :: (y21.toList ++ []))).toArray) (hlk.mono fun _ _ h=>LinkV.up hM h (u17.trans (u19.trans (u21.trans u22)))) (by simp [w21.seg.1]) ?_
  have el : at_ (eQ (eK ls)) i = ⟨i,((i+1 : Nat) : Int),at_ (eK ls) i*at_ (eK ls) (i+1) / (at_ (eK ls) i+at_ (eK ls) (i+1))⟩:=by
   unfold eQ
   have hle:=jE ls
   rw [cG (by simp; omega)]
   simp
  rw [el]
  exact ⟨y21,rfl,w21.up u22⟩
 have hge:=of_decide_eq_false hge
 have ei : i = n - 1:=by omega
 subst ei
 have v15:=v10.trans u15
 replace hxs:=hxs.mono fun a v h=>MatV.up hM h (u10.trans u15)
 refine ⟨fun m k vs=>∃ (j : Nat) (x : Array Value),j+m = n0∧vs = [.int .i64 j,.tuple #[.slice A5 n0 c5,.agg x]]∧ArrV n0 8 (MatV (NP 5) k) x (at_ mats),⟨n0,fun k1 u1=>⟨0,xs,by omega,rfl,hxs.mono fun _ _ h=>MatV.up hM h u1⟩⟩,?_⟩
 rintro m'' k23 vs u23 ⟨q,x',hq,rfl,hmt⟩
 refine ⟨q,A5,n0,c5,x',hmt.rowC hs2,rfl,fun hlt=>?_,fun hge k29 u29 r0 k30 u30 r1 k31 u31 r2=>?_⟩
 ·have hlt:=aG hlt
  have hql:=h20 q (by omega)
  have hP : ∀ (k k' : World) a (v : PRate),Up k k'→RateV (NP 5) k a v→RateV (NP 5) k' a v:=fun _ _ _ _ u h=>RateV.up hM h u
  obtain ⟨a,_,⟨A,p,z,A',p',z',c0,c1,rfl,l0,l1,g0,g1⟩,rd⟩:=hmt.read (i:=q) (by omega)
  refine ⟨cI (by omega),cI (by omega),A,p,z,rd 0 1 _ rfl (tD (j:=0) rfl rfl).2,?_⟩
  refine mM (P:=fun k=>RateV (NP 5) k) hP (by decide) pX l0 (by rw [l0.1]; omega) fun k25 D y u25 hD=>⟨D,p,y,rfl,cI (by omega),cI (by omega),⟨by omega,by omega⟩,?_⟩
  rintro _ rfl
  have hmt' : ArrV n0 8 (MatV (NP 5) k25) (Sy.over x' (Int.toNat (q : Int)*8+0) [Value.slice D p y]) (at_ mats):=by
   refine ArrV.part (i:=q) (hmt.mono fun _ _ h=>MatV.up hM h u25) (by omega) (by simp) (fun a _ ha=>?_) fun _ _ _=>rfl
   obtain ⟨A,p,z,A',p',z',c0,c1,rfl,l0,l1,g0,g1⟩:=ha
   exact ⟨D,_,y,A',p',z',c0,c1,by simp [Sy.over],hD,l1,g0,g1⟩
  obtain ⟨a2,_,⟨E,w,t,E',w',t',b0,b1,rfl,l0',l1',g0',g1'⟩,rd'⟩:=hmt'.read (i:=q) (by omega)
  refine ⟨cI (by omega),cI (by omega),E',w',t',rd' 1 1 _ rfl (tD (j:=1) rfl rfl).2,?_⟩
  refine mM (P:=fun k=>RateV (NP 5) k) hP (by decide) pX l1' (by rw [l1'.1]; omega) fun k27 D' y' u27 hD'=>⟨D',w',y',rfl,cI (by omega),cI (by omega),⟨by omega,by omega⟩,?_⟩
  rintro _ rfl k28 u28
  refine ⟨m'' - 1,by omega,q+1,_,by omega,by rw [aF (by omega)],?_⟩
  refine ArrV.part (i:=q) (hmt'.mono fun _ _ h=>MatV.up hM h (u27.trans u28)) (by omega) (by simp) (fun a _ ha=>?_) fun _ _ _=>rfl
  obtain ⟨A,p,z,A',p',z',c0,c1,rfl,l0,l1,g0,g1⟩:=ha
  exact ⟨A,p,z,D',_,y',c0,c1,by simp [Sy.over],l0,hD'.up u28 fun _ _ h=>RateV.up hM h u28,g0,g1⟩
 have v31:=u23.trans (u29.trans (u30.trans u31))
 have hlens:=nP mats ls u v
 have hsec : SecV (NP 5) k31 A5 n0 B1 n B (n - 1) (iC mats ls u v):=⟨⟨em,(hmt.mono fun _ _ h=>MatV.up hM h (u29.trans (u30.trans u31))).els hs2 (dO r0 (u30.trans u31))⟩,
  ⟨by rw [hlens.1,hn],(hcl.mono fun _ _ h=>CellV.up hM h (u15.trans v31)).els hs1 (dO r1 u31)⟩,⟨by rw [hlens.2,hn],(hlk.mono fun _ _ h=>LinkV.up hM h v31).els hs3 r2⟩⟩
 have hL : kR ls = 0:=aJw h1 h24 hb (by omega)
 have hS : eZ mats ls u v = bM (iC mats ls u v):=by unfold eZ; rw [if_neg (by simp [hL])]
 refine qF hsec (by decide) (by decide) fun k33 u33=>⟨_,rfl,fun f k34 u34=>?_,fun f k35 u35=>?_⟩
 ·exact bad _ hS (by have:=fH f; exact this) k34 (v15.trans (v31.trans (u33.trans u34)))
 ·have f:=cS f
  have:=C k35 A5 n0 c5 B1 n e1 B (n - 1) e (v15.trans (v31.trans (u33.trans u35))) (by rw [aCd (hS.trans f)]; exact SecV.up hM hsec (u33.trans u35))
  rwa [hS.trans f] at this
end
end Go.Proofs.YtampehijkiencaaGreat

namespace Go.Proofs.YtampehijkiencaaGreat
open Go.RowKit Num W32
open Sy (Up Sees CallsG Seg)
abbrev NR (K : Nat) : World→Array Value→Rat→Prop:=fun k cs q=>QV k cs q K
theorem gP {q : Rat} : decide ((q.num.sign : Int)≤0) = decide (¬ 0 < q):=by
 refine decide_eq_decide.2 ?_
 rw [← aIh]
 rcases Int.lt_trichotomy q.num 0 with h | h | h
 ·rw [Int.sign_eq_neg_one_of_neg h]; omega
 ·rw [h]; decide
 ·rw [Int.sign_eq_one_of_pos h]; omega
theorem pC {x y : Rat} : 0 < x - y↔y < x:=by
 constructor <;> intro h <;> grind
theorem aJj {x y : Rat} : decide (((x - y).num.sign : Int)≤0) = decide (¬ y < x):=by rw [gP]; exact decide_eq_decide.2 (not_congr pC)
theorem aIv {x y : Rat} : decide (((x - y).num.sign : Int) > 0) = decide (y < x):=by rw [vV]; exact decide_eq_decide.2 pC
section
variable {k k' : World} {R : World→Value→Prop} {cs cs' : Array Value} {x y : Rat} {K L n c n0 n1 n2 d0 d1 d2 : Nat} {A A0 A1 A2 : Option Addr} {s : PSec}
theorem aBl {l : List PRate} (hl : Lst k A n 6 (RateV (NR K) k) l) (hK : K≤1000000) (C : ∀ k',Up k k'→R k' (.int .i64 (cL l))) :
 Cl k 61 #[.slice A n c] R:=by
 intro k0 u0
 have hN:=mX K
 replace hl:=aW hN hl u0
 replace C:=fun k' u=>C k' (u0.trans u)
 have hn:=hl.1
 refine aDs ⟨rfl,fun h k1 u1=>?_,fun h1=>⟨rfl,fun h k1 u1=>?_,fun h2=>?_⟩⟩
 ·have:=C k1 u1
  unfold cL at this
  rwa [if_pos (by simp at h; omega)] at this
 ·have:=C k1 u1
  unfold cL at this
  rwa [if_pos (by have:=of_decide_eq_true h; omega)] at this
 ·have h1 : n ≠ 0:=by simp at h1; omega
  have h2:=of_decide_eq_false h2
  have hE:=sX (l:=l) (by omega) (by omega)
  rw [hE] at C
  refine ⟨fun m k vs=>∃ j : Nat,j+m = n∧vs = [.int .i64 j]∧∀ i,i < j→dH l i = 0,⟨n,fun k1 u1=>⟨0,by omega,rfl,fun i hi=>by omega⟩⟩,?_⟩
  rintro m k1 vs u1 ⟨j,hj,rfl,hz⟩
  have succ : dH l j = 0→∀ i,i < j+1→dH l i = 0:=fun h i hi=>by
   by_cases e : i = j
   ·rw [e]; exact h
   ·exact hz i (by omega)
  refine ⟨j,rfl,rfl,fun hlt=>?_,fun hge k2 u2=>?_⟩
  ·have hlt:=aG hlt
   have hl1:=aW hN hl u1
   obtain ⟨a,_,⟨c0,c1,rfl,h0,h3⟩,ha,hb,_,hr⟩:=hl1.el (i:=j) (by omega) (by decide)
   have stop : ∀ (e : Int),e ≠ 0→dH l j = e→∀ k',Up k1 k'→R k' (.int .i64 e):=fun e he h k' u=>by
    have:=C k' (u1.trans u)
    rwa [dZ hz h he (by omega)] at this
   have go : dH l j = 0→∃ m',m' < m∧∃ j' : Nat,j'+m' = n∧[Value.int .i64 (IntKind.wrap .i64 ((j : Int)+1))] = [.int .i64 j']∧∀ i,i < j'→dH l i = 0:=fun h=>⟨m - 1,by omega,j+1,by omega,by rw [aF (by omega)],succ h⟩
   refine ⟨fun hp=>?_,fun hp=>?_⟩
   ·have hp:=of_decide_eq_true hp
    have hp : 0 < j:=by omega
    rw [fY hp (by omega)]
    obtain ⟨a',_,⟨d0,d1,rfl,g0,g1⟩,ha',hb',_,hr'⟩:=hl1.el (i:=j - 1) (by omega) (by decide)
    refine ⟨ha,hb,ha,hb,c0,h0.seg,hr k1 c0 0 3 (Up.refl _) h0.seg.1 (fun q u h=>by rw [Nat.zero_add]; exact gK h),ha',hb',ha',hb',d0,g0.seg,hr' k1 d0 0 3 (Up.refl _) g0.seg.1 (fun q u h=>by rw [Nat.zero_add]; exact gK h),?_⟩
    refine aJe h0 g0 (by omega) fun k3 u3=>⟨_,rfl,fun hf=>?_,fun hf=>?_⟩
    ·rw [aJj] at hf
     intro k5 u5
     exact stop 7 (by decide) (by unfold dH; rw [if_pos ⟨hp,of_decide_eq_true hf⟩]) k5 (u3.trans u5)
    ·rw [aJj] at hf
     have hf : ¬ ¬ (at_ l (j - 1)).f < (at_ l j).f:=of_decide_eq_false hf
     refine ⟨ha,hb,ha,hb,c1,h3.seg,hr k3 c1 3 3 u3 h3.seg.1 (fun q u h=>kY h0.seg.1 (gK h)),?_⟩
     refine iM (h3.up u3) fun k6 u6=>⟨_,rfl,fun hv=>?_,fun hv=>⟨fun _=>⟨ha,hb,ha,hb,c1,h3.seg,hr k6 c1 3 3 (u3.trans u6) h3.seg.1 (fun q u h=>kY h0.seg.1 (gK h)),ha',hb',ha',hb',d1,g1.seg,hr' k6 d1 3 3 (u3.trans u6) g1.seg.1 (fun q u h=>kY g0.seg.1 (gK h)),?_⟩,fun h=>?_⟩⟩
     ·rw [cY] at hv
      intro k8 u8
      exact stop 1 (by decide) (by unfold dH; rw [if_neg (by rintro ⟨_,h⟩; exact hf h),if_pos (of_decide_eq_true hv)]) k8 ((u3.trans u6).trans u8)
     ·rw [cY] at hv
      refine aJe ((h3.up u3).up u6) ((g1.up u3).up u6) (by omega) fun k9 u9=>⟨_,rfl,fun hw=>?_,fun hw=>?_⟩
      ·rw [qJ] at hw
       intro k11 u11
       exact stop 7 (by decide) (by unfold dH; rw [if_neg (by rintro ⟨_,h⟩; exact hf h),if_neg (of_decide_eq_false hv),if_pos ⟨hp,of_decide_eq_true hw⟩]) k11 (((u3.trans u6).trans u9).trans u11)
      ·rw [qJ] at hw
       intro k12 u12
       exact go (by unfold dH; rw [if_neg (by rintro ⟨_,h⟩; exact hf h),if_neg (of_decide_eq_false hv),if_neg (by rintro ⟨_,h⟩; exact of_decide_eq_false hw h)])
     ·have:=of_decide_eq_false h; omega
   ·have hp:=of_decide_eq_false hp
    have hp : j = 0:=by omega
    refine ⟨ha,hb,ha,hb,c1,h3.seg,hr k1 c1 3 3 (Up.refl _) h3.seg.1 (fun q u h=>kY h0.seg.1 (gK h)),?_⟩
    refine iM h3 fun k6 u6=>⟨_,rfl,fun hv=>?_,fun hv=>⟨fun h=>?_,fun _=>?_⟩⟩
    ·rw [cY] at hv
     intro k8 u8
     exact stop 1 (by decide) (by unfold dH; rw [if_neg (by omega),if_pos (of_decide_eq_true hv)]) k8 (u6.trans u8)
    ·have:=of_decide_eq_true h; omega
    ·rw [cY] at hv
     intro k12 u12
     exact go (by unfold dH; rw [if_neg (by omega),if_neg (of_decide_eq_false hv),if_neg (by omega)])
  ·have hge:=aK hge
   have:=C k2 (u1.trans u2)
   rwa [cN fun i hi=>hz i (by omega)] at this
theorem qB {i j : Int} (C : ∀ k',Up k k'→R k' (.bool (decide (0≤i∧i < j)))) : Cl k 71 #[.int .i64 i,.int .i64 j] R:=by
 intro k0 u0
 refine aAa ⟨fun h k1 u1=>?_,fun h k1 u1=>?_⟩
 ·have:=C k1 (u0.trans u1)
  have h:=of_decide_eq_true h
  rwa [show decide (0≤i∧i < j) = decide (i < j) from decide_eq_decide.2 ⟨fun g=>g.2,fun g=>⟨h,g⟩⟩] at this
 ·have:=C k1 (u0.trans u1)
  have h:=of_decide_eq_false h
  rwa [show decide (0≤i∧i < j) = false from decide_eq_false fun g=>h g.1] at this
end
end Go.Proofs.YtampehijkiencaaGreat

namespace Go.Proofs.YtampehijkiencaaGreat
open Go.RowKit Num W32
open Sy (Up Sees CallsG Seg ReadAt)
section
variable {α : Type} [Inhabited α] {k : World} {A : Option Addr} {n s i : Nat} {P : Array Value→α→Prop} {l : List α}
theorem Lst.elx (h : Lst k A n s P l) (hi : i < l.length) (hs : 0 < s) : ∃ a : Array Value,a.size = s∧P a (at_ l i)∧(∃ b o,A = some ⟨b,o,none⟩)∧((0 : Int)≤(i : Int)∧((i : Int) : Int) < (n : Nat)) ∧
 (∀ k',Up k k'→ReadAt k'.cell? A (Int.toNat (i : Int)*s+0) s (.agg a)) ∧
 (∀ k' (c : Array Value) j m,Up k k'→c.size = m→(∀ (q : Nat) u,c[q]? = some u→a[j+q]? = some u)→ReadAt k'.cell? A (Int.toNat (i : Int)*s+j) m (.agg c)) ∧
 ∀ k' j z,Up k k'→a[j]? = some (.int .i64 z)→ReadAt k'.cell? A (Int.toNat (i : Int)*s+j) 1 (.int .i64 z):=by
 obtain ⟨a,h1,h2,h3,h4⟩:=h.2.el (i:=i) (by rw [h.1]; exact hi) hs
 refine ⟨a,h1,h2,h3,⟨by omega,by have:=h.1; omega⟩,fun k' u=>h4 k' u 0 s (.agg a) h1 fun q v hv=>by rw [Nat.zero_add]; exact hv,fun k' c j m u hc hq=>h4 k' u j m (.agg c) hc hq,fun k' j z u hz=>h4 k' u j 1 (.int .i64 z) rfl fun q v hv=>?_⟩
 match q,hv with
 | 0,hv =>
  have : v = .int .i64 z:=by
   have e : (Value.int .i64 z).cells = #[.int .i64 z]:=rfl
   rw [e] at hv
   simpa using hv.symm
  rw [this]; exact hz
 | q+1,hv =>
  have e : (Value.int .i64 z).cells = #[.int .i64 z]:=rfl
  rw [e] at hv
  simp at hv
end
theorem aHa {L : List PLink} {j : Nat} (h : j < L.length) (i : Int) : nbm (L.take (j+1)) i = nbm (L.take j) i ++ ((if (at_ L j).a = i then [at_ L j] else []) ++ (if (at_ L j).b = i then [at_ L j] else [])):=by
 unfold nbm
 rw [List.take_succ_eq_append_getElem h,List.flatMap_append,cG h]; simp
theorem aIl {L : List PLink} {j : Nat} (h : j < L.length) (i : Int) (t : Rat) (hne : (at_ L j).a ≠ (at_ L j).b) :
 tot (L.take (j+1)) i t = if (at_ L j).a = i∨(at_ L j).b = i then tot (L.take j) i t+(at_ L j).v else tot (L.take j) i t:=by
 unfold tot
 rw [aHa h,List.foldl_append]
 by_cases h1 : (at_ L j).a = i
 ·have h2 : (at_ L j).b ≠ i:=fun e=>hne (by rw [h1,e])
  simp [h1,h2]
 ·by_cases h2 : (at_ L j).b = i <;> simp [h1,h2]
theorem aJo {b : Bool} (h : (!b) = true) : b = false:=by simpa using h
theorem aBx {b : Bool} (h : (!b) = false) : b = true:=by simpa using h
theorem jT {x y : Int} (h : (x == y) = true) : x = y:=by simpa using h
theorem iA {x y : Int} (h : (x == y) = false) : x ≠ y:=by simpa using h
theorem vT {L : List PLink} {x : PLink} : ∀ {i : Nat},((List.range i).any (fun k=>pair x (at_ L k)) = true)↔∃ k,k < i∧pair x (at_ L k) = true:=by
 intro i
 rw [List.any_eq_true]
 constructor
 ·rintro ⟨k,hk,h⟩; exact ⟨k,by simpa using hk,h⟩
 ·rintro ⟨k,hk,h⟩; exact ⟨k,by simpa using hk,h⟩
section
variable {k k' : World} {R : World→Value→Prop} {cs cs' : Array Value} {s : PSec} {K n0 n1 n2 d0 d1 d2 : Nat} {A0 A1 A2 : Option Addr}
theorem aLn (hs : SecV (NR K) k A0 n0 A1 n1 A2 n2 s) (hne : ∀ i,i < s.links.length→(at_ s.links i).a ≠ (at_ s.links i).b) {i : Nat} (hi : i < s.cells.length) (hn : s.links.length≤64) (hK : K≤1000000)
 (C : ∀ k' ds,Up k k'→QV k' ds (tot s.links i ((at_ s.cells i).steam+(at_ s.cells i).air)) (2*K+1+64*(K+1))→R k' (.agg ds)) :
 Cl k 73 #[.agg #[.slice A0 n0 d0,.slice A1 n1 d1,.slice A2 n2 d2],.int .i64 i] R:=by
 intro k0 u0
 have hN:=mX K
 replace hs:=SecV.up hN hs u0
 replace C:=fun k' ds u=>C k' ds (u0.trans u)
 have e2:=hs.links.1
 obtain ⟨a,_,⟨c0,c1,c2,rfl,q0,q1,q2⟩,ha,hb,_,hr,_⟩:=hs.cells.elx hi (by decide)
 refine aCf ⟨ha,hb,ha,hb,c1,q1.seg,hr k0 c1 4 3 (Up.refl _) q1.seg.1 (fun q u h=>?_),ha,hb,ha,hb,c2,q2.seg,hr k0 c2 7 3 (Up.refl _) q2.seg.1 (fun q u h=>?_),?_⟩
 ·exact fZ (d:=3) (kY q0.seg.1 (gK h))
 ·have t:=kY (c:=c0) q0.seg.1 (kY (c:=c1) q1.seg.1 (gK (l:=[]) h))
  rw [show 3+(3+q) = 6+q by omega] at t
  exact fZ (d:=6) t
 ·refine aBu q1 q2 (by omega) fun k1 ds u1 hd=>⟨ds,hd.seg,rfl,?_⟩
  refine ⟨fun m k vs=>∃ (j : Nat) (ds : Array Value),j+m = n2∧vs = [.int .i64 j,.agg ds]∧QV k ds (tot (s.links.take j) i ((at_ s.cells i).steam+(at_ s.cells i).air)) (2*K+1+j*(K+1)),⟨n2,fun k2 u2=>⟨0,ds,by omega,rfl,(hd.up u2).mono (by omega)⟩⟩,?_⟩
  rintro m k2 vs u2 ⟨j,es,hj,rfl,he⟩
  have hmul : j*(K+1)≤64*(K+1):=Nat.mul_le_mul_right _ (by omega)
  have hsucc : (j+1)*(K+1) = j*(K+1)+(K+1):=Nat.succ_mul _ _
  refine ⟨j,es,he.seg,rfl,rfl,fun hlt=>?_,fun hge k10 u10=>?_⟩
  ·have hlt:=aG hlt
   have hjl : j < s.links.length:=by omega
   obtain ⟨a,_,⟨c3,rfl,g3⟩,ha,hb,_,hr,hr1⟩:=(SecV.up hN hs (u1.trans u2)).links.elx (i:=j) hjl (by decide)
   have g4 : ∀ k',Up k2 k'→ReadAt k'.cell? A2 (Int.toNat (j : Int)*5+2) 3 (.agg c3):=fun k' u=>hr k' c3 2 3 u g3.seg.1 fun q u h=>fZ (d:=1) (fZ (d:=0) (by rw [Nat.zero_add]; exact gK h))
   have ht:=aIl hjl (i : Int) ((at_ s.cells i).steam+(at_ s.cells i).air) (hne j hjl)
   have done : ∀ k' fs,QV k' fs (tot (s.links.take j) i ((at_ s.cells i).steam+(at_ s.cells i).air)+(at_ s.links j).v) (2*K+1+j*(K+1)+K+1)→((at_ s.links j).a = i∨(at_ s.links j).b = i)→QV k' fs (tot (s.links.take (j+1)) i ((at_ s.cells i).steam+(at_ s.cells i).air)) (2*K+1+(j+1)*(K+1)):=fun k' fs h g=>by
    rw [ht,if_pos g]; exact h.mono (by omega)
   refine ⟨ha,hb,ha,hb,_,hr1 k2 0 _ (Up.refl _) rfl,fun f=>?_,fun f=>⟨ha,hb,ha,hb,_,hr1 k2 1 _ (Up.refl _) rfl,fun g=>?_,fun g k9 u9=>?_⟩⟩
   ·refine ⟨ha,hb,ha,hb,c3,g3.seg,g4 k2 (Up.refl _),aBu he g3 (by omega) fun k4 fs u4 hf=>⟨fs,hf.seg,rfl,fun k5 u5=>⟨m - 1,by omega,j+1,fs,by omega,by rw [aF (by omega)],?_⟩⟩⟩
    exact (done k4 fs hf (.inl (jT f))).up u5
   ·refine ⟨ha,hb,ha,hb,c3,g3.seg,g4 k2 (Up.refl _),aBu he g3 (by omega) fun k4 fs u4 hf=>⟨fs,hf.seg,rfl,fun k5 u5=>⟨m - 1,by omega,j+1,fs,by omega,by rw [aF (by omega)],?_⟩⟩⟩
    exact (done k4 fs hf (.inr (jT g))).up u5
   ·refine ⟨m - 1,by omega,j+1,es,by omega,by rw [aF (by omega)],?_⟩
    rw [ht,if_neg (by rintro (h | h); exact iA f h; exact iA g h)]
    exact (he.up u9).mono (by omega)
  ·have hge:=aK hge
   rw [List.take_of_length_le (by omega)] at he
   exact C k10 es ((u1.trans u2).trans u10) ((he.up u10).mono (by omega))
theorem aLc (hs : SecV (NR K) k A0 n0 A1 n1 A2 n2 s) (hK : K≤1000000) (C : ∀ k',Up k k'→R k' (.int .i64 (bM s))) :
 Cl k 30 #[.agg #[.slice A0 n0 d0,.slice A1 n1 d1,.slice A2 n2 d2]] R:=by
 intro k0 u0
 have hN:=mX K
 replace hs:=SecV.up hN hs u0
 replace C:=fun k' u=>C k' (u0.trans u)
 have e0:=hs.mats.1
 have e1:=hs.cells.1
 have e2:=hs.links.1
 have big : cO s→∀ k',Up k0 k'→R k' (.int .i64 4):=fun h k' u=>by
  have:=C k' u
  unfold bM at this
  rwa [if_pos h] at this
 refine aCj ⟨rfl,fun a=>big ?_,fun a1=>⟨rfl,fun a=>big ?_,fun a2=>⟨rfl,fun a=>big ?_,fun a3=>⟨rfl,fun a=>big ?_,fun a4=>⟨rfl,fun a=>big ?_,fun a5=>?_⟩⟩⟩⟩⟩
 ·have:=jT a; unfold cO; omega
 ·have:=of_decide_eq_true a; unfold cO; omega
 ·have:=jT a; unfold cO; omega
 ·have:=of_decide_eq_true a; unfold cO; omega
 ·have:=of_decide_eq_true a; unfold cO; omega
 replace a1:=iA a1
 replace a2:=of_decide_eq_false a2
 replace a3:=iA a3
 replace a4:=of_decide_eq_false a4
 replace a5:=of_decide_eq_false a5
 have hsz : ¬ cO s:=by unfold cO; omega
 clear big
 unfold bM at C
 rw [if_neg hsz] at C
 refine ⟨fun m k vs=>∃ j : Nat,j+m = n0∧vs = [.int .i64 j]∧∀ i,i < j→mP (at_ s.mats i) = 0,⟨n0,fun k1 u1=>⟨0,by omega,rfl,fun i hi=>by omega⟩⟩,?_⟩
 rintro m k1 vs u1 ⟨j,hj,rfl,hz⟩
 refine ⟨j,rfl,rfl,fun hlt=>?_,fun hge=>?_⟩
 ·have hlt:=aG hlt
  obtain ⟨a,_,⟨B,p,q,D,p',q',c0,c1,rfl,l0,l1,g0,g1⟩,ha,hb,hr,_⟩:=(SecV.up hN hs u1).mats.elx (i:=j) (by omega) (by decide)
  have stop : ∀ e : Int,e ≠ 0→mP (at_ s.mats j) = e→∀ k',Up k1 k'→R k' (.int .i64 e):=fun e he h k' u=>by
   have:=C k' (u1.trans u)
   have e3 : lE s = e:=by unfold lE; exact dZ hz h he (by omega)
   rwa [if_pos (by rw [e3]; exact he),e3] at this
  refine ⟨ha,hb,B,p,q,D,p',q',c0,g0.seg,c1,g1.seg,hr k1 (Up.refl _),aBl l0 hK fun k2 u2=>⟨_,rfl,fun f k3 u3=>?_,fun f=>aBl (aW hN l1 u2) hK fun k4 u4=>⟨_,rfl,fun g k5 u5=>?_,fun g=>?_⟩⟩⟩
  ·exact stop _ (fH f) (by unfold mP; rw [if_pos (fH f)]) k3 (u2.trans u3)
  ·exact stop _ (fH g) (by unfold mP; rw [if_neg (by simp [cS f]),if_pos (fH g)]) k5 ((u2.trans u4).trans u5)
  ·refine iM ((g0.up u2).up u4) fun k6 u6=>⟨_,rfl,fun p k7 u7=>?_,fun p=>iM (((g1.up u2).up u4).up u6) fun k8 u8=>⟨_,rfl,fun q k9 u9=>?_,fun q k9 u9=>?_⟩⟩
   ·rw [gP] at p
    exact stop 1 (by decide) (by unfold mP; rw [if_neg (by simp [cS f]),if_neg (by simp [cS g]),if_pos (.inl (of_decide_eq_true p))]) k7 (((u2.trans u4).trans u6).trans u7)
   ·rw [gP] at q
    exact stop 1 (by decide) (by unfold mP; rw [if_neg (by simp [cS f]),if_neg (by simp [cS g]),if_pos (.inr (of_decide_eq_true q))]) k9 ((((u2.trans u4).trans u6).trans u8).trans u9)
   ·rw [gP] at p q
    have hm : mP (at_ s.mats j) = 0:=by
     unfold mP
     rw [if_neg (by simp [cS f]),if_neg (by simp [cS g]),if_neg (by rintro (h | h); exact of_decide_eq_false p h; exact of_decide_eq_false q h)]
    exact ⟨m - 1,by omega,j+1,by omega,by rw [aF (by omega)],cF hz hm⟩
 have hge:=aK hge
 have hM : lE s = 0:=cN fun i hi=>hz i (by omega)
 rw [if_neg (by simp [hM])] at C
 replace C:=fun k' u=>C k' (u1.trans u)
 replace hs:=SecV.up hN hs u1
 clear hz hj hge u1
 refine ⟨fun m k vs=>∃ j : Nat,j+m = n1∧vs = [.int .i64 j]∧∀ i,i < j→jY s.mats.length (at_ s.cells i) = 0,⟨n1,fun k1 u1=>⟨0,by omega,rfl,fun i hi=>by omega⟩⟩,?_⟩
 rintro m k2 vs u2 ⟨j,hj,rfl,hz⟩
 refine ⟨j,rfl,rfl,fun hlt=>?_,fun hge=>?_⟩
 ·have hlt:=aG hlt
  obtain ⟨a,_,⟨c0,c1,c2,rfl,g0,g1,g2⟩,ha,hb,hr,_⟩:=(SecV.up hN hs u2).cells.elx (i:=j) (by omega) (by decide)
  have stop : (at_ s.cells j).m < 0∨(s.mats.length : Int)≤(at_ s.cells j).m∨¬ 0 < (at_ s.cells j).cap∨(at_ s.cells j).steam < 0∨(at_ s.cells j).air < 0→∀ k',Up k2 k'→R k' (.int .i64 1):=fun h k' u=>by
   have:=C k' (u2.trans u)
   have e3 : iY s = 1:=by unfold iY; exact dZ hz (by unfold jY; rw [if_pos h]) (by decide) (by omega)
   rwa [if_pos (by rw [e3]; decide),e3] at this
  refine ⟨ha,hb,_,c0,g0.seg,c1,g1.seg,c2,g2.seg,hr k2 (Up.refl _),rfl,qB fun k3 u3=>⟨_,rfl,fun f k4 u4=>?_,fun f=>?_⟩⟩
  ·refine stop ?_ k4 (u3.trans u4)
   have f : ¬ (0≤(at_ s.cells j).m∧(at_ s.cells j).m < (n0 : Nat)):=of_decide_eq_false (aJo f)
   omega
  ·have f : 0≤(at_ s.cells j).m∧(at_ s.cells j).m < (n0 : Nat):=of_decide_eq_true (aBx f)
   refine iM (g0.up u3) fun k4 u4=>⟨_,rfl,fun p k5 u5=>?_,fun p=>iM ((g1.up u3).up u4) fun k6 u6=>⟨_,rfl,fun q k7 u7=>?_,fun q=>iM (((g2.up u3).up u4).up u6) fun k8 u8=>⟨_,rfl,fun r k9 u9=>?_,fun r k9 u9=>?_⟩⟩⟩
   ·rw [gP] at p
    exact stop (.inr (.inr (.inl (of_decide_eq_true p)))) k5 ((u3.trans u4).trans u5)
   ·rw [cY] at q
    exact stop (.inr (.inr (.inr (.inl (of_decide_eq_true q))))) k7 (((u3.trans u4).trans u6).trans u7)
   ·rw [cY] at r
    exact stop (.inr (.inr (.inr (.inr (of_decide_eq_true r))))) k9 ((((u3.trans u4).trans u6).trans u8).trans u9)
   ·rw [gP] at p
    rw [cY] at q r
    have hc : jY s.mats.length (at_ s.cells j) = 0:=by
     unfold jY
     rw [if_neg]
     rintro (h | h | h | h | h)
     ·omega
     ·omega
     ·exact of_decide_eq_false p h
     ·exact of_decide_eq_false q h
     ·exact of_decide_eq_false r h
    exact ⟨m - 1,by omega,j+1,by omega,by rw [aF (by omega)],cF hz hc⟩
 have hge:=aK hge
 have hC : iY s = 0:=cN fun i hi=>hz i (by omega)
 rw [if_neg (by simp [hC])] at C
 replace C:=fun k' u=>C k' (u2.trans u)
 replace hs:=SecV.up hN hs u2
 clear hz hj hge u2
 refine ⟨fun m k vs=>∃ j : Nat,j+m = n2∧vs = [.int .i64 j]∧∀ i,i < j→gG s.cells.length s.links i = 0,⟨n2,fun k1 u1=>⟨0,by omega,rfl,fun i hi=>by omega⟩⟩,?_⟩
 rintro m k3 vs u3 ⟨j,hj,rfl,hz⟩
 refine ⟨j,rfl,rfl,fun hlt=>?_,fun hge=>?_⟩
 ·have hlt:=aG hlt
  obtain ⟨a,_,⟨c0,rfl,g0⟩,ha,hb,hr,_⟩:=(SecV.up hN hs u3).links.elx (i:=j) (by omega) (by decide)
  have stop : ∀ e : Int,e ≠ 0→gG s.cells.length s.links j = e→∀ k',Up k3 k'→R k' (.int .i64 e):=fun e he h k' u=>by
   have:=C k' (u3.trans u)
   have e3 : eL s.cells.length s.links = e:=dZ hz h he (by omega)
   rwa [if_pos (by rw [e3]; exact he),e3] at this
  refine ⟨ha,hb,_,_,c0,g0.seg,hr k3 (Up.refl _),rfl,qB fun k4 u4=>⟨_,rfl,fun f k5 u5=>?_,fun f=>⟨rfl,qB fun k6 u6=>⟨_,rfl,fun g k7 u7=>?_,fun g=>⟨fun h k7 u7=>?_,fun h=>iM ((g0.up u4).up u6) fun k8 u8=>⟨_,rfl,fun p k9 u9=>?_,fun p=>?_⟩⟩⟩⟩⟩⟩
  ·have f : ¬ (0≤(at_ s.links j).a∧(at_ s.links j).a < (n1 : Nat)):=of_decide_eq_false (aJo f)
   exact stop 1 (by decide) (dS (.inl (by rw [← e1]; exact f))) k5 (u4.trans u5)
  ·have g : ¬ (0≤(at_ s.links j).b∧(at_ s.links j).b < (n1 : Nat)):=of_decide_eq_false (aJo g)
   exact stop 1 (by decide) (dS (.inr (.inl (by rw [← e1]; exact g)))) k7 ((u4.trans u6).trans u7)
  ·exact stop 1 (by decide) (dS (.inr (.inr (.inl (jT h))))) k7 ((u4.trans u6).trans u7)
  ·rw [cY] at p
   exact stop 1 (by decide) (dS (.inr (.inr (.inr (of_decide_eq_true p))))) k9 (((u4.trans u6).trans u8).trans u9)
  ·rw [cY] at p
   have f : 0≤(at_ s.links j).a∧(at_ s.links j).a < (n1 : Nat):=of_decide_eq_true (aBx f)
   have g : 0≤(at_ s.links j).b∧(at_ s.links j).b < (n1 : Nat):=of_decide_eq_true (aBx g)
   have hno : ¬ (¬ (0≤(at_ s.links j).a∧(at_ s.links j).a < s.cells.length)∨¬ (0≤(at_ s.links j).b∧(at_ s.links j).b < s.cells.length)∨(at_ s.links j).a = (at_ s.links j).b∨(at_ s.links j).v < 0):=by
    rw [← e1]
    rintro (t | t | t | t)
    ·exact t f
    ·exact t g
    ·exact iA h t
    ·exact of_decide_eq_false p t
   refine ⟨fun m k vs=>∃ i : Nat,i+m = j∧vs = [.int .i64 i]∧∀ q,q < i→pair (at_ s.links j) (at_ s.links q) = false,⟨j,fun k1 u1=>⟨0,by omega,rfl,fun q hq=>by omega⟩⟩,?_⟩
   rintro m' k10 vs u10 ⟨i,hi,rfl,hp⟩
   refine ⟨i,rfl,fun hlt'=>?_,fun hge' k11 u11=>?_⟩
   ·have hlt':=aG hlt'
    have v10:=((u4.trans u6).trans u8).trans u10
    obtain ⟨a,_,⟨c1,rfl,g1⟩,ha,hb,hr,_⟩:=(SecV.up hN hs (u3.trans v10)).links.elx (i:=i) (by omega) (by decide)
    have twice : pair (at_ s.links j) (at_ s.links i) = true→∀ k',Up k10 k'→R k' (.int .i64 8):=fun t k' u=>by
     refine stop 8 (by decide) ?_ k' (v10.trans u)
     unfold gG
     rw [if_neg hno,if_pos (vT.2 ⟨i,by omega,t⟩)]
    have next : pair (at_ s.links j) (at_ s.links i) = false→∃ m'',m'' < m'∧∃ i' : Nat,i'+m'' = j∧[Value.int .i64 (IntKind.wrap .i64 ((i : Int)+1))] = [.int .i64 i']∧∀ q,q < i'→pair (at_ s.links j) (at_ s.links q) = false:=fun t=>⟨m' - 1,by omega,i+1,by omega,by rw [aF (by omega)],cF hp t⟩
    have pt : ((at_ s.links i).a = (at_ s.links j).a∧(at_ s.links i).b = (at_ s.links j).b∨(at_ s.links i).a = (at_ s.links j).b∧(at_ s.links i).b = (at_ s.links j).a)→pair (at_ s.links j) (at_ s.links i) = true:=fun t=>decide_eq_true t
    have pf : ¬ ((at_ s.links i).a = (at_ s.links j).a∧(at_ s.links i).b = (at_ s.links j).b∨(at_ s.links i).a = (at_ s.links j).b∧(at_ s.links i).b = (at_ s.links j).a)→pair (at_ s.links j) (at_ s.links i) = false:=fun t=>decide_eq_false t
    refine ⟨ha,hb,_,_,c1,g1.seg,hr k10 (Up.refl _),fun t1=>⟨fun t2=>twice (pt (.inl ⟨jT t1,jT t2⟩)),fun t2=>⟨fun t3=>⟨fun t4=>twice (pt (.inr ⟨jT t3,jT t4⟩)),fun t4 k' u=>next (pf ?_)⟩,fun t3 k' u=>next (pf ?_)⟩⟩,fun t1=>⟨fun t3=>⟨fun t4=>twice (pt (.inr ⟨jT t3,jT t4⟩)),fun t4 k' u=>next (pf ?_)⟩,fun t3 k' u=>next (pf ?_)⟩⟩
    ·rintro (⟨_,t⟩ | ⟨_,t⟩)
     ·exact iA t2 t
     ·exact iA t4 t
    ·rintro (⟨_,t⟩ | ⟨t,_⟩)
     ·exact iA t2 t
     ·exact iA t3 t
    ·rintro (⟨t,_⟩ | ⟨_,t⟩)
     ·exact iA t1 t
     ·exact iA t4 t
    ·rintro (⟨t,_⟩ | ⟨t,_⟩)
     ·exact iA t1 t
     ·exact iA t3 t
   ·have hge':=aK hge'
    refine ⟨m - 1,by omega,j+1,by omega,by rw [aF (by omega)],cF hz ?_⟩
    unfold gG
    rw [if_neg hno,if_neg]
    intro t
    obtain ⟨q,hq,hpq⟩:=vT.1 t
    rw [hp q (by omega)] at hpq
    cases hpq
 have hge:=aK hge
 have hL : eL s.cells.length s.links = 0:=cN fun i hi=>hz i (by omega)
 rw [if_neg (by simp [hL])] at C
 replace C:=fun k' u=>C k' (u3.trans u)
 replace hs:=SecV.up hN hs u3
 clear hz hj hge u3
 refine ⟨fun m k vs=>∃ j : Nat,j+m = n1∧vs = [.int .i64 j]∧∀ i,i < j→mY s i = 0,⟨n1,fun k1 u1=>⟨0,by omega,rfl,fun i hi=>by omega⟩⟩,?_⟩
 rintro m k5 vs u5 ⟨j,hj,rfl,hz⟩
 refine ⟨j,rfl,rfl,fun hlt=>?_,fun hge k6 u6=>?_⟩
 ·have hlt:=aG hlt
  have hs5:=SecV.up hN hs u5
  obtain ⟨a,_,⟨c0,c1,c2,rfl,g0,g1,g2⟩,ha,hb,_,hr,_⟩:=hs5.cells.elx (i:=j) (by omega) (by decide)
  have hne : ∀ i,i < s.links.length→(at_ s.links i).a ≠ (at_ s.links i).b:=fun i hi=>by
   have:=jU hL i hi
   unfold gG at this
   split at this
   ·cases this
   ·rename_i hn
    simp only [not_or,Decidable.not_not] at hn
    exact hn.2.2.1
  refine ⟨ha,hb,ha,hb,c0,g0.seg,hr k5 c0 1 3 (Up.refl _) g0.seg.1 (fun q u h=>fZ (d:=0) (by rw [Nat.zero_add]; exact gK h)),aLn hs5 hne (by omega) (by omega) hK fun k6 ds u6 hd=>⟨ds,hd.seg,rfl,?_⟩⟩
  refine aJe hd (g0.up u6) (by omega) fun k8 u8=>⟨_,rfl,fun f k9 u9=>?_,fun f k9 u9=>?_⟩
  ·rw [aIv] at f
   have:=C k9 (((u5.trans u6).trans u8).trans u9)
   have e : mY s j = 60:=by unfold mY; rw [if_pos (of_decide_eq_true f)]
   rwa [dZ hz e (by decide) (by omega)] at this
  ·rw [aIv] at f
   exact ⟨m - 1,by omega,j+1,by omega,by rw [aF (by omega)],cF hz (by unfold mY; rw [if_neg (of_decide_eq_false f)])⟩
 ·have hge:=aK hge
  have:=C k6 (u5.trans u6)
  rwa [cN fun i hi=>hz i (by omega)] at this
end
end Go.Proofs.YtampehijkiencaaGreat

namespace Go.Proofs.YtampehijkiencaaGreat
open Go.RowKit Num W32
open Sy (Up Sees CallsG Seg ReadAt)
section
variable {k k' : World} {R : World→Value→Prop} {cs cs' : Array Value} {u v t q p : Rat} {us vs : List Rat} {s : PSec} {x : PState} {K L T d n0 n1 n2 d0 d1 d2 n3 n4 n5 d3 d4 d5 n6 d6 n7 d7 M : Nat} {A0 A1 A2 A3 A4 A5 A6 A7 : Option Addr}
theorem aQg (hx : QV k cs p K) (hy : QV k cs' q L) (hK1 : 1≤K) (hL1 : 1≤L) (hK : K+L≤10000000000) (C : ∀ k' ds,Up k k'→QV k' ds (p / q) (K+L)→R k' (.agg ds)) :
 Cl k 94 #[.agg cs,.agg cs'] R:=by
 intro k0 u0
 refine aOl hx.seg hy.seg (aPj (hx.up u0) (hy.up u0) hK1 hL1 hK fun k1 ds u1 h=>⟨ds,h.seg,_,rfl,fun k2 u2=>?_⟩)
 exact C k2 ds ((u0.trans u1).trans u2) (h.up u2)
end
end Go.Proofs.YtampehijkiencaaGreat

namespace Go.Proofs.YtampehijkiencaaGreat
open Go.RowKit Num W32
open Sy (Up Sees CallsG Seg ReadAt)
section
variable {k k' : World} {R : World→Value→Prop} {cs cs' : Array Value} {u v t q p : Rat} {us vs : List Rat} {s : PSec} {x : PState} {K L T d n0 n1 n2 d0 d1 d2 n3 n4 n5 d3 d4 d5 n6 d6 n7 d7 M : Nat} {A0 A1 A2 A3 A4 A5 A6 A7 : Option Addr}
end
end Go.Proofs.YtampehijkiencaaGreat

namespace Go.Proofs.YtampehijkiencaaGreat
open Go.RowKit Num W32
open Sy (Up Sees CallsG Seg RowC ReadIn)
section
variable {k : World} {R : World→Value→Prop} {c2 c3 : Array Value} {u v : Rat} {mats : List PMat} {ls : List PLayer} {n0 n1 d0 d1 : Nat} {A0 A1 : Option Addr}
set_option maxHeartbeats 4000000 in
theorem aNs (hm : Lst k A0 n0 8 (MatV (NR 2) k) mats) (hl : Lst k A1 n1 8 (LayerV (NR 2) k) ls) (hu : QV k c2 u 2) (hv : QV k c3 v 2)
 (C : ∀ k' B0 m0 e0 B1 m1 e1 B2 m2 e2,Up k k'→SecV (NR 9) k' B0 m0 B1 m1 B2 m2 (sF (eZ mats ls u v) (iC mats ls u v))→R k' (.tuple #[.agg #[.slice B0 m0 e0,.slice B1 m1 e1,.slice B2 m2 e2],.int .i64 (eZ mats ls u v)])) :
 Cl k 45 #[.slice A0 n0 d0,.slice A1 n1 d1,.agg c2,.agg c3] R:=by
 intro k0 u0
 have hN:=mX 2
 have hM:=mX 9
 have low : ∀ {k : World} cs q,NR 2 k cs q→NR 9 k cs q:=fun cs q h=>h.mono (by decide)
 replace hm : Lst k0 A0 n0 8 (MatV (NR 9) k0) mats:=hm.up u0 fun _ _ h=>MatV.mono low (MatV.up hN h u0)
 replace hl:=hl.up u0 fun _ _ h=>LayerV.up hN h u0
 replace hu:=hu.up u0
 replace hv:=hv.up u0
 replace C:=fun k' B0 m0 e0 B1 m1 e1 B2 m2 e2 uu=>C k' B0 m0 e0 B1 m1 e1 B2 m2 e2 (u0.trans uu)
 have en:=hl.1
 have em:=hm.1
 have bad : ∀ e : Int,eZ mats ls u v = e→e ≠ 0→∀ k',Up k0 k'→R k' (.tuple #[.agg #[.slice none 0 0,.slice none 0 0,.slice none 0 0],.int .i64 e]):=fun e he h0 k' uu=>by
  have:=C k' none 0 0 none 0 0 none 0 0 uu (by unfold sF; rw [he,if_pos h0]; exact ⟨.nil,.nil,.nil⟩)
  rwa [he] at this
 have lay : ∀ e : Int,kR ls = e→e ≠ 0→∀ k',Up k0 k'→R k' (.tuple #[.agg #[.slice none 0 0,.slice none 0 0,.slice none 0 0],.int .i64 e]):=fun e he h0=>bad e (by unfold eZ; rw [he,if_pos h0]) h0
 refine aJy hu.seg hv.seg ⟨rfl,fun h k1 u1=>lay 4 (pT (.inl (by simp at h; omega))) (by decide) k1 u1,fun h1=>⟨rfl,fun h k1 u1=>lay 4 (pT (.inr (by have:=of_decide_eq_true h; omega))) (by decide) k1 u1,fun h24=>?_⟩⟩
 replace h1 : ¬ ls.length < 1:=by simp at h1; omega
 replace h24 : ¬ 24 < ls.length:=by have:=of_decide_eq_false h24; omega
 refine ⟨fun m k vs=>∃ j : Nat,j+m = n1∧vs = [.int .i64 j]∧∀ i,i < j→¬ mK (at_ ls i),⟨n1,fun k1 u1=>⟨0,by omega,rfl,fun i hi=>by omega⟩⟩,?_⟩
 rintro m k2 vs u2 ⟨j,hj,rfl,hb⟩
 refine ⟨j,rfl,rfl,fun hlt=>?_,fun hge=>?_⟩
 ·have hlt:=aG hlt
  obtain ⟨a,_,⟨c0,c1,rfl,q0,q1⟩,ha,hbd,hr,hs,hi⟩:=(hl.up u2 fun _ _ h=>LayerV.up hN h u2).elx (i:=j) (by omega) (by decide)
  refine ⟨ha,hbd,ha,hbd,_,hi k2 1 _ (Up.refl _) rfl,fun c k3 u3=>lay 1 (pN h1 h24 (j:=j) (by omega) (.inl (by have:=of_decide_eq_true c; omega))) (by decide) k3 (u2.trans u3),fun c=>?_⟩
  refine ⟨ha,hbd,ha,hbd,c1,q1.seg,hs k2 c1 5 3 (Up.refl _) q1.seg.1 (fun q u h=>fZ (d:=4) (fZ (d:=3) (kY q0.seg.1 (gK h)))),?_⟩
  refine iM q1 fun k5 u5=>⟨_,rfl,fun d k6 u6=>?_,fun d k7 u7=>?_⟩
  ·rw [gP] at d
   exact lay 1 (pN h1 h24 (j:=j) (by omega) (.inr (of_decide_eq_true d))) (by decide) k6 (u2.trans (u5.trans u6))
  ·rw [gP] at d
   refine ⟨m - 1,by omega,j+1,by omega,by rw [aF (by omega)],cF hb fun hbad=>?_⟩
   have c:=of_decide_eq_false c
   rcases hbad with hbad | hbad
   ·omega
   ·exact of_decide_eq_false d hbad
 have hge:=aK hge
 have hb : ∀ i,i < ls.length→¬ mK (at_ ls i):=fun i hi=>hb i (by omega)
 refine ⟨fun m k vs=>∃ (j : Nat) (B0 B1 : Option Addr) (n e0 e1 : Nat) (x0 x1 : Array Value),j+m = n1∧vs = [.int .i64 j,.tuple #[.slice B0 n e0,.agg x0],.tuple #[.slice B1 n e1,.agg x1]]∧n = cnt (ls.take j)∧n≤24 ∧
  ArrV n 3 (NR 2 k) x0 (at_ (eK (ls.take j)))∧ArrV n 10 (CellV (NR 9) k) x1 (at_ (iT (ls.take j))),⟨n1,fun k1 u1=>⟨0,none,none,0,0,0,#[],#[],by omega,rfl,by simp [cnt],by omega,ArrV.empty,ArrV.empty⟩⟩,?_⟩
 rintro m k10 vs u10 ⟨j,B0,B1,n,e0,e1,x0,x1,hj,rfl,hn,hn24,h0,hc⟩
 have hs0 : ∀ {k : World},∀ a v,NR 2 k a v→Seg 3 a:=fun _ _ h=>h.seg
 have hs1 : ∀ {k : World},∀ a v,CellV (NR 9) k a v→Seg 10 a:=fun _ _ h=>CellV.seg hM h
 have hs3 : ∀ {k : World},∀ a v,LinkV (NR 9) k a v→Seg 5 a:=fun _ _ h=>LinkV.seg hM h
 have v10:=u2.trans u10
 refine ⟨j,B0,n,e0,x0,h0.rowC hs0,B1,n,e1,x1,hc.rowC hs1,rfl,rfl,fun hlt=>?_,fun hge=>?_⟩
 ·have hlt:=aG hlt
  have hjl : j < ls.length:=by omega
  have hnb:=hb j hjl
  have hn1 : 1≤(at_ ls j).n:=by unfold mK at hnb; omega
  have hct:=rL hjl
  refine ⟨fun m k vs=>∃ (i : Nat) (B0 B1 : Option Addr) (p e0 e1 : Nat) (x0 x1 : Array Value),i+m = (at_ ls j).n.toNat∧p = n+i∧p≤24∧vs = [.int .i64 i,.tuple #[.slice B0 p e0,.agg x0],.tuple #[.slice B1 p e1,.agg x1]] ∧
   ArrV p 3 (NR 2 k) x0 (at_ (eK (ls.take j) ++ List.replicate i (at_ ls j).v))∧ArrV p 10 (CellV (NR 9) k) x1 (at_ (iT (ls.take j) ++ List.replicate i (lD (at_ ls j)))),
   ⟨(at_ ls j).n.toNat,fun k12 u12=>⟨0,B0,B1,n,e0,e1,x0,x1,by omega,rfl,hn24,rfl,?_,?_⟩⟩,?_⟩
  ·rw [List.replicate_zero,List.append_nil]; exact h0.mono fun _ _ h=>h.up u12
  ·rw [List.replicate_zero,List.append_nil]; exact hc.mono fun _ _ h=>CellV.up hM h u12
  ·rintro m' k12 vs u12 ⟨i,B0',B1',p,e0',e1',y0,y1,hi,rfl,hp24,rfl,g0,gc⟩
   have v12:=v10.trans u12
   obtain ⟨a,_,⟨c0,c1,rfl,q0,q1⟩,ha,hbd,hr,hs,hint⟩:=(hl.up v12 fun _ _ h=>LayerV.up hN h v12).elx (i:=j) (by omega) (by decide)
   refine ⟨i,B0',n+i,e0',y0,g0.rowC hs0,B1',n+i,e1',y1,gc.rowC hs1,rfl,ha,hbd,ha,hbd,_,hint k12 1 _ (Up.refl _) rfl,fun hlt'=>⟨rfl,fun c k13 u13=>?_,fun c=>?_⟩,fun hge' k14 u14=>?_⟩
   ·have hlt':=of_decide_eq_true hlt'
    have c : n+i = 24:=by simp at c; omega
    exact lay 4 (xB (j:=j+1) h1 h24 hb (by omega)) (by decide) k13 (v12.trans u13)
   ·have hlt':=of_decide_eq_true hlt'
    have c : ¬ n+i = 24:=by simp at c; omega
    refine ⟨ha,hbd,ha,hbd,_,hint k12 0 _ (Up.refl _) rfl,ha,hbd,ha,hbd,c0,q0.seg,hs k12 c0 2 3 (Up.refl _) q0.seg.1 (fun q u h=>fZ (d:=1) (fZ (d:=0) (by rw [Nat.zero_add]; exact gK h))),?_⟩
    refine aBa (z:=0) (by decide) (by decide) fun k14 z0 u14 w0=>⟨z0,w0.seg,rfl,?_⟩
    refine aBa (z:=0) (by decide) (by decide) fun k16 z1 u16 w1=>⟨z1,w1.seg,rfl,by simp [q0.seg.1,w0.seg.1,w1.seg.1],by decide,⟨by simp; omega,by simp; omega⟩,?_⟩
    rintro C1 _ f1 _ rfl rfl _
    refine ⟨ha,hbd,ha,hbd,c1,q1.seg,hs k16 c1 5 3 (u14.trans u16) q1.seg.1 (fun q u h=>fZ (d:=4) (fZ (d:=3) (kY q0.seg.1 (gK h)))),by simp [q1.seg.1],by decide,⟨by simp; omega,by simp; omega⟩,?_⟩
    rintro C0 _ f0 _ rfl rfl _ k17 u17
    have v17:=u14.trans (u16.trans u17)
    have lv : (eK (ls.take j) ++ List.replicate i (at_ ls j).v).length = n+i:=by rw [List.length_append,jE,List.length_replicate,hn]
    have lc : (iT (ls.take j) ++ List.replicate i (lD (at_ ls j))).length = n+i:=by rw [List.length_append,mE,List.length_replicate,hn]
    refine ⟨m' - 1,by omega,i+1,C0,C1,_,f0,f1,_,_,by omega,rfl,by omega,by rw [aF (by omega)]; rfl,?_,?_⟩
    ·have g:=ArrV.snoc (P:=NR 2 k17) (l:=eK (ls.take j) ++ List.replicate i (at_ ls j).v) (v:=(at_ ls j).v) (a:=c1) (by rw [lv]; exact g0.mono fun _ _ h=>h.up v17) q1.seg.1 (q1.up v17)
     rw [lv,lX] at g
     rw [List.append_nil]
     exact g
    ·have g:=ArrV.snoc (P:=CellV (NR 9) k17) (l:=iT (ls.take j) ++ List.replicate i (lD (at_ ls j))) (v:=lD (at_ ls j)) (a:=(Value.int .i64 (at_ ls j).m :: (c0.toList ++ (z0.toList ++ (z1.toList ++ [])))).toArray) (by rw [lc]; exact gc.mono fun _ _ h=>CellV.up hM h v17) (by simp [q0.seg.1,w0.seg.1,w1.seg.1])
      ⟨c0,z0,z1,rfl,low _ _ (q0.up v17),low _ _ (w0.up (u16.trans u17)),low _ _ (w1.up u17)⟩
     rw [lc,lX] at g
     exact g
   ·have hge':=of_decide_eq_false hge'
    have ei : i = (at_ ls j).n.toNat:=by omega
    subst ei
    refine ⟨m - 1,by omega,j+1,B0',B1',_,e0',e1',y0,y1,by omega,by rw [aF (by omega)],by rw [hct,hn],by omega,?_,?_⟩
    ·rw [tX hjl]; exact g0.mono fun _ _ h=>h.up u14
    ·rw [tG hjl]; exact gc.mono fun _ _ h=>CellV.up hM h u14
 have hge:=aK hge
 have ej : ls.take j = ls:=List.take_of_length_le (by omega)
 rw [ej] at hn h0 hc
 have hp:=aBy h1 hb
 have hpr : IntKind.wrap .i64 (((n : Nat) : Int) - 1) = ((n - 1 : Nat) : Int):=fY (by omega) (by omega)
 refine ⟨cI (j:=0) (by omega),cI (j:=0) (by omega),⟨by omega,by omega⟩,?_⟩
 rintro _ rfl
 rw [hpr]
 refine ⟨rfl,cI (by omega),cI (by omega),⟨by omega,by omega⟩,?_⟩
 rintro _ rfl
 have hcl:=edges hM hn (by omega) hc (low _ _ (hu.up v10)) (low _ _ (hv.up v10))
 refine ⟨fun m k vs=>∃ (j : Nat) (B : Option Addr) (e : Nat) (x : Array Value),j+1+m = n∧vs = [.int .i64 ((j+1 : Nat) : Int),.tuple #[.slice B j e,.agg x]]∧ArrV j 5 (LinkV (NR 9) k) x (at_ (eQ (eK ls))),⟨n - 1,fun k1 u1=>⟨0,none,0,#[],by omega,rfl,ArrV.empty⟩⟩,?_⟩
 rintro m' k15 vs u15 ⟨i,B,e,x,hi,rfl,hlk⟩
 refine ⟨((i+1 : Nat) : Int),B,i,e,x,hlk.rowC hs3,rfl,rfl,fun hlt=>?_,fun hge=>?_⟩
 ·have hlt:=of_decide_eq_true hlt
  have hpi : IntKind.wrap .i64 (((i+1 : Nat) : Int) - 1) = ((i : Nat) : Int):=by rw [fY (by omega) (by omega)]; rfl
  rw [hpi]
  replace h0:=h0.mono fun _ _ h=>h.up u15
  obtain ⟨a,ha,q0,r0⟩:=h0.read (i:=i) (by omega)
  obtain ⟨b,hb',q1,r1⟩:=h0.read (i:=i+1) (by omega)
  refine ⟨cI (by omega),a,q0.seg,r0 0 3 (.agg a) ha mC,cI (by omega),b,q1.seg,r1 0 3 (.agg b) hb' mC,?_⟩
  refine aPi q0 q1 (by decide) fun k17 y17 u17 w17=>⟨y17,w17.seg,rfl,?_⟩
  refine aBu (q0.up u17) (q1.up u17) (by decide) fun k19 y19 u19 w19=>⟨y19,w19.seg,rfl,?_⟩
  refine aQg (w17.up u19) w19 (by decide) (by decide) (by decide) fun k21 y21 u21 w21=>⟨y21,w21.seg,rfl,by simp [w21.seg.1],by decide,⟨by simp; omega,by simp; omega⟩,?_⟩
  rintro C1 _ f1 _ rfl rfl _ k22 u22
  refine ⟨m' - 1,by omega,i+1,C1,f1,_,by omega,by rw [aF (by omega)]; rfl,?_⟩
  refine ArrV.push (a:=(Value.int .i64 (i : Int) :: (Value.int .i64 ((i+1 : Nat) : Int) :: (y21.toList ++ []))).toArray) (hlk.mono fun _ _ h=>LinkV.up hM h (u17.trans (u19.trans (u21.trans u22)))) (by simp [w21.seg.1]) ?_
  have el : at_ (eQ (eK ls)) i = ⟨i,((i+1 : Nat) : Int),at_ (eK ls) i*at_ (eK ls) (i+1) / (at_ (eK ls) i+at_ (eK ls) (i+1))⟩:=by
   unfold eQ
   have hle:=jE ls
   rw [cG (by simp; omega)]
   simp
  rw [el]
  exact ⟨y21,rfl,w21.up u22⟩
 have hge:=of_decide_eq_false hge
 have ei : i = n - 1:=by omega
 subst ei
 have v15:=v10.trans u15
 have hlens:=nP mats ls u v
 have hL : kR ls = 0:=aJw h1 h24 hb (by omega)
 have hS : eZ mats ls u v = bM (iC mats ls u v):=by unfold eZ; rw [if_neg (by simp [hL])]
 intro k25 u25 r0 k26 u26 r1
 have v26:=u25.trans u26
 have hsec : SecV (NR 9) k26 A0 n0 B1 n B (n - 1) (iC mats ls u v):=⟨hm.up (v15.trans v26) fun _ _ h=>MatV.up hM h (v15.trans v26),
  ⟨by rw [hlens.1,hn],(hcl.mono fun _ _ h=>CellV.up hM h (u15.trans v26)).els hs1 (dO r0 u26)⟩,⟨by rw [hlens.2,hn],(hlk.mono fun _ _ h=>LinkV.up hM h v26).els hs3 r1⟩⟩
 refine aLc hsec (by decide) fun k28 u28=>⟨_,rfl,fun f k29 u29=>?_,fun f k30 u30=>?_⟩
 ·exact bad _ hS (by have:=fH f; exact this) k29 (v15.trans (v26.trans (u28.trans u29)))
 ·have f:=cS f
  have:=C k30 A0 n0 d0 B1 n e1 B (n - 1) e (v15.trans (v26.trans (u28.trans u30))) (by rw [aCd (hS.trans f)]; exact SecV.up hM hsec (u28.trans u30))
  rwa [hS.trans f] at this
end
end Go.Proofs.YtampehijkiencaaGreat

namespace Go.Proofs.YtampehijkiencaaGreat
open Go.RowKit Num W32
open Sy (Up Sees CallsG Seg)
theorem dT {x : Int} (h : (x != x) = true) : False:=by simp at h
section
variable {k : World} {R : World→Value→Prop} {s : PSec} {n0 n1 n2 d0 d1 d2 n3 n4 n5 d3 d4 d5 K L : Nat} {A0 A1 A2 A3 A4 A5 : Option Addr}
set_option maxHeartbeats 1000000 in
theorem wT (hx : SecV (NP K) k A0 n0 A1 n1 A2 n2 s) (hy : SecV (NR' L) k A3 n3 A4 n4 A5 n5 s) (hn : s.mats.length≤100000∧s.cells.length≤100000∧s.links.length≤100000) (hK : K≤8589934592) (hL : L≤34359738368) (C : ∀ k',Up k k'→R k' (.bool true)) :
 Cl k 46 #[.agg #[.slice A0 n0 d0,.slice A1 n1 d1,.slice A2 n2 d2],.agg #[.slice A3 n3 d3,.slice A4 n4 d4,.slice A5 n5 d5]] R:=by
 intro k0 u0
 have hN:=bQ K
 have hM:=mX L
 replace hx:=SecV.up hN hx u0
 replace hy:=SecV.up hM hy u0
 replace C:=fun k' u=>C k' (u0.trans u)
 obtain rfl : n0 = n3:=hx.mats.1.trans hy.mats.1.symm
 obtain rfl : n1 = n4:=hx.cells.1.trans hy.cells.1.symm
 obtain rfl : n2 = n5:=hx.links.1.trans hy.links.1.symm
 have e0:=hx.mats.1
 have e1:=hx.cells.1
 have e2:=hx.links.1
 refine aCk ⟨rfl,rfl,fun h=>(dT h).elim,fun _=>⟨rfl,rfl,fun h=>(dT h).elim,fun _=>⟨rfl,rfl,fun h=>(dT h).elim,fun _=>⟨rfl,?_⟩⟩⟩⟩
 refine ⟨fun m k vs=>∃ j : Nat,j+m = n1∧vs = [.int .i64 j],⟨n1,fun k1 u1=>⟨0,by omega,rfl⟩⟩,?_⟩
 rintro m k3 vs u3 ⟨j,hj,rfl⟩
 refine ⟨j,rfl,fun hlt=>?_,fun _=>⟨rfl,?_⟩⟩
 ·have hlt:=aG hlt
  obtain ⟨a,_,⟨p0,p1,p2,rfl,g0,g1,g2⟩,ha,hb,hr,_⟩:=(SecV.up hN hx u3).cells.el (i:=j) (by omega) (by decide)
  obtain ⟨b,_,⟨q0,q1,q2,rfl,f0,f1,f2⟩,ha',hb',hr',_⟩:=(SecV.up hM hy u3).cells.el (i:=j) (by omega) (by decide)
  refine ⟨ha,hb,_,p0,g0.seg,p1,g1.seg,p2,g2.seg,hr k3 (Up.refl _),ha',hb',_,q0,f0.seg,q1,f1.seg,q2,f2.seg,hr' k3 (Up.refl _),fun h=>(dT h).elim,fun _=>?_⟩
  refine aCp g0 hK f0 hL fun k6 u6=>⟨true,rfl,fun h=>absurd h (by decide),fun _=>?_⟩
  refine aCp (g1.up u6) hK (f1.up u6) hL fun k9 u9=>⟨true,rfl,fun h=>absurd h (by decide),fun _=>?_⟩
  refine aCp ((g2.up u6).up u9) hK ((f2.up u6).up u9) hL fun k12 u12=>⟨true,rfl,fun h=>absurd h (by decide),fun _ k14 u14=>?_⟩
  exact ⟨m - 1,by omega,j+1,by omega,by rw [aF (by omega)]⟩
 refine ⟨fun m k vs=>∃ j : Nat,j+m = n2∧vs = [.int .i64 j],⟨n2,fun k1 u1=>⟨0,by omega,rfl⟩⟩,?_⟩
 rintro m2 k15 vs u15 ⟨i,hi,rfl⟩
 have v15:=u3.trans u15
 refine ⟨i,rfl,fun hlt=>?_,fun _=>⟨rfl,?_⟩⟩
 ·have hlt:=aG hlt
  obtain ⟨a,_,⟨p0,rfl,g0⟩,ha,hb,hr,_⟩:=(SecV.up hN hx v15).links.el (i:=i) (by omega) (by decide)
  obtain ⟨b,_,⟨q0,rfl,f0⟩,ha',hb',hr',_⟩:=(SecV.up hM hy v15).links.el (i:=i) (by omega) (by decide)
  refine ⟨ha,hb,_,_,p0,g0.seg,hr k15 (Up.refl _),ha',hb',_,_,q0,f0.seg,hr' k15 (Up.refl _),fun h=>(dT h).elim,fun _=>⟨fun h=>(dT h).elim,fun _=>?_⟩⟩
  refine aCp g0 hK f0 hL fun k6 u6=>⟨true,rfl,fun h=>absurd h (by decide),fun _ k14 u14=>?_⟩
  exact ⟨m2 - 1,by omega,i+1,by omega,by rw [aF (by omega)]⟩
 refine ⟨fun m k vs=>∃ j : Nat,j+m = n0∧vs = [.int .i64 j],⟨n0,fun k1 u1=>⟨0,by omega,rfl⟩⟩,?_⟩
 rintro m3 k22 vs u22 ⟨q,hq,rfl⟩
 have v22:=v15.trans u22
 refine ⟨q,rfl,fun hlt=>?_,fun _ k32 u32=>C k32 (v22.trans u32)⟩
 have hlt:=aG hlt
 obtain ⟨a,_,⟨A,p,z,A',p',z',p0,p1,rfl,l0,l1,g0,g1⟩,ha,hb,hr,_⟩:=(SecV.up hN hx v22).mats.el (i:=q) (by omega) (by decide)
 obtain ⟨b,_,⟨B,r,t,B',r',t',q0,q1,rfl,l0',l1',f0,f1⟩,ha',hb',hr',_⟩:=(SecV.up hM hy v22).mats.el (i:=q) (by omega) (by decide)
 obtain rfl : p = r:=l0.1.trans l0'.1.symm
 obtain rfl : p' = r':=l1.1.trans l1'.1.symm
 refine ⟨ha,hb,A,p,z,A',p',z',p0,g0.seg,p1,g1.seg,hr k22 (Up.refl _),ha',hb',B,p,t,B',p',t',q0,f0.seg,q1,f1.seg,hr' k22 (Up.refl _),rfl,rfl,fun h=>(dT h).elim,fun _=>⟨rfl,rfl,fun h=>(dT h).elim,fun _=>?_⟩⟩
 refine aCp g0 hK f0 hL fun k6 u6=>⟨true,rfl,fun h=>absurd h (by decide),fun _=>?_⟩
 refine aCp (g1.up u6) hK (f1.up u6) hL fun k9 u9=>⟨true,rfl,fun h=>absurd h (by decide),fun _ k14 u14=>?_⟩
 exact ⟨m3 - 1,by omega,q+1,by omega,by rw [aF (by omega)]⟩
end
end Go.Proofs.YtampehijkiencaaGreat

namespace Go.Proofs.YtampehijkiencaaGreat
open Go.RowKit Num
open Sy (Up Sees CallsG Seg)
theorem zO : dec 1 = [49]:=by
 unfold dec
 rw [if_neg (by omega),fS (by omega),show 1 / 10 = 0 from rfl,cH]
 rfl
theorem xH {a : Nat} (h0 : 0 < a) (h1 : a < 10) : dec (a*10) = [UInt8.ofNat (48+a),48]:=by
 unfold dec
 rw [if_neg (by omega),fS (by omega),show a*10 / 10 = a by omega,fS (by omega),show a / 10 = 0 by omega,cH,show a*10 % 10 = 0 by omega,show a % 10 = a by omega]
 rfl
theorem pY (a : Nat) : bF ((a : Int) : Rat) = dec a:=by
 unfold bF
 have h : ¬ (((a : Int) : Rat).num < 0):=by rw [Rat.num_intCast]; omega
 have h2 : ((a : Int) : Rat).den = 1:=Rat.den_intCast _
 rw [if_neg h,if_pos h2,Rat.num_intCast,Int.natAbs_natCast,List.nil_append,List.append_nil]
theorem text80 : bF 80 = [56,48]:=by
 have:=pY 80
 rw [show (((80 : Nat) : Int) : Rat) = 80 from rfl] at this
 rw [this]
 exact xH (a:=8) (by decide) (by decide)
theorem text30 : bF 30 = [51,48]:=by
 have:=pY 30
 rw [show (((30 : Nat) : Int) : Rat) = 30 from rfl] at this
 rw [this]
 exact xH (a:=3) (by decide) (by decide)
theorem text1 : bF 1 = [49]:=by
 have:=pY 1
 rw [show (((1 : Nat) : Int) : Rat) = 1 from rfl] at this
 rw [this]
 exact zO
theorem aJb {k : World} {p : Nat} {ty : TypeId} {cs : Array Value} (h : Sy.Blk k p ty cs) : InAt k (some ⟨p,0,none⟩) cs:=fun q u hu =>
 ⟨p,0,rfl,Sy.heap_lt h,by rw [Nat.zero_add,cell_of_row k p q cs ty _ h]; exact hu⟩
section
variable {α : Type} [Inhabited α] {k : World} {p s : Nat} {ty : TypeId} {cs a b : Array Value} {P : Array Value→α→Prop} {x y : α}
theorem vK (h : Sy.Blk k p ty cs) (e : cs = a) (ha : a.size = s) (hx : P a x) (hP : ∀ a v,P a v→Seg s a) : Lst k (some ⟨p,0,none⟩) 1 s P [x]:=by
 subst e
 have h0 : ArrV 0 s P #[] (at_ [x]):=ArrV.empty
 have h1:=h0.push (a:=cs) ha hx
 simp only [Array.empty_append,Array.toArray_toList] at h1
 exact ⟨rfl,cs,aJb h,h1.rowC hP,h1⟩
theorem uR (h : Sy.Blk k p ty cs) (e : cs = a ++ b) (ha : a.size = s) (hb : b.size = s) (hx : P a x) (hy : P b y) (hP : ∀ a v,P a v→Seg s a) : Lst k (some ⟨p,0,none⟩) 2 s P [x,y]:=by
 subst e
 have h0 : ArrV 0 s P #[] (at_ [x,y]):=ArrV.empty
 have h1:=(h0.push (a:=a) ha hx).push (a:=b) hb hy
 simp only [Array.empty_append,Array.toArray_toList] at h1
 exact ⟨rfl,_,aJb h,h1.rowC hP,h1⟩
end
def exS : PSec:=⟨[⟨[⟨0,0⟩,⟨60,1⟩],[⟨0,0⟩],1,1⟩],[⟨0,4,1,0⟩,⟨0,4,0,0⟩],[⟨0,1,1⟩]⟩
theorem aDd : bM exS = 0:=by decide +kernel
theorem aLa : vJ exS (dN exS 20) [180,180] [180,180] = 0:=by decide +kernel
theorem aKd : ∀ i,i < exS.cells.length→(nbm exS.links (i : Nat)).length≤1:=by decide +kernel
theorem aHn : (xR exS [180,180] [180,180] 2 (dN exS 20)).temp = [80,30]:=by decide +kernel
theorem aGn : (xR exS [180,180] [180,180] 2 (dN exS 20)).cure = [1,0]:=by decide +kernel
section
variable {k : World} {R : World→Value→Prop} {s : PSec} {t : Rat} {cs : Array Value} {K n0 n1 n2 d0 d1 d2 : Nat} {A0 A1 A2 : Option Addr}
theorem yY (hs : SecV (NP K) k A0 n0 A1 n1 A2 n2 s) (ht : RatV k cs t K) (hK1 : 1≤K) (hK : K≤1000000)
 (C : ∀ k' B0 m0 e0 B1 m1 e1 B2 m2 e2,Up k k'→StateV (NP K) k' B0 m0 B1 m1 B2 m2 (wN (bM s) (dN s t))→R k' (.tuple #[.agg #[.slice B0 m0 e0,.slice B1 m1 e1,.slice B2 m2 e2],.int .i64 (bM s)])) :
 Cl k 34 #[.agg #[.slice A0 n0 d0,.slice A1 n1 d1,.slice A2 n2 d2],.agg cs] R:=by
 intro k0 u0
 replace hs:=SecV.up (bQ K) hs u0
 replace ht:=ht.up u0
 replace C:=fun k' B0 m0 e0 B1 m1 e1 B2 m2 e2 u=>C k' B0 m0 e0 B1 m1 e1 B2 m2 e2 (u0.trans u)
 refine wS ht.seg (qF hs hK1 hK fun k1 u1=>⟨_,rfl,fun f k2 u2=>?_,fun f=>?_⟩)
 ·have:=C k2 _ _ 0 _ _ 0 _ _ 0 (u1.trans u2) (by unfold wN; rw [if_pos (fH f)]; exact tV)
  exact this
 ·have f:=cS f
  have hc24 : s.cells.length≤24:=by have:=gS f; unfold cO at this; omega
  refine aGg (s:=s) hs.cells.1 (by rw [hs.cells.1]; omega) (ht.up u1) fun k6 B0 m0 e0 B1 m1 e1 B2 m2 e2 u6 hr=>⟨_,_,_,_,_,_,_,_,_,rfl,fun k7 u7=>?_⟩
  have:=C k7 B0 m0 e0 B1 m1 e1 B2 m2 e2 ((u1.trans u6).trans u7) (by unfold wN; rw [if_neg (by simp [f])]; exact StateV.up (bQ _) hr u7)
  rwa [f] at this
set_option maxHeartbeats 1000000 in
theorem xV (C : ∀ k',Up k k'→R k' (.bool true)) : Cl k 11 #[] R:=by
 intro k0 u0
 replace C:=fun k' u=>C k' (u0.trans u)
 have hN:=bQ 1
 refine aDa (gE (by decide) (by decide) fun k1 c0 u1 h0=>⟨c0,h0.seg,rfl,?_⟩)
 refine gE (by decide) (by decide) fun k2 c1 u2 h1=>⟨c1,h1.seg,rfl,?_⟩
 refine gE (by decide) (by decide) fun k3 c2 u3 h2=>⟨c2,h2.seg,rfl,?_⟩
 refine gE (by decide) (by decide) fun k4 c3 u4 h3=>⟨c3,h3.seg,rfl,?_⟩
 refine gE (by decide) (by decide) fun k5 c4 u5 h4=>⟨c4,h4.seg,rfl,?_⟩
 refine gE (by decide) (by decide) fun k6 c5 u6 h5=>⟨c5,h5.seg,rfl,?_⟩
 refine gE (by decide) (by decide) fun k7 c6 u7 h6=>⟨c6,h6.seg,rfl,?_⟩
 intro p7 k14 u14 b7 p8 k15 u15 b8 p9 k16 u16 b9 p10 k17 u17 b10 p11 k18 u18 b11
 have z : ∀ k : World,RatV k #[.bool false,.slice none 0 0,.slice none 0 0] 0 1:=fun k=>kE 1
 have hr0 : Lst k14 (some ⟨p7,0,none⟩) 2 6 (RateV (NP 1) k14) [⟨0,0⟩,⟨60,1⟩]:=by
  have y2:=u3.trans (u4.trans (u5.trans (u6.trans (u7.trans u14))))
  refine uR b7 (a:=(#[Value.bool false,.slice none 0 0,.slice none 0 0].toList ++ (#[Value.bool false,.slice none 0 0,.slice none 0 0].toList ++ ([]))).toArray) (b:=(c0.toList ++ (c1.toList ++ ([]))).toArray) (by simp) rfl (by simp [h0.seg.1,h1.seg.1]) ⟨_,_,rfl,z _,z _⟩ ⟨_,_,rfl,h0.up (u2.trans y2),h1.up y2⟩ fun _ _ h=>RateV.seg hN h
 have hr1 : Lst k15 (some ⟨p8,0,none⟩) 1 6 (RateV (NP 1) k15) [⟨0,0⟩] :=
  vK b8 rfl rfl ⟨#[.bool false,.slice none 0 0,.slice none 0 0],#[.bool false,.slice none 0 0,.slice none 0 0],rfl,z _,z _⟩ fun _ _ h=>RateV.seg hN h
 have hm : Lst k16 (some ⟨p9,0,none⟩) 1 8 (MatV (NP 1) k16) [⟨[⟨0,0⟩,⟨60,1⟩],[⟨0,0⟩],1,1⟩]:=by
  have y4:=u5.trans (u6.trans (u7.trans (u14.trans (u15.trans u16))))
  exact vK b9 rfl (by simp [h2.seg.1,h3.seg.1]) ⟨_,_,_,_,_,_,c2,c3,rfl,aW hN hr0 (u15.trans u16),aW hN hr1 u16,h2.up (u4.trans y4),h3.up y4⟩ fun _ _ h=>MatV.seg hN h
 have hc : Lst k17 (some ⟨p10,0,none⟩) 2 10 (CellV (NP 1) k17) [⟨0,4,1,0⟩,⟨0,4,0,0⟩]:=by
  have y6:=u7.trans (u14.trans (u15.trans (u16.trans u17)))
  refine uR b10 (a:=((Value.int .i64 0) :: (c4.toList ++ (c5.toList ++ (#[Value.bool false,.slice none 0 0,.slice none 0 0].toList ++ ([]))))).toArray) (b:=((Value.int .i64 0) :: (c4.toList ++ (#[Value.bool false,.slice none 0 0,.slice none 0 0].toList ++ (#[Value.bool false,.slice none 0 0,.slice none 0 0].toList ++ ([]))))).toArray) (by simp) (by simp [h4.seg.1,h5.seg.1]) (by simp [h4.seg.1])
   ⟨_,_,_,rfl,h4.up (u6.trans y6),h5.up y6,z _⟩ ⟨_,_,_,rfl,h4.up (u6.trans y6),z _,z _⟩ fun _ _ h=>CellV.seg hN h
 have hl : Lst k18 (some ⟨p11,0,none⟩) 1 5 (LinkV (NP 1) k18) [⟨0,1,1⟩] :=
  vK b11 rfl (by simp [h6.seg.1]) ⟨c6,rfl,h6.up (u14.trans (u15.trans (u16.trans (u17.trans u18))))⟩ fun _ _ h=>LinkV.seg hN h
 have hs : SecV (NP 1) k18 (some ⟨p9,0,none⟩) 1 (some ⟨p10,0,none⟩) 2 (some ⟨p11,0,none⟩) 1 exS:=⟨hm.up (u17.trans u18) fun _ _ h=>MatV.up hN h (u17.trans u18),hc.up u18 fun _ _ h=>CellV.up hN h u18,hl⟩
 have y18:=u1.trans (u2.trans (u3.trans (u4.trans (u5.trans (u6.trans (u7.trans (u14.trans (u15.trans (u16.trans (u17.trans u18))))))))))
 replace C:=fun k' u=>C k' (y18.trans u)
 clear y18 hr0 hr1 hm hc hl b7 b8 b9 b10 b11 h0 h1 h2 h3 h4 h5 h6 u1 u2 u3 u4 u5 u6 u7 u14 u15 u16 u17 u18
 refine gE (by decide) (by decide) fun k20 c12 u20 h12=>⟨c12,h12.seg,rfl,?_⟩
 refine yY (SecV.up hN hs u20) h12 (by decide) (by decide) fun k22 B0 m0 e0 B1 m1 e1 B2 m2 e2 u22 hst=>⟨_,_,_,_,_,_,_,_,_,_,rfl,?_⟩
 rw [aDd] at hst ⊢
 refine gE (by decide) (by decide) fun k24 c17 u24 h17=>⟨c17,h17.seg,rfl,?_⟩
 refine gE (by decide) (by decide) fun k26 c18 u26 h18=>⟨c18,h18.seg,rfl,?_⟩
 intro p19 k27 u27 b19
 have hh : Lst k27 (some ⟨p19,0,none⟩) 2 3 (NP 1 k27) [180,180]:=uR b19 (a:=c17) (b:=c18) (by simp) h17.seg.1 h18.seg.1 (h17.up (u26.trans u27)) (h18.up u27) fun _ _ h=>h.seg
 have y27:=u22.trans (u24.trans (u26.trans u27))
 refine aOw (d:=1) (SecV.up hN hs (u20.trans y27)) (StateV.up hN hst (u24.trans (u26.trans u27))) hh hh (fun _=>aKd) (by decide) (by decide) (by decide) (fun _ _ _=>by decide +kernel) (by decide) fun k29 P0 q0 f0 P1 q1 f1 P2 q2 f2 u29 hrun=>⟨_,_,_,_,_,_,_,_,_,_,rfl,?_⟩
 have e1 : wN 0 (dN exS (((20 : Int)) : Rat)) = dN exS 20:=rfl
 rw [e1,aLa] at hrun ⊢
 have e2 : wN 0 (xR exS [180,180] [180,180] ([180,180] : List Rat).length (dN exS 20)) = xR exS [180,180] [180,180] 2 (dN exS 20):=rfl
 rw [e2] at hrun
 have ht:=hrun.temp
 have hcu:=hrun.cure
 rw [aHn] at ht
 rw [aGn] at hcu
 have et : q0 = 2:=ht.1
 have ec : q1 = 2:=hcu.1
 subst et ec
 replace C:=fun k' u=>C k' ((u20.trans (y27.trans u29)).trans u)
 refine ⟨fun _=>⟨fun _=>⟨rfl,fun _=>⟨rfl,fun _=>?_,fun h=>absurd h (by decide)⟩,fun h=>absurd h (by decide)⟩,fun h=>absurd h (by decide)⟩,fun h=>absurd h (by decide)⟩
 obtain ⟨a,_,ga,ha,hb,hr,_⟩:=ht.el (i:=0) (by decide) (by decide)
 obtain ⟨a',_,ga',ha',hb',hr',_⟩:=ht.el (i:=1) (by decide) (by decide)
 obtain ⟨a2,_,ga2,ha2,hb2,hr2,_⟩:=hcu.el (i:=0) (by decide) (by decide)
 refine ⟨ha,hb,a,ga.seg,hr k29 (Up.refl _),pU ga (by decide +kernel) fun k31 u31=>⟨_,rfl,fun _=>?_,fun h=>?_⟩⟩
 ·refine ⟨ha',hb',a',ga'.seg,hr' k31 u31,pU (ga'.up u31) (by decide +kernel) fun k33 u33=>⟨_,rfl,fun _=>?_,fun h=>?_⟩⟩
  ·refine ⟨ha2,hb2,a2,ga2.seg,hr2 k33 (u31.trans u33),pU ((ga2.up u31).up u33) (by decide +kernel) fun k35 u35=>⟨_,rfl,fun k36 u36=>?_⟩⟩
   have:=C k36 (u31.trans (u33.trans (u35.trans u36)))
   have e : at_ ([1,0] : List Rat) 0 = 1:=rfl
   have e2 : (ByteArray.toList ⟨([49] : List UInt8).toArray⟩ == ByteArray.toList ⟨#[49]⟩) = true:=beq_self_eq_true _
   rw [e,text1,e2]
   exact this
  ·exfalso
   have e : at_ ([80,30] : List Rat) 1 = 30:=rfl
   have e2 : (ByteArray.toList ⟨([51,48] : List UInt8).toArray⟩ == ByteArray.toList ⟨#[51,48]⟩) = true:=beq_self_eq_true _
   rw [e,text30,e2] at h
   cases h
 ·exfalso
  have e : at_ ([80,30] : List Rat) 0 = 80:=rfl
  have e2 : (ByteArray.toList ⟨([56,48] : List UInt8).toArray⟩ == ByteArray.toList ⟨#[56,48]⟩) = true:=beq_self_eq_true _
  rw [e,text80,e2] at h
  cases h
end
end Go.Proofs.YtampehijkiencaaGreat

namespace Go.Proofs.YtampehijkiencaaGreat
open Go.RowKit Num W32
open Sy (Up Sees CallsG Seg ReadAt)
def rA (cs : Array Value) (l : PLayer) : Prop:=∃ m n y z y' z',In64 y∧In64 z∧In64 y'∧In64 z'∧cs = #[.int .i64 m,.int .i64 n,.int .i64 y,.int .i64 z,.int .i64 y',.int .i64 z']∧l = ⟨m,n,ofQ y z,ofQ y' z'⟩
theorem aEt {x : Int} : ¬ (x == x) = false:=by simp
theorem aEr (mats : List PMat) (ls : List PLayer) (u v : Rat) (hm : mats.length≤100000) : (sF (eZ mats ls u v) (iC mats ls u v)).mats.length≤100000∧(sF (eZ mats ls u v) (iC mats ls u v)).cells.length≤100000∧(sF (eZ mats ls u v) (iC mats ls u v)).links.length≤100000:=by
 unfold sF
 split
 ·exact ⟨Nat.zero_le _,Nat.zero_le _,Nat.zero_le _⟩
 ·rename_i h
  have h:=Decidable.not_not.1 h
  obtain ⟨h1,h2⟩:=nP mats ls u v
  have hL : kR ls = 0:=by
   unfold eZ at h
   by_cases c : kR ls = 0
   ·exact c
   ·rw [if_pos c] at h; exact absurd h c
  have hv : bM (iC mats ls u v) = 0:=by
   unfold eZ at h
   rwa [if_neg (by simp [hL])] at h
  have:=gS hv
  unfold cO at this
  refine ⟨hm,by omega,by omega⟩
section
variable {k : World} {R : World→Value→Prop} {mats : List PMat} {ls : List PLayer} {n0 n1 d0 d1 : Nat} {A0 A1 : Option Addr} {n2 n3 n4 n5 : Int}
set_option maxHeartbeats 1000000 in
theorem vQ (hm : Lst k A0 n0 6 (MatA k) mats) (hl : Lst k A1 n1 6 rA ls) (i2 : In64 n2) (i3 : In64 n3) (i4 : In64 n4) (i5 : In64 n5) (C : ∀ k',Up k k'→R k' (.bool true)) :
 Cl k 8 #[.slice A0 n0 d0,.slice A1 n1 d1,.agg #[.int .i64 n2,.int .i64 n3],.agg #[.int .i64 n4,.int .i64 n5]] R:=by
 intro k0 u0
 have hN:=bQ 1
 have hM:=mX 2
 replace hm:=hm.up u0 fun _ _ h=>MatA.up h u0
 replace hl:=hl.kept u0
 replace C:=fun k' u=>C k' (u0.trans u)
 have hs : SecA k0 A0 n0 none 0 none 0 ⟨mats,[],[]⟩:=⟨hm,.nil,.nil⟩
 have en:=hl.1
 have aw : ∀ k1,Up k0 k1→Cl k1 11 #[] fun k8 r7=>∃ b10,some (Value.bool b10) = some r7∧∀ k9,Up k8 k9→R k9 (Value.bool b10) :=
  fun k1 u1=>xV fun k3 u3=>⟨_,rfl,fun k4 u4=>C k4 ((u1.trans u3).trans u4)⟩
 refine aEd (aOz (most:=1) hs (by decide) fun k1 b u1 hb=>⟨_,rfl,fun _=>aw k1 u1,fun f=>⟨rfl,fun _=>aw k1 u1,fun a30=>?_⟩⟩)
 have hf:=hb (aBx f)
 replace a30:=of_decide_eq_false a30
 have hf1 : mats.length≤10:=hf.mats
 refine aKw (hm.up u1 fun _ _ h=>MatA.up h u1) (by omega) hf.rates fun k9 P0 p0 g0 P1 p1 g1 u9 wp wr=>⟨_,_,_,_,_,_,rfl,rfl,?_⟩
 have v9:=u1.trans u9
 replace hl:=hl.kept v9
 have s0 : ∀ {k : World},∀ a (v : PLayer),LayerV (NP 1) k a v→Seg 8 a:=fun _ _ h=>LayerV.seg hN h
 have s1 : ∀ {k : World},∀ a (v : PLayer),LayerV (NR' 2) k a v→Seg 8 a:=fun _ _ h=>LayerV.seg hM h
 refine ⟨fun m k vs=>∃ (j : Nat) (B0 B1 : Option Addr) (e0 e1 : Nat) (x0 x1 : Array Value),j+m = n1∧vs = [.int .i64 j,.tuple #[.slice B0 j e0,.agg x0],.tuple #[.slice B1 j e1,.agg x1]] ∧
  ArrV j 8 (LayerV (NP 1) k) x0 (at_ ls)∧ArrV j 8 (LayerV (NR' 2) k) x1 (at_ ls),⟨n1,fun k1 u1=>⟨0,none,none,0,0,#[],#[],by omega,rfl,ArrV.empty,ArrV.empty⟩⟩,?_⟩
 rintro m k10 vs u10 ⟨j,B0,B1,e0,e1,x0,x1,hj,rfl,h0,h1⟩
 refine ⟨j,B0,j,e0,x0,h0.rowC s0,B1,j,e1,x1,h1.rowC s1,rfl,fun hlt=>?_,fun hge k20 u20 r0=>?_⟩
 ·have hlt:=aG hlt
  obtain ⟨a,_,⟨mm,nn,y,z,y',z',i0,i1,i2,i3,rfl,er⟩,ha,hb,hr,_⟩:=(hl.kept u10).el (i:=j) (by omega) (by decide)
  refine ⟨ha,hb,mm,nn,y,z,y',z',hr k10 (Up.refl _),wC i0 i1 fun k12 a2 u12 w2=>⟨a2,w2.seg,rfl,wC i2 i3 fun k14 a4 u14 w4=>⟨a4,w4.seg,rfl,by simp [w2.seg.1,w4.seg.1],by decide,⟨by simp; omega,by simp; omega⟩,?_⟩⟩⟩
  rintro B0' _ g0' _ rfl rfl _
  refine yI i0 i1 fun k16 a6 u16 w6=>⟨a6,w6.seg,rfl,yI i2 i3 fun k18 a8 u18 w8=>⟨a8,w8.seg,rfl,by simp [w6.seg.1,w8.seg.1],by decide,⟨by simp; omega,by simp; omega⟩,?_⟩⟩
  rintro B1' _ g1' _ rfl rfl _ k19 u19
  have v19:=(((u12.trans u14).trans u16).trans u18).trans u19
  refine ⟨m - 1,by omega,j+1,B0',B1',g0',g1',_,_,by omega,by rw [aF (by omega)]; rfl,?_,?_⟩
  ·refine ArrV.push (a:=((Value.int .i64 mm) :: ((Value.int .i64 nn) :: (a2.toList ++ (a4.toList ++ ([]))))).toArray) (h0.mono fun a v h=>LayerV.up hN h v19) (by simp [w2.seg.1,w4.seg.1]) ?_
   rw [er]
   exact ⟨a2,a4,rfl,w2.up (((u14.trans u16).trans u18).trans u19),w4.up ((u16.trans u18).trans u19)⟩
  ·refine ArrV.push (a:=((Value.int .i64 mm) :: ((Value.int .i64 nn) :: (a6.toList ++ (a8.toList ++ ([]))))).toArray) (h1.mono fun a v h=>LayerV.up hM h v19) (by simp [w6.seg.1,w8.seg.1]) ?_
   rw [er]
   exact ⟨a6,a8,rfl,w6.up (u18.trans u19),w8.up u19⟩
 have hge:=aK hge
 have ej : j = ls.length:=by omega
 have v10:=v9.trans u10
 refine wC i2 i3 fun k22 y22 u22 w22=>⟨y22,w22.seg,rfl,?_⟩
 refine wC i4 i5 fun k24 y24 u24 w24=>⟨y24,w24.seg,rfl,?_⟩
 have v24:=u22.trans u24
 have x24:=u10.trans (u20.trans v24)
 refine aMg (wp.up x24 fun _ _ h=>MatV.up hN h x24) (fun i hi=>by have h:=hf.rates i hi; exact ⟨Nat.le_trans h.1 (by decide),Nat.le_trans h.2 (by decide)⟩) (by omega) ⟨ej,((h0.mono fun _ _ h=>LayerV.up hN h (u20.trans v24)).els s0 (dO r0 v24))⟩ (w22.up u24) w24 fun k26 E0 q0 t0 E1 q1 t1 E2 q2 t2 u26 hq=>⟨_,_,_,_,_,_,_,_,_,_,rfl,fun k27 u27 r1=>?_⟩
 refine yI i2 i3 fun k29 y29 u29 w29=>⟨y29,w29.seg,rfl,?_⟩
 refine yI i4 i5 fun k31 y31 u31 w31=>⟨y31,w31.seg,rfl,?_⟩
 have v31:=u29.trans u31
 have z31:=v24.trans (u26.trans (u27.trans v31))
 have x31:=u10.trans (u20.trans z31)
 refine aNs (wr.up x31 fun _ _ h=>MatV.up hM h x31) ⟨ej,((h1.mono fun _ _ h=>LayerV.up hM h (u20.trans z31)).els s1 (dO r1 v31))⟩ (w29.up u31) w31 fun k33 F0 f0 l0 F1 f1 l1 F2 f2 l2 u33 hq'=>⟨_,_,_,_,_,_,_,_,_,_,rfl,fun _=>?_,fun h=>absurd h aEt⟩
 refine wT (K:=5) (L:=9) (SecV.up (bQ 5) hq (u27.trans (v31.trans u33))) hq' (aEr mats ls _ _ (by omega)) (by decide) (by decide) fun k35 u35=>⟨_,rfl,fun _=>?_,fun h=>absurd h (by decide)⟩
 exact xV fun k37 u37=>⟨_,rfl,fun k38 u38=>C k38 (v9.trans (x31.trans (u33.trans (u35.trans (u37.trans u38)))))⟩
end
end Go.Proofs.YtampehijkiencaaGreat

