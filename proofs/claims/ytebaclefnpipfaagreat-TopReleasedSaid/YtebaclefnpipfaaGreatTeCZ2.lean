/- Several texts in one. (Printed by prep.py.) -/
import Derived.Test.YtebaclefnpipfaaGreatTeCU
import Derived.ChangeBookTie2
namespace Go.Proofs.YtebaclefnpipfaaGreat
open Go.RowKit Num W32
open Sy (Up Sees CallsG Seg ReadAt)
abbrev NR' (K:Nat):World→Array Value→Rat→Prop:=fun k cs q=>QV k cs q K
def aTp (cs:Array Value) (q:Rat):Prop:=∃y z,In64 y∧In64 z∧cs=#[.int .i64 y,.int .i64 z]∧q=ofQ y z
def aTf (cs:Array Value) (r:PRate):Prop:=∃y z y' z',In64 y∧In64 z∧In64 y'∧In64 z'∧cs=#[.int .i64 y,.int .i64 z,.int .i64 y',.int .i64 z']∧r=⟨ofQ y z,ofQ y' z'⟩
def aWr (k:World) (cs:Array Value) (m:PMat):Prop:=∃A n c B n' c' y z y' z',In64 y∧In64 z∧In64 y'∧In64 z'∧cs=#[.slice A n c,.slice B n' c',.int .i64 y,.int .i64 z,.int .i64 y',.int .i64 z']∧
 Lst k A n 4 aTf m.cure∧Lst k B n' 4 aTf m.spoil∧m.done=ofQ y z∧m.limit=ofQ y' z'
def aVo (cs:Array Value) (x:PCell):Prop:=∃m y z y' z' y'' z'',In64 m∧In64 y∧In64 z∧In64 y'∧In64 z'∧In64 y''∧In64 z''∧cs=#[.int .i64 m,.int .i64 y,.int .i64 z,.int .i64 y',.int .i64 z',.int .i64 y'',.int .i64 z'']∧x=⟨m,ofQ y z,ofQ y' z',ofQ y'' z''⟩
def aVu (cs:Array Value) (x:PLink):Prop:=∃a b y z,In64 a∧In64 b∧In64 y∧In64 z∧cs=#[.int .i64 a,.int .i64 b,.int .i64 y,.int .i64 z]∧x=⟨a,b,ofQ y z⟩
structure SecA (k:World) (A:Option Addr) (n:Nat) (B:Option Addr) (n':Nat) (C:Option Addr) (n'':Nat) (s:PSec):Prop where
 mats:Lst k A n 6 (aWr k) s.mats
 cells:Lst k B n' 7 aVo s.cells
 links:Lst k C n'' 4 aVu s.links
structure StateA (k:World) (A:Option Addr) (n:Nat) (B:Option Addr) (n':Nat) (C:Option Addr) (n'':Nat) (x:PState):Prop where
 temp:Lst k A n 2 aTp x.temp
 cure:Lst k B n' 2 aTp x.cure
 spoil:Lst k C n'' 2 aTp x.spoil
theorem Lst.kept {α:Type}[Inhabited α] {k k':World}{A:Option Addr}{n s:Nat}{P:Array Value→α→Prop}{l:List α}(h:Lst k A n s P l) (u:Up k k'):Lst k' A n s P l:=h.up u fun _ _ h=>h
structure FewP (s:PSec) (most:Nat):Prop where
 mats:s.mats.length≤10
 cells:s.cells.length≤most
 links:s.links.length≤2*most+20
 rates:∀i,i<s.mats.length→(at_ s.mats i).cure.length≤20∧(at_ s.mats i).spoil.length≤20
section
variable {k k':World}{R:World→Value→Prop}{s:PSec}{x:PState}{n0 n1 n2 d0 d1 d2 n3 n4 n5 d3 d4 d5 n c n' c' K L:Nat}{A0 A1 A2 A3 A4 A5 A A':Option Addr}
end
abbrev NR (K:Nat):World→Array Value→Rat→Prop:=fun k cs q=>QV k cs q K
section
variable {k k':World}{R:World→Value→Prop}{cs cs':Array Value}{x y:Rat}{K L n c n0 n1 n2 d0 d1 d2:Nat}{A A0 A1 A2:Option Addr}{s:PSec}
end
section
variable {α:Type}[Inhabited α] {k:World}{A:Option Addr}{n s i:Nat}{P:Array Value→α→Prop}{l:List α}
end
section
variable {k k':World}{R:World→Value→Prop}{cs cs':Array Value}{s:PSec}{K n0 n1 n2 d0 d1 d2:Nat}{A0 A1 A2:Option Addr}
end
section
variable {k k':World}{R:World→Value→Prop}{cs cs':Array Value}{u v t q p:Rat}{us vs:List Rat}{s:PSec}{x:PState}{K L T d n0 n1 n2 d0 d1 d2 n3 n4 n5 d3 d4 d5 n6 d6 n7 d7 M:Nat}{A0 A1 A2 A3 A4 A5 A6 A7:Option Addr}
end
section
variable {k k':World}{R:World→Value→Prop}{cs cs':Array Value}{u v t q p:Rat}{us vs:List Rat}{s:PSec}{x:PState}{K L T d n0 n1 n2 d0 d1 d2 n3 n4 n5 d3 d4 d5 n6 d6 n7 d7 M:Nat}{A0 A1 A2 A3 A4 A5 A6 A7:Option Addr}
end
section
variable {k:World}{R:World→Value→Prop}{cs:Array Value}{t:Rat}{s:PSec}{K n n0 n1 n2 d0 d1 d2:Nat}{A0 A1 A2:Option Addr}
end
theorem aPm (a:Nat):cT ((a:Int):Rat)=dec a:=by
 unfold cT;have h:¬ (((a:Int):Rat).num<0):=by rw [Rat.num_intCast];omega
 have h2:((a:Int):Rat).den=1:=Rat.den_intCast _;rw [oh h,og h2,Rat.num_intCast,vr,vk,oa]
theorem aUk {k:World}{p:Nat}{ty:TypeId}{cs:Array Value}(h:Sy.Blk k p ty cs):InAt k (some ⟨p,0,none⟩) cs:=fun q u hu=>
 ⟨p,0,rfl,Sy.heap_lt h,by rw [ql,cell_of_row k p q cs ty _ h];exact hu⟩
section
variable {α:Type}[Inhabited α] {k:World}{p s:Nat}{ty:TypeId}{cs a b:Array Value}{P:Array Value→α→Prop}{x y:α}
theorem xZ (h:Sy.Blk k p ty cs) (e:cs=a++b) (ha:a.size=s) (hb:b.size=s) (hx:P a x) (hy:P b y) (hP:∀a v,P a v→Seg s a):Lst k (some ⟨p,0,none⟩) 2 s P [x,y]:=by
 subst e;have h0:ArrV 0 s P #[] (at_ [x,y]):=ArrV.empty;have h1:=(h0.push (a:=a) ha hx).push (a:=b) hb hy;simp only [ki,zv]at h1;exact⟨rfl,_,aUk h,h1.rowC hP,h1⟩
end
def exS:PSec:=⟨[⟨[⟨0,0⟩,⟨60,1⟩],[⟨0,0⟩],1,1⟩],[⟨0,4,1,0⟩,⟨0,4,0,0⟩],[⟨0,1,1⟩]⟩
section
variable {k:World}{R:World→Value→Prop}{s:PSec}{t:Rat}{cs:Array Value}{K n0 n1 n2 d0 d1 d2:Nat}{A0 A1 A2:Option Addr}
theorem mG (hs:SecV (NP K) k A0 n0 A1 n1 A2 n2 s) (ht:RatV k cs t K) (hK1:1≤K) (hK:K≤1000000)
 (C:∀k' B0 m0 e0 B1 m1 e1 B2 m2 e2,Up k k'→StateV (NP K) k' B0 m0 B1 m1 B2 m2 (aEe (aF s) (aQ s t))→R k' (.tuple #[S3 B0 m0 e0 B1 m1 e1 B2 m2 e2,.int .i64 (aF s)])) :
 Cl k 10 #[S3 A0 n0 d0 A1 n1 d1 A2 n2 d2,.agg cs] R:=by
 intro k0 u0;replace hs:=SecV.up (aD K) hs u0;replace ht:=ht.up u0;replace C:=fun k' B0 m0 e0 B1 m1 e1 B2 m2 e2 u=>C k' B0 m0 e0 B1 m1 e1 B2 m2 e2 (u0.trans u);refine zJ ht.seg (nF hs hK1 hK fun k1 u1=>⟨_,rfl,fun f k2 u2=>?_,fun f=>?_⟩)
 ·have:=C k2 _ _ 0 _ _ 0 _ _ 0 (u1.trans u2) (by unfold aEe;rw [og (dW f)];exact wW);exact this
 ·have f:=cO f;have hc24:s.cells.length≤24:=by have:=bF f;unfold bW at this;omega
  refine sJ (s:=s) hs.cells.1 (by rw [hs.cells.1];omega) (ht.up u1) fun k6 B0 m0 e0 B1 m1 e1 B2 m2 e2 u6 hr=>⟨_,_,_,_,_,_,_,_,_,rfl,fun k7 u7=>?_⟩;have:=C k7 B0 m0 e0 B1 m1 e1 B2 m2 e2 ((u1.trans u6).trans u7) (by unfold aEe;rw [oh (by simp [f])];exact StateV.up (aD _) hr u7)
  rwa [f]at this
end
def oth (i:Int) (z:PLink):Nat:=(z.a+z.b-i).toNat
section
variable {k:World}{R:World→Value→Prop}{s:PSec}{x:PState}{us vs:List Rat}{n0 n1 n2 d0 d1 d2 n3 n4 n5 d3 d4 d5 n6 d6 n7 d7:Nat}{A0 A1 A2 A3 A4 A5 A6 A7:Option Addr}
end
