/- Several texts in one. (Printed by prep.py.) -/
import Derived.Test.YtpeakfmjibfkpaaGreatCyCU
import Derived.ChangeBookTie2
namespace Go.Proofs.YtpeakfmjibfkpaaGreat
set_option maxHeartbeats 1000000
open IntKind (wrap)
open Go.RowKit Num W32
open Sy (Up Sees CallsG Seg ReadAt)
abbrev NR' (K:Nat):World→Array Value→Rat→Prop:=fun k cs q=>QV k cs q K
def aYq (cs:Array Value) (q:Rat):Prop:=∃y z,In64 y∧In64 z∧cs=#[.int .i64 y,.int .i64 z]∧q=ofQ y z
def wX (cs:Array Value) (r:PRate):Prop:=∃y z y' z',In64 y∧In64 z∧In64 y'∧In64 z'∧cs=#[.int .i64 y,.int .i64 z,.int .i64 y',.int .i64 z']∧r=⟨ofQ y z,ofQ y' z'⟩
def MatA (k:World) (cs:Array Value) (m:PMat):Prop:=∃A n c B n' c' y z y' z',In64 y∧In64 z∧In64 y'∧In64 z'∧cs=#[.slice A n c,.slice B n' c',.int .i64 y,.int .i64 z,.int .i64 y',.int .i64 z']∧
 Lst k A n 4 wX m.cure∧Lst k B n' 4 wX m.spoil∧m.done=ofQ y z∧m.limit=ofQ y' z'
def aHv (cs:Array Value) (x:PCell):Prop:=∃m y z y' z' y'' z'',In64 m∧In64 y∧In64 z∧In64 y'∧In64 z'∧In64 y''∧In64 z''∧cs=#[.int .i64 m,.int .i64 y,.int .i64 z,.int .i64 y',.int .i64 z',.int .i64 y'',.int .i64 z'']∧x=⟨m,ofQ y z,ofQ y' z',ofQ y'' z''⟩
def aHw (cs:Array Value) (x:PLink):Prop:=∃a b y z,In64 a∧In64 b∧In64 y∧In64 z∧cs=#[.int .i64 a,.int .i64 b,.int .i64 y,.int .i64 z]∧x=⟨a,b,ofQ y z⟩
structure SecA (k:World) (A:Option Addr) (n:Nat) (B:Option Addr) (n':Nat) (C:Option Addr) (n'':Nat) (s:PSec):Prop where
 mats:Lst k A n 6 (MatA k) s.mats
 cells:Lst k B n' 7 aHv s.cells
 links:Lst k C n'' 4 aHw s.links
structure StateA (k:World) (A:Option Addr) (n:Nat) (B:Option Addr) (n':Nat) (C:Option Addr) (n'':Nat) (x:PState):Prop where
 temp:Lst k A n 2 aYq x.temp
 cure:Lst k B n' 2 aYq x.cure
 spoil:Lst k C n'' 2 aYq x.spoil
theorem Lst.kept {α:Type}[Inhabited α] {k k':World}{A:Option Addr}{n s:Nat}{P:Array Value→α→Prop}{l:List α}(h:Lst k A n s P l) (u:Up k k'):Lst k' A n s P l:=h.up u fun _ _ h=>h
theorem MatA.up {k k':World}{cs:Array Value}{m:PMat}(h:MatA k cs m) (u:Up k k'):MatA k' cs m:=by
 obtain⟨A,n,c,B,n',c',y,z,y',z',h1,h2,h3,h4,e,l0,l1,e1,e2⟩:=h;exact⟨A,n,c,B,n',c',y,z,y',z',h1,h2,h3,h4,e,l0.kept u,l1.kept u,e1,e2⟩
theorem SecA.up {k k':World}{A B C:Option Addr}{n n' n'':Nat}{s:PSec}(h:SecA k A n B n' C n'' s) (u:Up k k'):SecA k' A n B n' C n'' s:=⟨h.mats.up u fun _ _ h=>h.up u,h.cells.kept u,h.links.kept u⟩
structure FewP (s:PSec) (most:Nat):Prop where
 mats:s.mats.length≤10
 cells:s.cells.length≤most
 links:s.links.length≤2*most+20
 rates:∀i,i<s.mats.length→(at_ s.mats i).cure.length≤20∧(at_ s.mats i).spoil.length≤20
section
variable {k k':World}{R:World→Value→Prop}{s:PSec}{x:PState}{n0 n1 n2 d0 d1 d2 n3 n4 n5 d3 d4 d5 n c n' c' K L:Nat}{A0 A1 A2 A3 A4 A5 A A':Option Addr}
theorem bBo {most:Nat}(hs:SecA k A0 n0 A1 n1 A2 n2 s) (hm:most≤1000) (C:∀k' b,Up k k'→(b=true→FewP s most)→R k' (.bool b)) :
 Cl k 10 #[.agg #[.slice A0 n0 d0,.slice A1 n1 d1,.slice A2 n2 d2],.int .i64 most] R:=by
 intro k0 u0;replace hs:=hs.up u0;replace C:=fun k' b u=>C k' b (u0.trans u);have e0:=hs.mats.1;have e1:=hs.cells.1;have e2:=hs.links.1;have no:∀k',Up k0 k'→R k' (.bool false):=fun k' u=>C k' false u (by intro h;cases h);have wr:wrap .i64 ((wrap .i64 (2*(most:Int)))+20)=((2*most+20:Nat):Int):=by rw [vr,vr];omega
 refine aZe ⟨rfl,fun _=>no,fun a1=>⟨rfl,fun _=>no,fun a2=>⟨rfl,fun _=>no,fun a3=>⟨rfl,?_⟩⟩⟩⟩;rw [wr]at a3;replace a1:=ov a1;replace a2:=ov a2;replace a3:=ov a3;refine⟨fun m k vs=>∃j:Nat,j+m=n0∧vs=[.int .i64 j]∧∀i,i<j→(at_ s.mats i).cure.length≤20∧(at_ s.mats i).spoil.length≤20,⟨n0,fun k1 u1=>⟨0,oq,rfl,fun i hi=>oq⟩⟩,?_⟩;rintro m k1 vs u1 ⟨j,hj,rfl,hz⟩;refine⟨j,rfl,fun hlt=>?_,fun hge k2 u2=>?_⟩
 ·have hlt:=aH hlt;obtain⟨a,_,⟨B,p,q,D,p',q',y,z,y',z',_,_,_,_,rfl,l0,l1,_,_⟩,ha,hb,hr,_⟩:=(hs.up u1).mats.el (i:=j) oq oz;refine⟨ha,hb,B,p,q,D,p',q',_,_,_,_,hr k1 (Up.refl _),rfl,fun _ k2 u2=>no k2 (u1.trans u2),fun b1=>⟨rfl,fun _ k2 u2=>no k2 (u1.trans u2),fun b2 k2 u2=>?_⟩⟩;have b1:=ov b1;have b2:=ov b2;have g1:=l0.1;have g2:=l1.1;exact⟨m-1,oq,j+1,oq,by rw [aC oq],bP hz ⟨oq,oq⟩⟩
 ·have hge:=aG hge;exact C k2 true (u1.trans u2) fun _=>⟨oq,oq,oq,fun i hi=>hz i oq⟩
theorem aCy {l:List PRate}(hl:Lst k A n 4 wX l) (hn:l.length≤1000)
 (C:∀k' B m d B' m' d',Up k k'→Lst k' B m 6 (RateV (NP 1) k') l→Lst k' B' m' 6 (RateV (NR' 2) k') l→R k' (.tuple #[.slice B m d,.slice B' m' d'])) :
 Cl k 97 #[.slice A n c] R:=by
 intro k0 u0;replace hl:=hl.kept u0;replace C:=fun k' B m d B' m' d' u=>C k' B m d B' m' d' (u0.trans u);have hN:=aE 1;have hM:=cL 2;have en:=hl.1;have s0:∀ {k:World},∀a (v:PRate),RateV (NP 1) k a v→Seg 6 a:=fun _ _ h=>RateV.seg hN h;have s1:∀ {k:World},∀a (v:PRate),RateV (NR' 2) k a v→Seg 6 a:=fun _ _ h=>RateV.seg hM h
 refine aLu ⟨rfl,fun m k vs=>∃(j:Nat) (B0 B1:Option Addr) (e0 e1:Nat) (x0 x1:Array Value),j+m=n∧vs=[.int .i64 j,.tuple #[.slice B0 j e0,.agg x0],.tuple #[.slice B1 j e1,.agg x1]]∧
  ArrV j 6 (RateV (NP 1) k) x0 (at_ l)∧ArrV j 6 (RateV (NR' 2) k) x1 (at_ l),⟨n,fun k1 u1=>⟨0,_,_,_,_,_,_,oq,rfl,ArrV.empty,ArrV.empty⟩⟩,?_⟩
 rintro m k1 vs u1 ⟨j,B0,B1,e0,e1,x0,x1,hj,rfl,h0,h1⟩;refine⟨j,B0,j,e0,x0,h0.rowC s0,B1,j,e1,x1,h1.rowC s1,rfl,fun hlt=>?_,fun hge k2 u2 r0 k3 u3 r1 k4 u4=>?_⟩
 ·have hlt:=aH hlt;obtain⟨a,_,⟨y,z,y',z',i1,i2,i3,i4,rfl,er⟩,ha,hb,hr,_⟩:=(hl.kept u1).el (i:=j) oq oz;refine⟨ha,hb,y,z,y',z',hr k1 (Up.refl _),oS i1 i2 fun k2 a2 u2 w2=>⟨a2,w2.seg,rfl,oS i3 i4 fun k4 a4 u4 w4=>⟨a4,w4.seg,rfl,by simp [w2.seg.1,w4.seg.1],oz,⟨by simp;omega,by simp;omega⟩,?_⟩⟩⟩;rintro B0' _ g0' _ rfl rfl _;refine pT i1 i2 fun k6 a6 u6 w6=>⟨a6,w6.seg,rfl,pT i3 i4 fun k8 a8 u8 w8=>⟨a8,w8.seg,rfl,by simp [w6.seg.1,w8.seg.1],oz,⟨by simp;omega,by simp;omega⟩,?_⟩⟩;rintro B1' _ g1' _ rfl rfl _ k9 u9;have v9:=(((u2.trans u4).trans u6).trans u8).trans u9;refine⟨m-1,oq,j+1,B0',B1',g0',g1',_,_,oq,by rw [aC oq];rfl,?_,?_⟩
  ·refine ArrV.push (a:=(a2.toList++(a4.toList++([]))).toArray) (h0.mono fun a v h=>RateV.up hN h v9) (by simp [w2.seg.1,w4.seg.1]) ⟨a2,a4,rfl,?_,?_⟩
   ·rw [er];exact w2.up (((u4.trans u6).trans u8).trans u9)
   ·rw [er];exact w4.up ((u6.trans u8).trans u9)
  ·refine ArrV.push (a:=(a6.toList++(a8.toList++([]))).toArray) (h1.mono fun a v h=>RateV.up hM h v9) (by simp [w6.seg.1,w8.seg.1]) ⟨a6,a8,rfl,?_,?_⟩
   ·rw [er];exact w6.up (u8.trans u9)
   ·rw [er];exact w8.up u9
 ·have hge:=aG hge;have ej:j=l.length:=oq
  have v4:=(u2.trans u3).trans u4;refine C k4 B0 j e0 B1 j e1 (u1.trans v4) ⟨ej,?_⟩ ⟨ej,?_⟩
  ·exact (h0.mono fun a v h=>RateV.up hN h v4).els s0 (bZ r0 (u3.trans u4))
  ·exact (h1.mono fun a v h=>RateV.up hM h v4).els s1 (bZ r1 u4)
theorem aVx {l:List PMat}(hl:Lst k A n 6 (MatA k) l) (hn:l.length≤1000) (hr20:∀i,i<l.length→(at_ l i).cure.length≤20∧(at_ l i).spoil.length≤20)
 (C:∀k' B m d B' m' d',Up k k'→Lst k' B m 8 (MatV (NP 1) k') l→Lst k' B' m' 8 (MatV (NR' 2) k') l→R k' (.tuple #[.slice B m d,.slice B' m' d'])) :
 Cl k 52 #[.slice A n c] R:=by
 intro k0 u0;replace hl:=hl.up u0 fun _ _ h=>h.up u0;replace C:=fun k' B m d B' m' d' u=>C k' B m d B' m' d' (u0.trans u);have hN:=aE 1;have hM:=cL 2;have en:=hl.1;have s0:∀ {k:World},∀a (v:PMat),MatV (NP 1) k a v→Seg 8 a:=fun _ _ h=>MatV.seg hN h;have s1:∀ {k:World},∀a (v:PMat),MatV (NR' 2) k a v→Seg 8 a:=fun _ _ h=>MatV.seg hM h
 refine aRb ⟨rfl,fun m k vs=>∃(j:Nat) (B0 B1:Option Addr) (e0 e1:Nat) (x0 x1:Array Value),j+m=n∧vs=[.int .i64 j,.tuple #[.slice B0 j e0,.agg x0],.tuple #[.slice B1 j e1,.agg x1]]∧
  ArrV j 8 (MatV (NP 1) k) x0 (at_ l)∧ArrV j 8 (MatV (NR' 2) k) x1 (at_ l),⟨n,fun k1 u1=>⟨0,_,_,_,_,_,_,oq,rfl,ArrV.empty,ArrV.empty⟩⟩,?_⟩
 rintro m k1 vs u1 ⟨j,B0,B1,e0,e1,x0,x1,hj,rfl,h0,h1⟩;refine⟨j,B0,j,e0,x0,h0.rowC s0,B1,j,e1,x1,h1.rowC s1,rfl,fun hlt=>?_,fun hge k2 u2 r0 k3 u3 r1 k4 u4=>?_⟩
 ·have hlt:=aH hlt;obtain⟨g20,g21⟩:=hr20 j oq;obtain⟨a,_,⟨D,p,q,D',p',q',y,z,y',z',i1,i2,i3,i4,rfl,l0,l1,ed,el⟩,ha,hb,hr,_⟩:=(hl.up u1 fun _ _ h=>h.up u1).el (i:=j) oq oz;refine⟨ha,hb,D,p,q,D',p',q',y,z,y',z',hr k1 (Up.refl _),aCy l0 oq fun ka P0 m0 f0 P1 m1 f1 ua wa wa'=>⟨_,_,_,_,_,_,rfl,aCy (l1.kept ua) oq fun kb P2 m2 f2 P3 m3 f3 ub wb wb'=>⟨_,_,_,_,_,_,rfl,?_⟩⟩⟩;refine oS i1 i2 fun k2 a2 u2 w2=>⟨a2,w2.seg,rfl,oS i3 i4 fun k4 a4 u4 w4=>⟨a4,w4.seg,rfl,by simp [w2.seg.1,w4.seg.1],oz,⟨by simp;omega,by simp;omega⟩,?_⟩⟩;rintro B0' _ g0' _ rfl rfl _;refine pT i1 i2 fun k6 a6 u6 w6=>⟨a6,w6.seg,rfl,pT i3 i4 fun k8 a8 u8 w8=>⟨a8,w8.seg,rfl,by simp [w6.seg.1,w8.seg.1],oz,⟨by simp;omega,by simp;omega⟩,?_⟩⟩;rintro B1' _ g1' _ rfl rfl _ k9 u9;have x9:=(((u2.trans u4).trans u6).trans u8).trans u9;have v9:=(ua.trans ub).trans x9;refine⟨m-1,oq,j+1,B0',B1',g0',g1',_,_,oq,by rw [aC oq];rfl,?_,?_⟩
  ·refine ArrV.push (a:=((Value.slice P0 m0 f0) :: ((Value.slice P2 m2 f2) :: (a2.toList++(a4.toList++([]))))).toArray) (h0.mono fun a v h=>MatV.up hN h v9) (by simp [w2.seg.1,w4.seg.1]) ⟨P0,m0,f0,P2,m2,f2,a2,a4,rfl,aP hN wa (ub.trans x9),aP hN wb x9,?_,?_⟩
   ·rw [ed];exact w2.up (((u4.trans u6).trans u8).trans u9)
   ·rw [el];exact w4.up ((u6.trans u8).trans u9)
  ·refine ArrV.push (a:=((Value.slice P1 m1 f1) :: ((Value.slice P3 m3 f3) :: (a6.toList++(a8.toList++([]))))).toArray) (h1.mono fun a v h=>MatV.up hM h v9) (by simp [w6.seg.1,w8.seg.1]) ⟨P1,m1,f1,P3,m3,f3,a6,a8,rfl,aP hM wa' (ub.trans x9),aP hM wb' x9,?_,?_⟩
   ·rw [ed];exact w6.up (u8.trans u9)
   ·rw [el];exact w8.up u9
 ·have hge:=aG hge;have ej:j=l.length:=oq
  have v4:=(u2.trans u3).trans u4;refine C k4 B0 j e0 B1 j e1 (u1.trans v4) ⟨ej,?_⟩ ⟨ej,?_⟩
  ·exact (h0.mono fun a v h=>MatV.up hN h v4).els s0 (bZ r0 (u3.trans u4))
  ·exact (h1.mono fun a v h=>MatV.up hM h v4).els s1 (bZ r1 u4)
theorem aWa {most:Nat}(hs:SecA k A0 n0 A1 n1 A2 n2 s) (hf:FewP s most) (hm:most≤1000)
 (C:∀k' B0 m0 e0 B1 m1 e1 B2 m2 e2 D0 p0 f0 D1 p1 f1 D2 p2 f2,Up k k'→SecV (NP 1) k' B0 m0 B1 m1 B2 m2 s→SecV (NR' 2) k' D0 p0 D1 p1 D2 p2 s→
   R k' (.tuple #[.agg #[.slice B0 m0 e0,.slice B1 m1 e1,.slice B2 m2 e2],.agg #[.slice D0 p0 f0,.slice D1 p1 f1,.slice D2 p2 f2]])) :
 Cl k 14 #[.agg #[.slice A0 n0 d0,.slice A1 n1 d1,.slice A2 n2 d2]] R:=by
 intro k0 u0;replace hs:=hs.up u0;have hN:=aE 1;have hM:=cL 2;have en:=hs.cells.1;have el:=hs.links.1;have fc:=hf.cells;have fl:=hf.links;have s0:∀ {k:World},∀a (v:PCell),CellV (NP 1) k a v→Seg 10 a:=fun _ _ h=>CellV.seg hN h;have s1:∀ {k:World},∀a (v:PCell),CellV (NR' 2) k a v→Seg 10 a:=fun _ _ h=>CellV.seg hM h;have t0:∀ {k:World},∀a (v:PLink),LinkV (NP 1) k a v→Seg 5 a:=fun _ _ h=>LinkV.seg hN h;have t1:∀ {k:World},∀a (v:PLink),LinkV (NR' 2) k a v→Seg 5 a:=fun _ _ h=>LinkV.seg hM h;refine aRd (aVx hs.mats (by have:=hf.mats;omega) hf.rates fun ka P0 q0 g0 P1 q1 g1 ua wa wa'=>⟨_,_,_,_,_,_,rfl,rfl,?_⟩);replace hs:=hs.up ua
 refine⟨fun m k vs=>∃(j:Nat) (B0 B1:Option Addr) (e0 e1:Nat) (x0 x1:Array Value),j+m=n1∧vs=[.int .i64 j,.tuple #[.slice B0 j e0,.agg x0],.tuple #[.slice B1 j e1,.agg x1]]∧
  ArrV j 10 (CellV (NP 1) k) x0 (at_ s.cells)∧ArrV j 10 (CellV (NR' 2) k) x1 (at_ s.cells),⟨n1,fun k1 u1=>⟨0,_,_,_,_,_,_,oq,rfl,ArrV.empty,ArrV.empty⟩⟩,?_⟩
 rintro m k1 vs u1 ⟨j,B0,B1,e0,e1,x0,x1,hj,rfl,h0,h1⟩;refine⟨j,B0,j,e0,x0,h0.rowC s0,B1,j,e1,x1,h1.rowC s1,rfl,fun hlt=>?_,fun hge=>⟨rfl,?_⟩⟩
 ·have hlt:=aH hlt;obtain⟨a,_,⟨mm,y,z,y',z',y'',z'',i0,i1,i2,i3,i4,i5,i6,rfl,er⟩,ha,hb,hr,_⟩:=(hs.up u1).cells.el (i:=j) oq oz;refine⟨ha,hb,mm,y,z,y',z',y'',z'',hr k1 (Up.refl _),oS i1 i2 fun k2 a2 u2 w2=>⟨a2,w2.seg,rfl,oS i3 i4 fun k4 a4 u4 w4=>⟨a4,w4.seg,rfl,oS i5 i6 fun k6 a6 u6 w6=>⟨a6,w6.seg,rfl,by simp [w2.seg.1,w4.seg.1,w6.seg.1],oz,⟨by simp;omega,by simp;omega⟩,?_⟩⟩⟩⟩;rintro B0' _ g0' _ rfl rfl _;refine pT i1 i2 fun k8 a8 u8 w8=>⟨a8,w8.seg,rfl,pT i3 i4 fun ka aa ua wa=>⟨aa,wa.seg,rfl,pT i5 i6 fun kb ab ub wb=>⟨ab,wb.seg,rfl,by simp [w8.seg.1,wa.seg.1,wb.seg.1],oz,⟨by simp;omega,by simp;omega⟩,?_⟩⟩⟩;rintro B1' _ g1' _ rfl rfl _ k9 u9;have y9:=(u8.trans ua).trans (ub.trans u9);have v9:=((u2.trans u4).trans u6).trans y9;refine⟨m-1,oq,j+1,B0',B1',g0',g1',_,_,oq,by rw [aC oq];rfl,?_,?_⟩
  ·refine ArrV.push (a:=((Value.int .i64 mm) :: (a2.toList++(a4.toList++(a6.toList++([]))))).toArray) (h0.mono fun a v h=>CellV.up hN h v9) (by simp [w2.seg.1,w4.seg.1,w6.seg.1]) ?_;rw [er];exact⟨a2,a4,a6,rfl,w2.up ((u4.trans u6).trans y9),w4.up (u6.trans y9),w6.up y9⟩
  ·refine ArrV.push (a:=((Value.int .i64 mm) :: (a8.toList++(aa.toList++(ab.toList++([]))))).toArray) (h1.mono fun a v h=>CellV.up hM h v9) (by simp [w8.seg.1,wa.seg.1,wb.seg.1]) ?_;rw [er];exact⟨a8,aa,ab,rfl,w8.up (ua.trans (ub.trans u9)),wa.up (ub.trans u9),wb.up u9⟩
 have hge:=aG hge;have ej:j=s.cells.length:=oq
 replace hs:=hs.up u1
 refine⟨fun m k vs=>∃(j:Nat) (B0 B1:Option Addr) (e0 e1:Nat) (x0 x1:Array Value),j+m=n2∧vs=[.int .i64 j,.tuple #[.slice B0 j e0,.agg x0],.tuple #[.slice B1 j e1,.agg x1]]∧
  ArrV j 5 (LinkV (NP 1) k) x0 (at_ s.links)∧ArrV j 5 (LinkV (NR' 2) k) x1 (at_ s.links),⟨n2,fun k1 u1=>⟨0,_,_,_,_,_,_,oq,rfl,ArrV.empty,ArrV.empty⟩⟩,?_⟩
 rintro m' k2 vs' u2 ⟨i,D0,D1,f0,f1,z0,z1,hi,rfl,g0',g1'⟩;refine⟨i,D0,i,f0,z0,g0'.rowC t0,D1,i,f1,z1,g1'.rowC t1,rfl,fun hlt=>?_,fun hge k3 u3 r0 k4 u4 r1 k5 u5 r2 k6 u6 r3 k7 u7=>?_⟩
 ·have hlt:=aH hlt;obtain⟨a,_,⟨ia,ib,y,z,i1,i2,i3,i4,rfl,er⟩,ha,hb,hr,_⟩:=(hs.up u2).links.el (i:=i) oq oz;refine⟨ha,hb,ia,ib,y,z,hr k2 (Up.refl _),oS i3 i4 fun k3 a3 u3 w3=>⟨a3,w3.seg,rfl,by simp [w3.seg.1],oz,⟨by simp;omega,by simp;omega⟩,?_⟩⟩;rintro D0' _ f0' _ rfl rfl _;refine pT i3 i4 fun k5 a5 u5 w5=>⟨a5,w5.seg,rfl,by simp [w5.seg.1],oz,⟨by simp;omega,by simp;omega⟩,?_⟩;rintro D1' _ f1' _ rfl rfl _ k9 u9;refine⟨m'-1,oq,i+1,D0',D1',f0',f1',_,_,oq,by rw [aC oq];rfl,?_,?_⟩
  ·refine ArrV.push (a:=((Value.int .i64 ia) :: ((Value.int .i64 ib) :: (a3.toList++([])))).toArray) (g0'.mono fun a v h=>LinkV.up hN h ((u3.trans u5).trans u9)) (by simp [w3.seg.1]) ?_;rw [er];exact⟨a3,rfl,w3.up (u5.trans u9)⟩
  ·refine ArrV.push (a:=((Value.int .i64 ia) :: ((Value.int .i64 ib) :: (a5.toList++([])))).toArray) (g1'.mono fun a v h=>LinkV.up hM h ((u3.trans u5).trans u9)) (by simp [w5.seg.1]) ?_;rw [er];exact⟨a5,rfl,w5.up u9⟩
 ·have hge:=aG hge;have ei:i=s.links.length:=oq
  have y3:=(((u3.trans u4).trans u5).trans u6).trans u7;have y1:=(u2.trans y3);refine C k7 P0 q0 g0 B0 j e0 D0 i f0 P1 q1 g1 B1 j e1 D1 i f1 (((u0.trans ua).trans u1).trans y1) ⟨?_,⟨ej,?_⟩,⟨ei,?_⟩⟩ ⟨?_,⟨ej,?_⟩,⟨ei,?_⟩⟩
  ·exact wa.up (u1.trans y1) fun _ _ h=>MatV.up hN h (u1.trans y1)
  ·exact (h0.mono fun a v h=>CellV.up hN h y1).els s0 (bZ r0 (((u4.trans u5).trans u6).trans u7))
  ·exact (g0'.mono fun a v h=>LinkV.up hN h y3).els t0 (bZ r1 ((u5.trans u6).trans u7))
  ·exact wa'.up (u1.trans y1) fun _ _ h=>MatV.up hM h (u1.trans y1)
  ·exact (h1.mono fun a v h=>CellV.up hM h y1).els s1 (bZ r2 (u6.trans u7))
  ·exact (g1'.mono fun a v h=>LinkV.up hM h y3).els t1 (bZ r3 u7)
end
abbrev NR (K:Nat):World→Array Value→Rat→Prop:=fun k cs q=>QV k cs q K
theorem mX {q:Rat}:decide ((q.num.sign:Int)≤0)=decide (¬ 0<q):=by
 refine decide_eq_decide.2 ?_;rw [←aRu];rcases uy q.num 0 with h|h|h
 ·rw [vg h];omega
 ·rw [h];decide
 ·rw [xy h];omega
theorem sY {x y:Rat}:0<x-y↔y<x:=by
 constructor <;> intro h <;> grind
theorem zU {x y:Rat}:decide (((x-y).num.sign:Int)≤0)=decide (¬ y<x):=by rw [mX];exact decide_eq_decide.2 (not_congr sY)
theorem kL {x y:Rat}:decide (((x-y).num.sign:Int) > 0)=decide (y<x):=by rw [wE];exact decide_eq_decide.2 sY
theorem aGu {l:List PRate}(h:bC l=0):∀ {j i:Nat},i≤j→j<l.length→(at_ l i).f≤(at_ l j).f:=by
 intro j
 induction j with
 | zero=>intro i hi _;have:i=0:=oq
         subst this;exact xg
 | succ j ih=>
  intro i hi hj
  by_cases e:i=j+1
  ·subst e;exact xg
  ·have h1:=ih (by omega:i≤j) oq;have hE:iA (dD l) l.length=0:=by
    unfold bC at h;split at h
    ·cases h
    ·exact h
   have h2:=cP hE (j+1) hj;unfold dD at h2;split at h2
   ·cases h2
   ·rename_i hn;rw [xz]at hn;have h3:(at_ l j).f<(at_ l (j+1)).f:=xe fun g=>hn ⟨oq,g⟩;exact ur h1 (Rat.le_of_lt h3)
theorem bAn {l:List PRate}{t:Rat}{j:Nat}(h:bC l=0) (hj:j<l.length) (h1:(at_ l j).f≤t) (h2:∀i,j<i→i<l.length→¬ (at_ l i).f≤t):spd l t=(at_ l j).v:=by
 have e:=qK (t:=t) (l:=l) (j:=j+1) oq (fun i hi=>ur (aGu h oq hj) h1) (fun hl=>h2 (j+1) oq hl);unfold spd;rw [e,oh oq,xz]
theorem aTv {l:List PRate}{t:Rat}(h2:∀i,i<l.length→¬ (at_ l i).f≤t):spd l t=0:=by
 have e:=qK (t:=t) (l:=l) (j:=0) oq (fun i hi=>by omega) (fun hl=>h2 0 hl);unfold spd;rw [e,og rfl]
section
variable {k k':World}{R:World→Value→Prop}{cs cs':Array Value}{x y:Rat}{K L n c n0 n1 n2 d0 d1 d2:Nat}{A A0 A1 A2:Option Addr}{s:PSec}
theorem aIy {l:List PRate}(hl:Lst k A n 6 (RateV (NR K) k) l) (hK:K≤1000000) (C:∀k',Up k k'→R k' (.int .i64 (bC l))) :
 Cl k 104 #[.slice A n c] R:=by
 intro k0 u0;have hN:=cL K;replace hl:=aP hN hl u0;replace C:=fun k' u=>C k' (u0.trans u);have hn:=hl.1;refine aNk ⟨rfl,fun h k1 u1=>?_,fun h1=>⟨rfl,fun h k1 u1=>?_,fun h2=>?_⟩⟩
 ·have:=C k1 u1;unfold bC at this
  rwa [og (by simp at h;omega)]at this
 ·have:=C k1 u1;unfold bC at this
  rwa [og (by have:=ow h;omega)]at this
 ·have h1:n≠0:=by simp at h1;omega
  have h2:=ov h2;have hE:=yR (l:=l) oq oq;rw [hE]at C;refine⟨fun m k vs=>∃j:Nat,j+m=n∧vs=[.int .i64 j]∧∀i,i<j→dD l i=0,⟨n,fun k1 u1=>⟨0,oq,rfl,fun i hi=>oq⟩⟩,?_⟩;rintro m k1 vs u1 ⟨j,hj,rfl,hz⟩;have succ:dD l j=0→∀i,i<j+1→dD l i=0:=fun h i hi=>by
   by_cases e:i=j
   ·rw [e];exact h
   ·exact hz i oq
  refine⟨j,rfl,rfl,fun hlt=>?_,fun hge k2 u2=>?_⟩
  ·have hlt:=aH hlt;have hl1:=aP hN hl u1;obtain⟨a,_,⟨c0,c1,rfl,h0,h3⟩,ha,hb,_,hr⟩:=hl1.el (i:=j) oq oz;have stop:∀(e:Int),e≠0→dD l j=e→∀k',Up k1 k'→R k' (.int .i64 e):=fun e he h k' u=>by
    have:=C k' (u1.trans u)
    rwa [eL hz h he oq]at this
   have go:dD l j=0→∃m',m'<m∧∃j':Nat,j'+m'=n∧[Value.int .i64 (wrap .i64 ((j:Int)+1))]=[.int .i64 j']∧∀i,i<j'→dD l i=0:=fun h=>⟨m-1,oq,j+1,oq,by rw [aC oq],succ h⟩;refine⟨fun hp=>?_,fun hp=>?_⟩
   ·have hp:=ow hp;have hp:0<j:=oq
    rw [rH hp oq];obtain⟨a',_,⟨d0,d1,rfl,g0,g1⟩,ha',hb',_,hr'⟩:=hl1.el (i:=j-1) oq oz;refine⟨ha,hb,ha,hb,c0,h0.seg,hr k1 c0 0 3 (Up.refl _) h0.seg.1 (fun q u h=>by rw [qb];exact fS h),ha',hb',ha',hb',d0,g0.seg,hr' k1 d0 0 3 (Up.refl _) g0.seg.1 (fun q u h=>by rw [qb];exact fS h),?_⟩;refine sB h0 g0 oq fun k3 u3=>⟨_,rfl,fun hf=>?_,fun hf=>?_⟩
    ·rw [zU]at hf;intro k5 u5;exact stop 7 oz (by unfold dD;rw [og ⟨hp,ow hf⟩]) k5 (u3.trans u5)
    ·rw [zU]at hf;have hf:¬ ¬ (at_ l (j-1)).f<(at_ l j).f:=ov hf;refine⟨ha,hb,ha,hb,c1,h3.seg,hr k3 c1 3 3 u3 h3.seg.1 (fun q u h=>nD h0.seg.1 (fS h)),?_⟩;refine mA (h3.up u3) fun k6 u6=>⟨_,rfl,fun hv=>?_,fun hv=>⟨fun _=>⟨ha,hb,ha,hb,c1,h3.seg,hr k6 c1 3 3 (u3.trans u6) h3.seg.1 (fun q u h=>nD h0.seg.1 (fS h)),ha',hb',ha',hb',d1,g1.seg,hr' k6 d1 3 3 (u3.trans u6) g1.seg.1 (fun q u h=>nD g0.seg.1 (fS h)),?_⟩,fun h=>?_⟩⟩
     ·rw [dT]at hv;intro k8 u8;exact stop 1 oz (by unfold dD;rw [oh (by rintro⟨_,h⟩;exact hf h),og (ow hv)]) k8 ((u3.trans u6).trans u8)
     ·rw [dT]at hv;refine sB ((h3.up u3).up u6) ((g1.up u3).up u6) oq fun k9 u9=>⟨_,rfl,fun hw=>?_,fun hw=>?_⟩
      ·rw [kG]at hw;intro k11 u11;exact stop 7 oz (by unfold dD;rw [oh (by rintro⟨_,h⟩;exact hf h),oh (ov hv),og ⟨hp,ow hw⟩]) k11 (((u3.trans u6).trans u9).trans u11)
      ·rw [kG]at hw;intro k12 u12;exact go (by unfold dD;rw [oh (by rintro⟨_,h⟩;exact hf h),oh (ov hv),oh (by rintro⟨_,h⟩;exact ov hw h)])
     ·have:=ov h;omega
   ·have hp:=ov hp;have hp:j=0:=oq
    refine⟨ha,hb,ha,hb,c1,h3.seg,hr k1 c1 3 3 (Up.refl _) h3.seg.1 (fun q u h=>nD h0.seg.1 (fS h)),?_⟩;refine mA h3 fun k6 u6=>⟨_,rfl,fun hv=>?_,fun hv=>⟨fun h=>?_,fun _=>?_⟩⟩
    ·rw [dT]at hv;intro k8 u8;exact stop 1 oz (by unfold dD;rw [oh oq,og (ow hv)]) k8 (u6.trans u8)
    ·have:=ow h;omega
    ·rw [dT]at hv;intro k12 u12;exact go (by unfold dD;rw [oh oq,oh (ov hv),oh oq])
  ·have hge:=aG hge;have:=C k2 (u1.trans u2)
   rwa [dB fun i hi=>hz i oq]at this
theorem aUm {k:World}{cs:Array Value}(h:QV k cs ((0:Int):Rat) 2) (hK:2≤K):QV k cs 0 K:=by
 have:((0:Int):Rat)=0:=rfl;rw [this]at h;exact h.mono hK
theorem aJg {l:List PRate}(hl:Lst k A n 6 (RateV (NR K) k) l) (hx:QV k cs x L) (hE:bC l=0) (hK2:2≤K) (hK:K+L≤10000000000) (C:∀k' ds,Up k k'→QV k' ds (spd l x) K→R k' (.agg ds)) :
 Cl k 163 #[.slice A n c,.agg cs] R:=by
 intro k0 u0;have hN:=cL K;replace hl:=aP hN hl u0;replace hx:=hx.up u0;replace C:=fun k' ds u=>C k' ds (u0.trans u);have hn:=hl.1;have h16:l.length≤16:=by
  unfold bC at hE;split at hE
  ·cases hE
  ·omega
 have h1:1≤l.length:=by
  unfold bC at hE;split at hE
  ·cases hE
  ·omega
 refine aNm hx.seg ⟨rfl,fun m k vs=>∃j:Nat,j=m∧j≤n∧vs=[.int .i64 ((j:Int)-1)]∧∀i,j≤i→i<l.length→¬ (at_ l i).f≤x,⟨n,fun k1 u1=>⟨n,rfl,oy _,by rw [rH oq oq];congr 2;omega,fun i h1 h2=>oq⟩⟩,?_⟩;rintro m k1 vs u1 ⟨j,rfl,hj,rfl,hz⟩;refine⟨(j:Int)-1,rfl,fun hlt=>?_,fun hge=>?_⟩
 ·have hlt:=ow hlt;have hlt:0<j:=oq
  have ej:((j:Int)-1)=((j-1:Nat):Int):=oq
  rw [ej];have hl1:=aP hN hl u1;obtain⟨a,_,⟨c0,c1,rfl,h0,h3⟩,ha,hb,_,hr⟩:=hl1.el (i:=j-1) oq oz;refine⟨ha,hb,ha,hb,c0,h0.seg,hr k1 c0 0 3 (Up.refl _) h0.seg.1 (fun q u h=>by rw [qb];exact fS h),?_⟩;refine sB h0 (hx.up u1) oq fun k2 u2=>⟨_,rfl,fun hf=>?_,fun hf k4 u4=>?_⟩
  ·rw [zU]at hf;have hf:¬ x<(at_ l (j-1)).f:=ow hf;refine⟨ha,hb,ha,hb,c1,h3.seg,hr k2 c1 3 3 u2 h3.seg.1 (fun q u h=>nD h0.seg.1 (fS h)),fun k3 u3=>?_⟩;exact C k3 c1 ((u1.trans u2).trans u3) (by rw [bAn hE oq (yy.1 hf) fun i h1 h2=>hz i oq h2];exact (h3.up u2).up u3)
  ·rw [zU]at hf;have hf:¬ ¬ x<(at_ l (j-1)).f:=ov hf;refine⟨j-1,oq,j-1,rfl,oq,?_,fun i h1 h2=>?_⟩
   ·congr 2
    rw [vr];omega
   ·by_cases e:i=j-1
    ·rw [e];exact fun h=>hf (yy.2 h)
    ·exact hz i oq h2
 ·have hge:=ov hge;refine aJn (z:=0) oz oz fun k3 ds u3 hd=>⟨ds,hd.seg,rfl,fun k4 u4=>?_⟩;exact C k4 ds ((u1.trans u3).trans u4) (by rw [aTv fun i h=>hz i oq h];exact (aUm hd hK2).up u4)
theorem wO {i j:Int}(C:∀k',Up k k'→R k' (.bool (decide (0≤i∧i<j)))):Cl k 106 #[.int .i64 i,.int .i64 j] R:=by
 intro k0 u0;refine aHe ⟨fun h k1 u1=>?_,fun h k1 u1=>?_⟩
 ·have:=C k1 (u0.trans u1);have h:=ow h
  rwa [show decide (0≤i∧i<j)=decide (i<j) from decide_eq_decide.2 ⟨fun g=>g.2,fun g=>⟨h,g⟩⟩]at this
 ·have:=C k1 (u0.trans u1);have h:=ov h
  rwa [show decide (0≤i∧i<j)=false from decide_eq_false fun g=>h g.1]at this
end
section
variable {α:Type}[Inhabited α] {k:World}{A:Option Addr}{n s i:Nat}{P:Array Value→α→Prop}{l:List α}
theorem Lst.elx (h:Lst k A n s P l) (hi:i<l.length) (hs:0<s):∃a:Array Value,a.size=s∧P a (at_ l i)∧(∃b o,A=some ⟨b,o,none⟩)∧((0:Int)≤(i:Int)∧((i:Int):Int)<(n:Nat))∧
 (∀k',Up k k'→ReadAt k'.cell? A (Int.toNat (i:Int)*s+0) s (.agg a))∧
 (∀k' (c:Array Value) j m,Up k k'→c.size=m→(∀(q:Nat) u,c[q]?=some u→a[j+q]?=some u)→ReadAt k'.cell? A (Int.toNat (i:Int)*s+j) m (.agg c))∧
 ∀k' j z,Up k k'→a[j]?=some (.int .i64 z)→ReadAt k'.cell? A (Int.toNat (i:Int)*s+j) 1 (.int .i64 z):=by
 obtain⟨a,h1,h2,h3,h4⟩:=h.2.el (i:=i) (by rw [h.1];exact hi) hs;refine⟨a,h1,h2,h3,⟨oq,by have:=h.1;omega⟩,fun k' u=>h4 k' u 0 s (.agg a) h1 fun q v hv=>by rw [qb];exact hv,fun k' c j m u hc hq=>h4 k' u j m (.agg c) hc hq,fun k' j z u hz=>h4 k' u j 1 (.int .i64 z) rfl fun q v hv=>?_⟩
 match q,hv with
 | 0,hv=>
  have:v=.int .i64 z:=by
   have e:(Value.int .i64 z).cells=#[.int .i64 z]:=rfl;rw [e]at hv;simpa using hv.symm
  rw [this];exact hz
 | q+1,hv=>
  have e:(Value.int .i64 z).cells=#[.int .i64 z]:=rfl;rw [e]at hv;simp at hv
end
theorem vI {L:List PLink}{j:Nat}(h:j<L.length) (i:Int):nbm (L.take (j+1)) i=nbm (L.take j) i++((if (at_ L j).a=i then [at_ L j] else [])++(if (at_ L j).b=i then [at_ L j] else [])):=by
 unfold nbm;rw [ze h,yu,eC h];simp
theorem aUb {L:List PLink}{j:Nat}(h:j<L.length) (i:Int) (t:Rat) (hne:(at_ L j).a≠(at_ L j).b) :
 tot (L.take (j+1)) i t=if (at_ L j).a=i∨(at_ L j).b=i then tot (L.take j) i t+(at_ L j).v else tot (L.take j) i t:=by
 unfold tot;rw [vI h,List.foldl_append]
 by_cases h1:(at_ L j).a=i
 ·have h2:(at_ L j).b≠i:=fun e=>hne (by rw [h1,e]);simp [h1,h2]
 ·by_cases h2:(at_ L j).b=i <;> simp [h1,h2]
theorem sL {b:Bool}(h:(!b)=true):b=false:=by simpa using h
theorem nP {b:Bool}(h:(!b)=false):b=true:=by simpa using h
theorem eT {x y:Int}(h:(x == y)=true):x=y:=by simpa using h
theorem fC {x y:Int}(h:(x == y)=false):x≠y:=by simpa using h
theorem aBk {L:List PLink}{x:PLink}:∀ {i:Nat},((List.range i).any (fun k=>pair x (at_ L k))=true)↔∃k,k<i∧pair x (at_ L k)=true:=by
 intro i;rw [List.any_eq_true];constructor
 ·rintro⟨k,hk,h⟩;exact⟨k,by simpa using hk,h⟩
 ·rintro⟨k,hk,h⟩;exact⟨k,by simpa using hk,h⟩
section
variable {k k':World}{R:World→Value→Prop}{cs cs':Array Value}{s:PSec}{K n0 n1 n2 d0 d1 d2:Nat}{A0 A1 A2:Option Addr}
theorem aXr (hs:SecV (NR K) k A0 n0 A1 n1 A2 n2 s) (hne:∀i,i<s.links.length→(at_ s.links i).a≠(at_ s.links i).b) {i:Nat}(hi:i<s.cells.length) (hn:s.links.length≤64) (hK:K≤1000000)
 (C:∀k' ds,Up k k'→QV k' ds (tot s.links i ((at_ s.cells i).steam+(at_ s.cells i).air)) (2*K+1+64*(K+1))→R k' (.agg ds)) :
 Cl k 107 #[.agg #[.slice A0 n0 d0,.slice A1 n1 d1,.slice A2 n2 d2],.int .i64 i] R:=by
 intro k0 u0;have hN:=cL K;replace hs:=SecV.up hN hs u0;replace C:=fun k' ds u=>C k' ds (u0.trans u);have e2:=hs.links.1;obtain⟨a,_,⟨c0,c1,c2,rfl,q0,q1,q2⟩,ha,hb,_,hr,_⟩:=hs.cells.elx hi oz;refine aNp ⟨ha,hb,ha,hb,c1,q1.seg,hr k0 c1 4 3 (Up.refl _) q1.seg.1 (fun q u h=>?_),ha,hb,ha,hb,c2,q2.seg,hr k0 c2 7 3 (Up.refl _) q2.seg.1 (fun q u h=>?_),?_⟩
 ·exact rA (d:=3) (nD q0.seg.1 (fS h))
 ·have t:=nD (c:=c0) q0.seg.1 (nD (c:=c1) q1.seg.1 (fS (l:=[]) h));rw [show 3+(3+q)=6+q by omega]at t;exact rA (d:=6) t
 ·refine nC q1 q2 oq fun k1 ds u1 hd=>⟨ds,hd.seg,rfl,?_⟩;refine⟨fun m k vs=>∃(j:Nat) (ds:Array Value),j+m=n2∧vs=[.int .i64 j,.agg ds]∧QV k ds (tot (s.links.take j) i ((at_ s.cells i).steam+(at_ s.cells i).air)) (2*K+1+j*(K+1)),⟨n2,fun k2 u2=>⟨0,ds,oq,rfl,(hd.up u2).mono oq⟩⟩,?_⟩;rintro m k2 vs u2 ⟨j,es,hj,rfl,he⟩;have hmul:j*(K+1)≤64*(K+1):=od _ oq;have hsucc:(j+1)*(K+1)=j*(K+1)+(K+1):=jt _ _;refine⟨j,es,he.seg,rfl,rfl,fun hlt=>?_,fun hge k10 u10=>?_⟩
  ·have hlt:=aH hlt;have hjl:j<s.links.length:=oq
   obtain⟨a,_,⟨c3,rfl,g3⟩,ha,hb,_,hr,hr1⟩:=(SecV.up hN hs (u1.trans u2)).links.elx (i:=j) hjl oz;have g4:∀k',Up k2 k'→ReadAt k'.cell? A2 (Int.toNat (j:Int)*5+2) 3 (.agg c3):=fun k' u=>hr k' c3 2 3 u g3.seg.1 fun q u h=>rA (d:=1) (rA (d:=0) (by rw [qb];exact fS h));have ht:=aUb hjl (i:Int) ((at_ s.cells i).steam+(at_ s.cells i).air) (hne j hjl);have done:∀k' fs,QV k' fs (tot (s.links.take j) i ((at_ s.cells i).steam+(at_ s.cells i).air)+(at_ s.links j).v) (2*K+1+j*(K+1)+K+1)→((at_ s.links j).a=i∨(at_ s.links j).b=i)→QV k' fs (tot (s.links.take (j+1)) i ((at_ s.cells i).steam+(at_ s.cells i).air)) (2*K+1+(j+1)*(K+1)):=fun k' fs h g=>by
    rw [ht,og g];exact h.mono oq
   refine⟨ha,hb,ha,hb,_,hr1 k2 0 _ (Up.refl _) rfl,fun f=>?_,fun f=>⟨ha,hb,ha,hb,_,hr1 k2 1 _ (Up.refl _) rfl,fun g=>?_,fun g k9 u9=>?_⟩⟩
   ·refine⟨ha,hb,ha,hb,c3,g3.seg,g4 k2 (Up.refl _),nC he g3 oq fun k4 fs u4 hf=>⟨fs,hf.seg,rfl,fun k5 u5=>⟨m-1,oq,j+1,fs,oq,by rw [aC oq],?_⟩⟩⟩;exact (done k4 fs hf (.inl (eT f))).up u5
   ·refine⟨ha,hb,ha,hb,c3,g3.seg,g4 k2 (Up.refl _),nC he g3 oq fun k4 fs u4 hf=>⟨fs,hf.seg,rfl,fun k5 u5=>⟨m-1,oq,j+1,fs,oq,by rw [aC oq],?_⟩⟩⟩;exact (done k4 fs hf (.inr (eT g))).up u5
   ·refine⟨m-1,oq,j+1,es,oq,by rw [aC oq],?_⟩;rw [ht,oh (by rintro (h|h);exact fC f h;exact fC g h)];exact (he.up u9).mono oq
  ·have hge:=aG hge;rw [zp oq]at he;exact C k10 es ((u1.trans u2).trans u10) ((he.up u10).mono oq)
theorem aJk (hs:SecV (NR K) k A0 n0 A1 n1 A2 n2 s) (hK:K≤1000000) (C:∀k',Up k k'→R k' (.int .i64 (aF s))) :
 Cl k 58 #[.agg #[.slice A0 n0 d0,.slice A1 n1 d1,.slice A2 n2 d2]] R:=by
 intro k0 u0;have hN:=cL K;replace hs:=SecV.up hN hs u0;replace C:=fun k' u=>C k' (u0.trans u);have e0:=hs.mats.1;have e1:=hs.cells.1;have e2:=hs.links.1;have big:aY s→∀k',Up k0 k'→R k' (.int .i64 4):=fun h k' u=>by
  have:=C k' u;unfold aF at this
  rwa [og h]at this
 refine aNt ⟨rfl,fun a=>big ?_,fun a1=>⟨rfl,fun a=>big ?_,fun a2=>⟨rfl,fun a=>big ?_,fun a3=>⟨rfl,fun a=>big ?_,fun a4=>⟨rfl,fun a=>big ?_,fun a5=>?_⟩⟩⟩⟩⟩
 ·have:=eT a;unfold aY;omega
 ·have:=ow a;unfold aY;omega
 ·have:=eT a;unfold aY;omega
 ·have:=ow a;unfold aY;omega
 ·have:=ow a;unfold aY;omega
 replace a1:=fC a1;replace a2:=ov a2;replace a3:=fC a3;replace a4:=ov a4;replace a5:=ov a5;have hsz:¬ aY s:=by unfold aY;omega
 clear big;unfold aF at C;rw [oh hsz]at C;refine⟨fun m k vs=>∃j:Nat,j+m=n0∧vs=[.int .i64 j]∧∀i,i<j→mZ (at_ s.mats i)=0,⟨n0,fun k1 u1=>⟨0,oq,rfl,fun i hi=>oq⟩⟩,?_⟩;rintro m k1 vs u1 ⟨j,hj,rfl,hz⟩;refine⟨j,rfl,rfl,fun hlt=>?_,fun hge=>?_⟩
 ·have hlt:=aH hlt;obtain⟨a,_,⟨B,p,q,D,p',q',c0,c1,rfl,l0,l1,g0,g1⟩,ha,hb,hr,_⟩:=(SecV.up hN hs u1).mats.elx (i:=j) oq oz;have stop:∀e:Int,e≠0→mZ (at_ s.mats j)=e→∀k',Up k1 k'→R k' (.int .i64 e):=fun e he h k' u=>by
   have:=C k' (u1.trans u);have e3:nL s=e:=by unfold nL;exact eL hz h he oq
   rwa [og (by rw [e3];exact he),e3]at this
  refine⟨ha,hb,B,p,q,D,p',q',c0,g0.seg,c1,g1.seg,hr k1 (Up.refl _),aIy l0 hK fun k2 u2=>⟨_,rfl,fun f k3 u3=>?_,fun f=>aIy (aP hN l1 u2) hK fun k4 u4=>⟨_,rfl,fun g k5 u5=>?_,fun g=>?_⟩⟩⟩
  ·exact stop _ (cE f) (by unfold mZ;rw [og (cE f)]) k3 (u2.trans u3)
  ·exact stop _ (cE g) (by unfold mZ;rw [oh (by simp [bD f]),if_pos (cE g)]) k5 ((u2.trans u4).trans u5)
  ·refine mA ((g0.up u2).up u4) fun k6 u6=>⟨_,rfl,fun p k7 u7=>?_,fun p=>mA (((g1.up u2).up u4).up u6) fun k8 u8=>⟨_,rfl,fun q k9 u9=>?_,fun q k9 u9=>?_⟩⟩
   ·rw [mX]at p;exact stop 1 oz (by unfold mZ;rw [oh (by simp [bD f]),if_neg (by simp [bD g]),og (.inl (ow p))]) k7 (((u2.trans u4).trans u6).trans u7)
   ·rw [mX]at q;exact stop 1 oz (by unfold mZ;rw [oh (by simp [bD f]),if_neg (by simp [bD g]),og (.inr (ow q))]) k9 ((((u2.trans u4).trans u6).trans u8).trans u9)
   ·rw [mX]at p q;have hm:mZ (at_ s.mats j)=0:=by
     unfold mZ;rw [oh (by simp [bD f]),if_neg (by simp [bD g]),oh (by rintro (h|h);exact ov p h;exact ov q h)]
    exact⟨m-1,oq,j+1,oq,by rw [aC oq],bP hz hm⟩
 have hge:=aG hge;have hM:nL s=0:=dB fun i hi=>hz i oq;rw [oh (by simp [hM])]at C;replace C:=fun k' u=>C k' (u1.trans u);replace hs:=SecV.up hN hs u1;clear hz hj hge u1;refine⟨fun m k vs=>∃j:Nat,j+m=n1∧vs=[.int .i64 j]∧∀i,i<j→lJ s.mats.length (at_ s.cells i)=0,⟨n1,fun k1 u1=>⟨0,oq,rfl,fun i hi=>oq⟩⟩,?_⟩;rintro m k2 vs u2 ⟨j,hj,rfl,hz⟩;refine⟨j,rfl,rfl,fun hlt=>?_,fun hge=>?_⟩
 ·have hlt:=aH hlt;obtain⟨a,_,⟨c0,c1,c2,rfl,g0,g1,g2⟩,ha,hb,hr,_⟩:=(SecV.up hN hs u2).cells.elx (i:=j) oq oz;have stop:(at_ s.cells j).m<0∨(s.mats.length:Int)≤(at_ s.cells j).m∨¬ 0<(at_ s.cells j).cap∨(at_ s.cells j).steam<0∨(at_ s.cells j).air<0→∀k',Up k2 k'→R k' (.int .i64 1):=fun h k' u=>by
   have:=C k' (u2.trans u);have e3:kJ s=1:=by unfold kJ;exact eL hz (by unfold lJ;rw [og h]) oz oq
   rwa [og (by rw [e3];decide),e3]at this
  refine⟨ha,hb,_,c0,g0.seg,c1,g1.seg,c2,g2.seg,hr k2 (Up.refl _),rfl,wO fun k3 u3=>⟨_,rfl,fun f k4 u4=>?_,fun f=>?_⟩⟩
  ·refine stop ?_ k4 (u3.trans u4);have f:¬ (0≤(at_ s.cells j).m∧(at_ s.cells j).m<(n0:Nat)):=ov (sL f);omega
  ·have f:0≤(at_ s.cells j).m∧(at_ s.cells j).m<(n0:Nat):=ow (nP f);refine mA (g0.up u3) fun k4 u4=>⟨_,rfl,fun p k5 u5=>?_,fun p=>mA ((g1.up u3).up u4) fun k6 u6=>⟨_,rfl,fun q k7 u7=>?_,fun q=>mA (((g2.up u3).up u4).up u6) fun k8 u8=>⟨_,rfl,fun r k9 u9=>?_,fun r k9 u9=>?_⟩⟩⟩
   ·rw [mX]at p;exact stop (.inr (.inr (.inl (ow p)))) k5 ((u3.trans u4).trans u5)
   ·rw [dT]at q;exact stop (.inr (.inr (.inr (.inl (ow q))))) k7 (((u3.trans u4).trans u6).trans u7)
   ·rw [dT]at r;exact stop (.inr (.inr (.inr (.inr (ow r))))) k9 ((((u3.trans u4).trans u6).trans u8).trans u9)
   ·rw [mX]at p;rw [dT]at q r;have hc:lJ s.mats.length (at_ s.cells j)=0:=by
     unfold lJ;rw [oh];rintro (h|h|h|h|h)
     ·omega
     ·omega
     ·exact ov p h
     ·exact ov q h
     ·exact ov r h
    exact⟨m-1,oq,j+1,oq,by rw [aC oq],bP hz hc⟩
 have hge:=aG hge;have hC:kJ s=0:=dB fun i hi=>hz i oq;rw [oh (by simp [hC])]at C;replace C:=fun k' u=>C k' (u2.trans u);replace hs:=SecV.up hN hs u2;clear hz hj hge u2;refine⟨fun m k vs=>∃j:Nat,j+m=n2∧vs=[.int .i64 j]∧∀i,i<j→gM s.cells.length s.links i=0,⟨n2,fun k1 u1=>⟨0,oq,rfl,fun i hi=>oq⟩⟩,?_⟩;rintro m k3 vs u3 ⟨j,hj,rfl,hz⟩;refine⟨j,rfl,rfl,fun hlt=>?_,fun hge=>?_⟩
 ·have hlt:=aH hlt;obtain⟨a,_,⟨c0,rfl,g0⟩,ha,hb,hr,_⟩:=(SecV.up hN hs u3).links.elx (i:=j) oq oz;have stop:∀e:Int,e≠0→gM s.cells.length s.links j=e→∀k',Up k3 k'→R k' (.int .i64 e):=fun e he h k' u=>by
   have:=C k' (u3.trans u);have e3:fJ s.cells.length s.links=e:=eL hz h he oq
   rwa [og (by rw [e3];exact he),e3]at this
  refine⟨ha,hb,_,_,c0,g0.seg,hr k3 (Up.refl _),rfl,wO fun k4 u4=>⟨_,rfl,fun f k5 u5=>?_,fun f=>⟨rfl,wO fun k6 u6=>⟨_,rfl,fun g k7 u7=>?_,fun g=>⟨fun h k7 u7=>?_,fun h=>mA ((g0.up u4).up u6) fun k8 u8=>⟨_,rfl,fun p k9 u9=>?_,fun p=>?_⟩⟩⟩⟩⟩⟩
  ·have f:¬ (0≤(at_ s.links j).a∧(at_ s.links j).a<(n1:Nat)):=ov (sL f);exact stop 1 oz (eV (.inl (by rw [←e1];exact f))) k5 (u4.trans u5)
  ·have g:¬ (0≤(at_ s.links j).b∧(at_ s.links j).b<(n1:Nat)):=ov (sL g);exact stop 1 oz (eV (.inr (.inl (by rw [←e1];exact g)))) k7 ((u4.trans u6).trans u7)
  ·exact stop 1 oz (eV (.inr (.inr (.inl (eT h))))) k7 ((u4.trans u6).trans u7)
  ·rw [dT]at p;exact stop 1 oz (eV (.inr (.inr (.inr (ow p))))) k9 (((u4.trans u6).trans u8).trans u9)
  ·rw [dT]at p;have f:0≤(at_ s.links j).a∧(at_ s.links j).a<(n1:Nat):=ow (nP f);have g:0≤(at_ s.links j).b∧(at_ s.links j).b<(n1:Nat):=ow (nP g);have hno:¬ (¬ (0≤(at_ s.links j).a∧(at_ s.links j).a<s.cells.length)∨¬ (0≤(at_ s.links j).b∧(at_ s.links j).b<s.cells.length)∨(at_ s.links j).a=(at_ s.links j).b∨(at_ s.links j).v<0):=by
    rw [←e1];rintro (t|t|t|t)
    ·exact t f
    ·exact t g
    ·exact fC h t
    ·exact ov p t
   refine⟨fun m k vs=>∃i:Nat,i+m=j∧vs=[.int .i64 i]∧∀q,q<i→pair (at_ s.links j) (at_ s.links q)=false,⟨j,fun k1 u1=>⟨0,oq,rfl,fun q hq=>oq⟩⟩,?_⟩;rintro m' k10 vs u10 ⟨i,hi,rfl,hp⟩;refine⟨i,rfl,fun hlt'=>?_,fun hge' k11 u11=>?_⟩
   ·have hlt':=aH hlt';have v10:=((u4.trans u6).trans u8).trans u10;obtain⟨a,_,⟨c1,rfl,g1⟩,ha,hb,hr,_⟩:=(SecV.up hN hs (u3.trans v10)).links.elx (i:=i) oq oz;have twice:pair (at_ s.links j) (at_ s.links i)=true→∀k',Up k10 k'→R k' (.int .i64 8):=fun t k' u=>by
     refine stop 8 oz ?_ k' (v10.trans u);unfold gM;rw [oh hno,og (aBk.2 ⟨i,oq,t⟩)]
    have next:pair (at_ s.links j) (at_ s.links i)=false→∃m'',m''<m'∧∃i':Nat,i'+m''=j∧[Value.int .i64 (wrap .i64 ((i:Int)+1))]=[.int .i64 i']∧∀q,q<i'→pair (at_ s.links j) (at_ s.links q)=false:=fun t=>⟨m'-1,oq,i+1,oq,by rw [aC oq],bP hp t⟩
    have pt:((at_ s.links i).a=(at_ s.links j).a∧(at_ s.links i).b=(at_ s.links j).b∨(at_ s.links i).a=(at_ s.links j).b∧(at_ s.links i).b=(at_ s.links j).a)→pair (at_ s.links j) (at_ s.links i)=true:=fun t=>decide_eq_true t;have pf:¬ ((at_ s.links i).a=(at_ s.links j).a∧(at_ s.links i).b=(at_ s.links j).b∨(at_ s.links i).a=(at_ s.links j).b∧(at_ s.links i).b=(at_ s.links j).a)→pair (at_ s.links j) (at_ s.links i)=false:=fun t=>decide_eq_false t;refine⟨ha,hb,_,_,c1,g1.seg,hr k10 (Up.refl _),fun t1=>⟨fun t2=>twice (pt (.inl ⟨eT t1,eT t2⟩)),fun t2=>⟨fun t3=>⟨fun t4=>twice (pt (.inr ⟨eT t3,eT t4⟩)),fun t4 k' u=>next (pf ?_)⟩,fun t3 k' u=>next (pf ?_)⟩⟩,fun t1=>⟨fun t3=>⟨fun t4=>twice (pt (.inr ⟨eT t3,eT t4⟩)),fun t4 k' u=>next (pf ?_)⟩,fun t3 k' u=>next (pf ?_)⟩⟩
    ·rintro (⟨_,t⟩|⟨_,t⟩)
     ·exact fC t2 t
     ·exact fC t4 t
    ·rintro (⟨_,t⟩|⟨t,_⟩)
     ·exact fC t2 t
     ·exact fC t3 t
    ·rintro (⟨t,_⟩|⟨_,t⟩)
     ·exact fC t1 t
     ·exact fC t4 t
    ·rintro (⟨t,_⟩|⟨t,_⟩)
     ·exact fC t1 t
     ·exact fC t3 t
   ·have hge':=aG hge';refine⟨m-1,oq,j+1,oq,by rw [aC oq],bP hz ?_⟩;unfold gM;rw [oh hno,oh];intro t;obtain⟨q,hq,hpq⟩:=aBk.1 t;rw [hp q oq]at hpq;cases hpq
 have hge:=aG hge;have hL:fJ s.cells.length s.links=0:=dB fun i hi=>hz i oq;rw [oh (by simp [hL])]at C;replace C:=fun k' u=>C k' (u3.trans u);replace hs:=SecV.up hN hs u3;clear hz hj hge u3;refine⟨fun m k vs=>∃j:Nat,j+m=n1∧vs=[.int .i64 j]∧∀i,i<j→lQ s i=0,⟨n1,fun k1 u1=>⟨0,oq,rfl,fun i hi=>oq⟩⟩,?_⟩;rintro m k5 vs u5 ⟨j,hj,rfl,hz⟩;refine⟨j,rfl,rfl,fun hlt=>?_,fun hge k6 u6=>?_⟩
 ·have hlt:=aH hlt;have hs5:=SecV.up hN hs u5;obtain⟨a,_,⟨c0,c1,c2,rfl,g0,g1,g2⟩,ha,hb,_,hr,_⟩:=hs5.cells.elx (i:=j) oq oz;have hne:∀i,i<s.links.length→(at_ s.links i).a≠(at_ s.links i).b:=fun i hi=>by
   have:=cP hL i hi;unfold gM at this;split at this
   ·cases this
   ·rename_i hn;simp only [not_or,zd]at hn;exact hn.2.2.1
  refine⟨ha,hb,ha,hb,c0,g0.seg,hr k5 c0 1 3 (Up.refl _) g0.seg.1 (fun q u h=>rA (d:=0) (by rw [qb];exact fS h)),aXr hs5 hne oq oq hK fun k6 ds u6 hd=>⟨ds,hd.seg,rfl,?_⟩⟩;refine sB hd (g0.up u6) oq fun k8 u8=>⟨_,rfl,fun f k9 u9=>?_,fun f k9 u9=>?_⟩
  ·rw [kL]at f;have:=C k9 (((u5.trans u6).trans u8).trans u9);have e:lQ s j=60:=by unfold lQ;rw [og (ow f)]
   rwa [eL hz e oz oq]at this
  ·rw [kL]at f;exact⟨m-1,oq,j+1,oq,by rw [aC oq],bP hz (by unfold lQ;rw [oh (ov f)])⟩
 ·have hge:=aG hge;have:=C k6 (u5.trans u6)
  rwa [dB fun i hi=>hz i oq]at this
end
theorem aLh {s:PSec}{x:PState}{j i:Nat}(h:j<s.links.length) (t:Rat) :
 (nbm (s.links.take (j+1)) i).foldl (fun t l=>t+l.v*(at_ x.temp (l.a+l.b-(i:Int)).toNat-at_ x.temp i)) t =
   (if (at_ s.links j).b=i then (if (at_ s.links j).a=i then (nbm (s.links.take j) i).foldl (fun t l=>t+l.v*(at_ x.temp (l.a+l.b-(i:Int)).toNat-at_ x.temp i)) t+(at_ s.links j).v*(at_ x.temp (at_ s.links j).b.toNat-at_ x.temp i) else (nbm (s.links.take j) i).foldl (fun t l=>t+l.v*(at_ x.temp (l.a+l.b-(i:Int)).toNat-at_ x.temp i)) t)+(at_ s.links j).v*(at_ x.temp (at_ s.links j).a.toNat-at_ x.temp i)
   else (if (at_ s.links j).a=i then (nbm (s.links.take j) i).foldl (fun t l=>t+l.v*(at_ x.temp (l.a+l.b-(i:Int)).toNat-at_ x.temp i)) t+(at_ s.links j).v*(at_ x.temp (at_ s.links j).b.toNat-at_ x.temp i) else (nbm (s.links.take j) i).foldl (fun t l=>t+l.v*(at_ x.temp (l.a+l.b-(i:Int)).toNat-at_ x.temp i)) t)):=by
 rw [vI h,List.foldl_append];generalize (nbm (s.links.take j) i).foldl _ t=z;generalize at_ s.links j=y
 by_cases h1:y.a=i
 ·have e1:y.a+y.b-(i:Int)=y.b:=oq
  by_cases h2:y.b=i
  ·have e2:y.a=y.b:=oq
   simp only [og h1,og h2,xa,vv,vk,List.foldl_nil,e1];rw [e2]
  ·simp only [og h1,oh h2,qw,vk,List.foldl_nil,e1]
 ·by_cases h2:y.b=i
  ·have e1:y.a+y.b-(i:Int)=y.a:=oq
   simp only [oh h1,og h2,vv,vk,List.foldl_nil,e1]
  ·simp only [oh h1,oh h2,qw,List.foldl_nil]
section
variable {k k':World}{R:World→Value→Prop}{cs cs':Array Value}{u v t q p:Rat}{us vs:List Rat}{s:PSec}{x:PState}{K L T d n0 n1 n2 d0 d1 d2 n3 n4 n5 d3 d4 d5 n6 d6 n7 d7 M:Nat}{A0 A1 A2 A3 A4 A5 A6 A7:Option Addr}
theorem aJe (C:∀k',Up k k'→R k' (.bool (decide (n3=n1∧n4=n1∧n5=n1)))) :
 Cl k 117 #[S3 A0 n0 d0 A1 n1 d1 A2 n2 d2,S3 A3 n3 d3 A4 n4 d4 A5 n5 d5] R:=by
 intro k0 u0;replace C:=fun k' u=>C k' (u0.trans u);refine aNl ⟨rfl,rfl,fun e=>⟨rfl,fun e'=>⟨rfl,fun k1 u1=>?_⟩,fun e' k1 u1=>?_⟩,fun e k1 u1=>?_⟩
 ·have:=C k1 u1;have e:=eT e;have e':=eT e';have h:decide (n3=n1∧n4=n1∧n5=n1)=(((n5:Nat):Int) == (n1:Nat)):=by
   rw [xr,decide_eq_true_iff,beq_iff_eq];constructor
   ·intro h;omega
   ·intro h;omega
  rwa [h]at this
 ·have:=C k1 u1;have e':=fC e'
  rwa [decide_eq_false oq]at this
 ·have:=C k1 u1;have e:=fC e
  rwa [decide_eq_false oq]at this
theorem bBy (hx:QV k cs p K) (hy:QV k cs' q L) (hK1:1≤K) (hL1:1≤L) (hK:K+L≤10000000000) (C:∀k' ds,Up k k'→QV k' ds (p/q) (K+L)→R k' (.agg ds)) :
 Cl k 161 #[.agg cs,.agg cs'] R:=by
 intro k0 u0;refine bAc hx.seg hy.seg (aYd (hx.up u0) (hy.up u0) hK1 hL1 hK fun k1 ds u1 h=>⟨ds,h.seg,_,rfl,fun k2 u2=>?_⟩);exact C k2 ds ((u0.trans u1).trans u2) (h.up u2)
theorem aZf (hs:SecV (NR K) k A0 n0 A1 n1 A2 n2 s) (hx:StateV (NR T) k A3 n3 A4 n4 A5 n5 x) (hu:QV k cs u K) (hv:QV k cs' v K) (hE:aF s=0) (hz:sized s x) {i:Nat}(hi:i<s.cells.length)
 (hd:(nbm s.links (i:Nat)).length≤d) (hK:K≤1000000) (hT:4*K+2*T+3+d*(K+2*T+2)≤300000000)
 (C:∀k' ds,Up k k'→QV k' ds (flow s x u v i) (4*K+2*T+3+d*(K+2*T+2))→R k' (.agg ds)) :
 Cl k 162 #[S3 A0 n0 d0 A1 n1 d1 A2 n2 d2,S3 A3 n3 d3 A4 n4 d4 A5 n5 d5,.int .i64 i,.agg cs,.agg cs'] R:=by
 intro k0 u0;have hN:=cL K;replace hs:=SecV.up hN hs u0;replace hx:=StateV.up (cL T) hx u0;replace hu:=hu.up u0;replace hv:=hv.up u0;replace C:=fun k' ds u=>C k' ds (u0.trans u);clear u0;obtain⟨z3,z4,z5⟩:=hz;have f3:=hx.temp.1;have hn24:s.cells.length≤24:=by have:=aQ hE;unfold aY at this;omega
 have hl64:s.links.length≤64:=by have:=aQ hE;unfold aY at this;omega
 have e2:=hs.links.1;obtain⟨a,_,⟨c0,c1,c2,rfl,q0,q1,q2⟩,ha,hb,hr,_⟩:=hs.cells.elx hi oz;obtain⟨t,_,ht,ta,tb,tr,_⟩:=hx.temp.elx (i:=i) oq oz;refine aTg hu.seg hv.seg ⟨ha,hb,_,c0,q0.seg,c1,q1.seg,c2,q2.seg,hr k0 (Up.refl _),ta,tb,t,ht.seg,tr k0 (Up.refl _),?_⟩;refine aEi hu ht oq fun k2 y2 u2 w2=>⟨y2,w2.seg,rfl,?_⟩;refine yJ (q1.up u2) w2 oq fun k4 y4 u4 w4=>⟨y4,w4.seg,rfl,?_⟩;refine aEi ((hv.up u2).up u4) ((ht.up u2).up u4) oq fun k6 y6 u6 w6=>⟨y6,w6.seg,rfl,?_⟩;refine yJ (((q2.up u2).up u4).up u6) w6 oq fun k8 y8 u8 w8=>⟨y8,w8.seg,rfl,?_⟩;refine nC ((w4.up u6).up u8) w8 oq fun k10 y10 u10 w10=>⟨y10,w10.seg,rfl,?_⟩;have v10:=(((u2.trans u4).trans u6).trans u8).trans u10;replace hs:=SecV.up hN hs v10;replace hx:=StateV.up (cL T) hx v10;replace C:=fun k' ds u=>C k' ds (v10.trans u);replace ht:=ht.up v10;clear v10 u2 u4 u6 u8 u10 w2 w4 w6 w8 q0 q1 q2 hr tr hu hv;have len_take:∀j,j≤s.links.length→(nbm (s.links.take j) (i:Nat)).length≤d:=fun j hj=>by
  refine qk ?_ hd;have:nbm s.links (i:Nat)=nbm (s.links.take j) (i:Nat)++nbm (s.links.drop j) (i:Nat):=by
   conv=>lhs;rw [←List.take_append_drop j s.links]
   unfold nbm;rw [yu]
  rw [this,qo];omega
 have w10':QV k10 y10 ((at_ s.cells i).steam*(u-at_ x.temp i)+(at_ s.cells i).air*(v-at_ x.temp i)) (4*K+2*T+3+0*(K+2*T+2)):=w10.mono oq
 refine⟨fun m k vs=>∃(j:Nat) (ds:Array Value),j+m=n2∧vs=[.int .i64 j,.agg ds]∧
  QV k ds ((nbm (s.links.take j) i).foldl (fun t l=>t+l.v*(at_ x.temp (l.a+l.b-(i:Int)).toNat-at_ x.temp i)) ((at_ s.cells i).steam*(u-at_ x.temp i)+(at_ s.cells i).air*(v-at_ x.temp i))) (4*K+2*T+3+(nbm (s.links.take j) (i:Nat)).length*(K+2*T+2)),
  ⟨n2,fun k1 u1=>⟨0,y10,oq,rfl,w10'.up u1⟩⟩,?_⟩
 rintro m k11 vs u11 ⟨j,es,hj,rfl,he⟩;refine⟨j,es,he.seg,rfl,rfl,fun hlt=>?_,fun hge k33 u33=>?_⟩
 ·have hlt:=aH hlt;have hjl:j<s.links.length:=oq
  have hst:=aLh (s:=s) (x:=x) (i:=i) hjl ((at_ s.cells i).steam*(u-at_ x.temp i)+(at_ s.cells i).air*(v-at_ x.temp i));have hbd:=od (K+2*T+2) (len_take (j+1) oq);have hlen:=congrArg List.length (vI hjl (i:Nat));rw [qo,qo]at hlen;have hin:=dH (cQ hE) _ (aEu hjl);generalize (nbm (s.links.take j) i).foldl _ _=Z at he hst;generalize (nbm (s.links.take j) (i:Nat)).length=P at he hlen;generalize hPP:(nbm (s.links.take (j+1)) (i:Nat)).length=P' at hlen hbd;have hx11:=StateV.up (cL T) hx u11;obtain⟨a,_,⟨c3,rfl,g3⟩,la,lb,lr,_⟩:=(SecV.up hN hs u11).links.elx (i:=j) hjl oz;obtain⟨pa,ea⟩:∃p:Nat,(at_ s.links j).a=p:=⟨(at_ s.links j).a.toNat,oq⟩;obtain⟨pb,eb⟩:∃p:Nat,(at_ s.links j).b=p:=⟨(at_ s.links j).b.toNat,oq⟩;rw [ea,eb]at hst hlen hin lr;rw [oc,oc]at hst;obtain⟨t1,_,ht1,ta1,tb1,tr1,_⟩:=hx11.temp.elx (i:=pa) oq oz;obtain⟨t2,_,ht2,ta2,tb2,tr2,_⟩:=hx11.temp.elx (i:=pb) oq oz;refine⟨la,lb,_,_,c3,g3.seg,lr k11 (Up.refl _),fun f=>?_,fun f=>⟨fun g=>?_,fun g k32 u32=>?_⟩⟩
  ·have f:=eT f;rw [og f]at hlen;simp only [og f]at hst;have hP:(P+1)*(K+2*T+2)=P*(K+2*T+2)+(K+2*T+2):=jt _ _;have hP1:P+1≤P':=by simp at hlen;omega
   have hP2:=od (K+2*T+2) hP1;refine⟨ta2,tb2,t2,ht2.seg,tr2 k11 (Up.refl _),aEi ht2 (ht.up u11) oq fun k12 y12 u12 w12=>⟨y12,w12.seg,rfl,?_⟩⟩;refine yJ (g3.up u12) w12 oq fun k14 y14 u14 w14=>⟨y14,w14.seg,rfl,?_⟩;refine nC ((he.up u12).up u14) w14 oq fun k16 y16 u16 w16=>⟨y16,w16.seg,rfl,fun g=>?_,fun g k24 u24=>?_⟩
   ·have g:=eT g;rw [og g]at hlen hst;have hP3:(P+1+1)*(K+2*T+2)=(P+1)*(K+2*T+2)+(K+2*T+2):=jt _ _;have hP4:P+1+1=P':=by simp at hlen;omega
    rw [hP4]at hP3;have v16:=(u12.trans u14).trans u16;refine⟨ta1,tb1,t1,ht1.seg,tr1 k16 v16,aEi (ht1.up v16) ((ht.up u11).up v16) oq fun k18 y18 u18 w18=>⟨y18,w18.seg,rfl,?_⟩⟩;refine yJ ((g3.up v16).up u18) w18 oq fun k20 y20 u20 w20=>⟨y20,w20.seg,rfl,?_⟩;refine nC ((w16.up u18).up u20) w20 oq fun k22 y22 u22 w22=>⟨y22,w22.seg,rfl,fun k23 u23=>⟨m-1,oq,j+1,y22,oq,by rw [aC oq],?_⟩⟩;rw [hst,hPP];exact (w22.up u23).mono oq
   ·have g:=fC g;rw [oh g]at hlen hst;have hP4:P+1=P':=by simp at hlen;omega
    rw [hP4]at hP;refine⟨m-1,oq,j+1,y16,oq,by rw [aC oq],?_⟩;rw [hst,hPP];exact (w16.up u24).mono oq
  ·have f:=fC f;have g:=eT g;rw [oh f,og g]at hlen;simp only [oh f,og g]at hst;have hP:(P+1)*(K+2*T+2)=P*(K+2*T+2)+(K+2*T+2):=jt _ _;have hP4:P+1=P':=by simp at hlen;omega
   rw [hP4]at hP;refine⟨ta1,tb1,t1,ht1.seg,tr1 k11 (Up.refl _),aEi ht1 (ht.up u11) oq fun k12 y12 u12 w12=>⟨y12,w12.seg,rfl,?_⟩⟩;refine yJ (g3.up u12) w12 oq fun k14 y14 u14 w14=>⟨y14,w14.seg,rfl,?_⟩;refine nC ((he.up u12).up u14) w14 oq fun k16 y16 u16 w16=>⟨y16,w16.seg,rfl,fun k24 u24=>?_⟩;refine⟨m-1,oq,j+1,y16,oq,by rw [aC oq],?_⟩;rw [hst,hPP];exact (w16.up u24).mono oq
  ·have f:=fC f;have g:=fC g;rw [oh f,oh g]at hlen;simp only [oh f,oh g]at hst;have hP4:P=P':=by simp at hlen;omega
   refine⟨m-1,oq,j+1,es,oq,by rw [aC oq],?_⟩;rw [hst,hPP];exact (he.up u32).mono (by rw [hP4];exact oy _)
 ·have hge:=aG hge;rw [zp oq]at he;have:=od (K+2*T+2) hd;exact C k33 es (u11.trans u33) ((he.up u33).mono oq)
end
section
variable {k k':World}{R:World→Value→Prop}{cs cs':Array Value}{u v t q p:Rat}{us vs:List Rat}{s:PSec}{x:PState}{K L T d n0 n1 n2 d0 d1 d2 n3 n4 n5 d3 d4 d5 n6 d6 n7 d7 M:Nat}{A0 A1 A2 A3 A4 A5 A6 A7:Option Addr}
end
section
variable {k:World}{R:World→Value→Prop}{cs:Array Value}{t:Rat}{s:PSec}{K n n0 n1 n2 d0 d1 d2:Nat}{A0 A1 A2:Option Addr}
theorem aBg (hn:n≤1000000) (C:∀k' A c xs,Up k k'→ArrV n 3 (NR 2 k') xs (fun _=>0)→R k' (.tuple #[.slice A n c,.agg xs])) :
 ∀k0,Up k k0→Sy.CallsR Tryz.prog 109 #[.int .i64 (n:Nat)] k0 81 3 R:=by
 intro k0 u0;have hseg:∀ {k:World},∀a v,NR 2 k a v→Seg 3 a:=fun _ _ h=>h.seg;refine aHf ⟨fun m k vs=>∃(j:Nat) (B:Option Addr) (e:Nat) (xs:Array Value),j+m=n∧vs=[.int .i64 j,.tuple #[.slice B j e,.agg xs]]∧ArrV j 3 (NR 2 k) xs (fun _=>0),⟨n,fun k1 u1=>⟨0,_,_,_,oq,rfl,ArrV.empty⟩⟩,?_⟩;rintro m k1 vs u1 ⟨j,B,e,xs,hj,rfl,h0⟩;refine⟨j,B,j,e,xs,h0.rowC hseg,rfl,fun hlt=>?_,fun hge k2 u2=>?_⟩
 ·have hlt:=aH hlt;refine aJn (z:=0) oz oz fun k3 ds u3 hd=>⟨ds,hd.seg,rfl,by simp [hd.seg.1],oz,⟨by simp;omega,by simp;omega⟩,?_⟩;rintro B' _ e' _ rfl rfl _ k4 u4;refine⟨m-1,oq,j+1,B',e',_,oq,by rw [aC oq];rfl,?_⟩;rw [qw];exact ArrV.push (h0.mono fun a v h=>h.up (u3.trans u4)) hd.seg.1 (hd.up u4)
 ·have hge:=aG hge;have ej:j=n:=oq
  subst ej;exact C k2 B e xs ((u0.trans u1).trans u2) (h0.mono fun a v h=>h.up u2)
theorem aJh (hn:n1=s.cells.length) (hn2:n1≤1000000) (ht:QV k cs t K) (hK:2≤K) (C:∀k' B0 m0 e0 B1 m1 e1 B2 m2 e2,Up k k'→StateV (NR K) k' B0 m0 B1 m1 B2 m2 (cK s t)→R k' (S3 B0 m0 e0 B1 m1 e1 B2 m2 e2)) :
 Cl k 60 #[S3 A0 n0 d0 A1 n1 d1 A2 n2 d2,.agg cs] R:=by
 intro k0 u0;have hup:∀ {K:Nat}{k k':World}{xs:Array Value}{j:Nat}{f:Nat→Rat},Up k k'→ArrV j 3 (NR K k) xs f→ArrV j 3 (NR K k') xs f:=fun u h=>h.mono fun _ _ h=>h.up u;have hseg:∀ {k:World},∀a v,NR K k a v→Seg 3 a:=fun _ _ h=>h.seg;have hK':∀ {k:World}{xs:Array Value}{j:Nat}{f:Nat→Rat},ArrV j 3 (NR 2 k) xs f→ArrV j 3 (NR K k) xs f:=fun h=>h.mono fun _ _ h=>h.mono hK;refine aNn ht.seg ⟨rfl,aBg hn2 fun k1 B0 c0 x0 u1 h0=>⟨B0,n1,c0,x0,rfl,aBg hn2 fun k3 B1 c1 x1 u3 h1=>⟨B1,n1,c1,x1,rfl,aBg hn2 fun k5 B2 c2 x2 u5 h2=>⟨B2,n1,c2,x2,rfl,?_⟩⟩⟩⟩;have v5:=u0.trans (u1.trans (u3.trans u5));replace h0:=hK' (hup (u3.trans u5) h0);replace h1:=hK' (hup u5 h1);replace h2:=hK' h2;refine⟨fun m k vs=>∃(j:Nat) (xs:Array Value),j+m=n1∧vs=[.int .i64 j,.tuple #[.slice B0 n1 c0,.agg xs]]∧ArrV n1 3 (NR K k) xs (cut j (fun _=>t) fun _=>0),⟨n1,fun k6 u6=>⟨0,_,oq,rfl,(hup u6 h0).start⟩⟩,?_⟩;rintro m k6 vs u6 ⟨j,xs,hj,rfl,hx⟩;refine⟨j,B0,n1,c0,xs,hx.rowC hseg,rfl,fun hlt=>?_,fun hge k8 u8 r0 k9 u9 r1 k10 u10 r2 k11 u11=>?_⟩
 ·have hlt:=aH hlt;refine⟨decide_eq_true ⟨oq,oq⟩,⟨oq,oq⟩,?_⟩;rintro _ rfl k7 u7;refine⟨m-1,oq,j+1,_,oq,by rw [aC oq],?_⟩;rw [qw];exact (hup u7 hx).step hlt ht.seg.1 (ht.up (v5.trans (u6.trans u7)))
 ·have hge:=aG hge;have v11:=u8.trans (u9.trans (u10.trans u11));refine C k11 _ _ _ _ _ _ _ _ _ (v5.trans (u6.trans v11)) ⟨⟨?_,?_⟩,⟨?_,?_⟩,⟨?_,?_⟩⟩
  ·simp [cK,hn]
  ·exact ((hup v11 (hx.done hge)).congr fun i hi=>(cF oq).symm).els hseg (bZ r0 (u9.trans (u10.trans u11)))
  ·simp [cK,hn]
  ·exact ((hup (u6.trans v11) h1).congr fun i hi=>(cF oq).symm).els hseg (bZ r1 (u10.trans u11))
  ·simp [cK,hn]
  ·exact ((hup (u6.trans v11) h2).congr fun i hi=>(cF oq).symm).els hseg (bZ r2 u11)
end
theorem aEv:dec 1=[49]:=by
 unfold dec;rw [oh oq,jC oq,show 1/10=0 from rfl,eH];rfl
theorem aCf {a:Nat}(h0:0<a) (h1:a<10):dec (a*10)=[UInt8.ofNat (48+a),48]:=by
 unfold dec;rw [oh oq,jC oq,show a*10/10=a by omega,jC oq,show a/10=0 by omega,eH,show a*10 % 10=0 by omega,show a % 10=a by omega];rfl
theorem wM (a:Nat):cZ ((a:Int):Rat)=dec a:=by
 unfold cZ;have h:¬ (((a:Int):Rat).num<0):=by rw [wn];omega
 have h2:((a:Int):Rat).den=1:=Rat.den_intCast _;rw [oh h,og h2,wn,xp,vv,qw]
theorem text80:cZ 80=[56,48]:=by
 have:=wM 80;rw [show (((80:Nat):Int):Rat)=80 from rfl]at this;rw [this];exact aCf (a:=8) oz oz
theorem text30:cZ 30=[51,48]:=by
 have:=wM 30;rw [show (((30:Nat):Int):Rat)=30 from rfl]at this;rw [this];exact aCf (a:=3) oz oz
theorem text1:cZ 1=[49]:=by
 have:=wM 1;rw [show (((1:Nat):Int):Rat)=1 from rfl]at this;rw [this];exact aEv
theorem aQo {k:World}{p:Nat}{ty:TypeId}{cs:Array Value}(h:Sy.Blk k p ty cs):InAt k (some ⟨p,0,none⟩) cs:=fun q u hu=>
 ⟨p,0,rfl,Sy.heap_lt h,by rw [qb,cell_of_row k p q cs ty _ h];exact hu⟩
section
variable {α:Type}[Inhabited α] {k:World}{p s:Nat}{ty:TypeId}{cs a b:Array Value}{P:Array Value→α→Prop}{x y:α}
theorem aAi (h:Sy.Blk k p ty cs) (e:cs=a) (ha:a.size=s) (hx:P a x) (hP:∀a v,P a v→Seg s a):Lst k (some ⟨p,0,none⟩) 1 s P [x]:=by
 subst e;have h0:ArrV 0 s P #[] (at_ [x]):=ArrV.empty;have h1:=h0.push (a:=cs) ha hx;simp only [ww,zq]at h1;exact⟨rfl,cs,aQo h,h1.rowC hP,h1⟩
theorem aAj (h:Sy.Blk k p ty cs) (e:cs=a++b) (ha:a.size=s) (hb:b.size=s) (hx:P a x) (hy:P b y) (hP:∀a v,P a v→Seg s a):Lst k (some ⟨p,0,none⟩) 2 s P [x,y]:=by
 subst e;have h0:ArrV 0 s P #[] (at_ [x,y]):=ArrV.empty;have h1:=(h0.push (a:=a) ha hx).push (a:=b) hb hy;simp only [ww,zq]at h1;exact⟨rfl,_,aQo h,h1.rowC hP,h1⟩
end
def exS:PSec:=⟨[⟨[⟨0,0⟩,⟨60,1⟩],[⟨0,0⟩],1,1⟩],[⟨0,4,1,0⟩,⟨0,4,0,0⟩],[⟨0,1,1⟩]⟩
theorem aLe:aF exS=0:=by decide +kernel
theorem aVm:aAx exS (cK exS 20) [180,180] [180,180]=0:=by decide +kernel
theorem aVl:∀i,i<exS.cells.length→(nbm exS.links (i:Nat)).length≤1:=by decide +kernel
theorem aQh:(aDx exS [180,180] [180,180] 2 (cK exS 20)).temp=[80,30]:=by decide +kernel
theorem aQg:(aDx exS [180,180] [180,180] 2 (cK exS 20)).cure=[1,0]:=by decide +kernel
section
variable {k:World}{R:World→Value→Prop}{s:PSec}{t:Rat}{cs:Array Value}{K n0 n1 n2 d0 d1 d2:Nat}{A0 A1 A2:Option Addr}
theorem aFd (hs:SecV (NP K) k A0 n0 A1 n1 A2 n2 s) (ht:RatV k cs t K) (hK1:1≤K) (hK:K≤1000000)
 (C:∀k' B0 m0 e0 B1 m1 e1 B2 m2 e2,Up k k'→StateV (NP K) k' B0 m0 B1 m1 B2 m2 (tG (aF s) (cK s t))→R k' (.tuple #[S3 B0 m0 e0 B1 m1 e1 B2 m2 e2,.int .i64 (aF s)])) :
 Cl k 40 #[S3 A0 n0 d0 A1 n1 d1 A2 n2 d2,.agg cs] R:=by
 intro k0 u0;replace hs:=SecV.up (aE K) hs u0;replace ht:=ht.up u0;replace C:=fun k' B0 m0 e0 B1 m1 e1 B2 m2 e2 u=>C k' B0 m0 e0 B1 m1 e1 B2 m2 e2 (u0.trans u);refine aBv ht.seg (uH hs hK1 hK fun k1 u1=>⟨_,rfl,fun f k2 u2=>?_,fun f=>?_⟩)
 ·have:=C k2 _ _ 0 _ _ 0 _ _ 0 (u1.trans u2) (by unfold tG;rw [og (cE f)];exact rO);exact this
 ·have f:=bD f;have hc24:s.cells.length≤24:=by have:=aQ f;unfold aY at this;omega
  refine uG (s:=s) hs.cells.1 (by rw [hs.cells.1];omega) (ht.up u1) fun k6 B0 m0 e0 B1 m1 e1 B2 m2 e2 u6 hr=>⟨_,_,_,_,_,_,_,_,_,rfl,fun k7 u7=>?_⟩;have:=C k7 B0 m0 e0 B1 m1 e1 B2 m2 e2 ((u1.trans u6).trans u7) (by unfold tG;rw [oh (by simp [f])];exact StateV.up (aE _) hr u7)
  rwa [f]at this
theorem aOz (C:∀k',Up k k'→R k' (.bool true)):Cl k 13 #[] R:=by
 intro k0 u0;replace C:=fun k' u=>C k' (u0.trans u);have hN:=aE 1;refine aLn (fV oz oz fun k1 c0 u1 h0=>⟨c0,h0.seg,rfl,?_⟩);refine fV oz oz fun k2 c1 u2 h1=>⟨c1,h1.seg,rfl,?_⟩;refine fV oz oz fun k3 c2 u3 h2=>⟨c2,h2.seg,rfl,?_⟩;refine fV oz oz fun k4 c3 u4 h3=>⟨c3,h3.seg,rfl,?_⟩;refine fV oz oz fun k5 c4 u5 h4=>⟨c4,h4.seg,rfl,?_⟩;refine fV oz oz fun k6 c5 u6 h5=>⟨c5,h5.seg,rfl,?_⟩;refine fV oz oz fun k7 c6 u7 h6=>⟨c6,h6.seg,rfl,?_⟩;intro p7 k14 u14 b7 p8 k15 u15 b8 p9 k16 u16 b9 p10 k17 u17 b10 p11 k18 u18 b11;have z:∀k:World,RatV k #[.bool false,.slice none 0 0,.slice none 0 0] 0 1:=fun k=>tS 1;have hr0:Lst k14 (some ⟨p7,0,none⟩) 2 6 (RateV (NP 1) k14) [⟨0,0⟩,⟨60,1⟩]:=by
  have y2:=u3.trans (u4.trans (u5.trans (u6.trans (u7.trans u14))));refine aAj b7 (a:=(#[Value.bool false,.slice none 0 0,.slice none 0 0].toList++(#[Value.bool false,.slice none 0 0,.slice none 0 0].toList++([]))).toArray) (b:=(c0.toList++(c1.toList++([]))).toArray) (by simp) rfl (by simp [h0.seg.1,h1.seg.1]) ⟨_,_,rfl,z _,z _⟩ ⟨_,_,rfl,h0.up (u2.trans y2),h1.up y2⟩ fun _ _ h=>RateV.seg hN h
 have hr1:Lst k15 (some ⟨p8,0,none⟩) 1 6 (RateV (NP 1) k15) [⟨0,0⟩]:=
  aAi b8 rfl rfl ⟨#[.bool false,.slice none 0 0,.slice none 0 0],#[.bool false,.slice none 0 0,.slice none 0 0],rfl,z _,z _⟩ fun _ _ h=>RateV.seg hN h
 have hm:Lst k16 (some ⟨p9,0,none⟩) 1 8 (MatV (NP 1) k16) [⟨[⟨0,0⟩,⟨60,1⟩],[⟨0,0⟩],1,1⟩]:=by
  have y4:=u5.trans (u6.trans (u7.trans (u14.trans (u15.trans u16))));exact aAi b9 rfl (by simp [h2.seg.1,h3.seg.1]) ⟨_,_,_,_,_,_,c2,c3,rfl,aP hN hr0 (u15.trans u16),aP hN hr1 u16,h2.up (u4.trans y4),h3.up y4⟩ fun _ _ h=>MatV.seg hN h
 have hc:Lst k17 (some ⟨p10,0,none⟩) 2 10 (CellV (NP 1) k17) [⟨0,4,1,0⟩,⟨0,4,0,0⟩]:=by
  have y6:=u7.trans (u14.trans (u15.trans (u16.trans u17)));refine aAj b10 (a:=((Value.int .i64 0) :: (c4.toList++(c5.toList++(#[Value.bool false,.slice none 0 0,.slice none 0 0].toList++([]))))).toArray) (b:=((Value.int .i64 0) :: (c4.toList++(#[Value.bool false,.slice none 0 0,.slice none 0 0].toList++(#[Value.bool false,.slice none 0 0,.slice none 0 0].toList++([]))))).toArray) (by simp) (by simp [h4.seg.1,h5.seg.1]) (by simp [h4.seg.1])
   ⟨_,_,_,rfl,h4.up (u6.trans y6),h5.up y6,z _⟩ ⟨_,_,_,rfl,h4.up (u6.trans y6),z _,z _⟩ fun _ _ h=>CellV.seg hN h
 have hl:Lst k18 (some ⟨p11,0,none⟩) 1 5 (LinkV (NP 1) k18) [⟨0,1,1⟩]:=
  aAi b11 rfl (by simp [h6.seg.1]) ⟨c6,rfl,h6.up (u14.trans (u15.trans (u16.trans (u17.trans u18))))⟩ fun _ _ h=>LinkV.seg hN h
 have hs:SecV (NP 1) k18 (some ⟨p9,0,none⟩) 1 (some ⟨p10,0,none⟩) 2 (some ⟨p11,0,none⟩) 1 exS:=⟨hm.up (u17.trans u18) fun _ _ h=>MatV.up hN h (u17.trans u18),hc.up u18 fun _ _ h=>CellV.up hN h u18,hl⟩;have y18:=u1.trans (u2.trans (u3.trans (u4.trans (u5.trans (u6.trans (u7.trans (u14.trans (u15.trans (u16.trans (u17.trans u18))))))))));replace C:=fun k' u=>C k' (y18.trans u);clear y18 hr0 hr1 hm hc hl b7 b8 b9 b10 b11 h0 h1 h2 h3 h4 h5 h6 u1 u2 u3 u4 u5 u6 u7 u14 u15 u16 u17 u18;refine fV oz oz fun k20 c12 u20 h12=>⟨c12,h12.seg,rfl,?_⟩;refine aFd (SecV.up hN hs u20) h12 oz oz fun k22 B0 m0 e0 B1 m1 e1 B2 m2 e2 u22 hst=>⟨_,_,_,_,_,_,_,_,_,_,rfl,?_⟩;rw [aLe]at hst ⊢;refine fV oz oz fun k24 c17 u24 h17=>⟨c17,h17.seg,rfl,?_⟩;refine fV oz oz fun k26 c18 u26 h18=>⟨c18,h18.seg,rfl,?_⟩;intro p19 k27 u27 b19;have hh:Lst k27 (some ⟨p19,0,none⟩) 2 3 (NP 1 k27) [180,180]:=aAj b19 (a:=c17) (b:=c18) (by simp) h17.seg.1 h18.seg.1 (h17.up (u26.trans u27)) (h18.up u27) fun _ _ h=>h.seg;have y27:=u22.trans (u24.trans (u26.trans u27));refine aZc (d:=1) (SecV.up hN hs (u20.trans y27)) (StateV.up hN hst (u24.trans (u26.trans u27))) hh hh (fun _=>aVl) oz oz oz (fun _ _ _=>by decide +kernel) oz fun k29 P0 q0 f0 P1 q1 f1 P2 q2 f2 u29 hrun=>⟨_,_,_,_,_,_,_,_,_,_,rfl,?_⟩;have e1:tG 0 (cK exS (((20:Int)):Rat))=cK exS 20:=rfl;rw [e1,aVm]at hrun ⊢;have e2:tG 0 (aDx exS [180,180] [180,180] ([180,180]:List Rat).length (cK exS 20))=aDx exS [180,180] [180,180] 2 (cK exS 20):=rfl;rw [e2]at hrun;have ht:=hrun.temp;have hcu:=hrun.cure;rw [aQh]at ht;rw [aQg]at hcu;have et:q0=2:=ht.1;have ec:q1=2:=hcu.1;subst et ec;replace C:=fun k' u=>C k' ((u20.trans (y27.trans u29)).trans u);refine⟨fun _=>⟨fun _=>⟨rfl,fun _=>⟨rfl,fun _=>?_,fun h=>absurd h oz⟩,fun h=>absurd h oz⟩,fun h=>absurd h oz⟩,fun h=>absurd h oz⟩;obtain⟨a,_,ga,ha,hb,hr,_⟩:=ht.el (i:=0) oz oz;obtain⟨a',_,ga',ha',hb',hr',_⟩:=ht.el (i:=1) oz oz;obtain⟨a2,_,ga2,ha2,hb2,hr2,_⟩:=hcu.el (i:=0) oz oz;refine⟨ha,hb,a,ga.seg,hr k29 (Up.refl _),zI ga (by decide +kernel) fun k31 u31=>⟨_,rfl,fun _=>?_,fun h=>?_⟩⟩
 ·refine⟨ha',hb',a',ga'.seg,hr' k31 u31,zI (ga'.up u31) (by decide +kernel) fun k33 u33=>⟨_,rfl,fun _=>?_,fun h=>?_⟩⟩
  ·refine⟨ha2,hb2,a2,ga2.seg,hr2 k33 (u31.trans u33),zI ((ga2.up u31).up u33) (by decide +kernel) fun k35 u35=>⟨_,rfl,fun k36 u36=>?_⟩⟩;have:=C k36 (u31.trans (u33.trans (u35.trans u36)));have e:at_ ([1,0]:List Rat) 0=1:=rfl;have e2:(ByteArray.toList ⟨([49]:List UInt8).toArray⟩ == ByteArray.toList ⟨#[49]⟩)=true:=beq_self_eq_true _;rw [e,text1,e2];exact this
  ·exfalso;have e:at_ ([80,30]:List Rat) 1=30:=rfl;have e2:(ByteArray.toList ⟨([51,48]:List UInt8).toArray⟩ == ByteArray.toList ⟨#[51,48]⟩)=true:=beq_self_eq_true _;rw [e,text30,e2]at h;cases h
 ·exfalso;have e:at_ ([80,30]:List Rat) 0=80:=rfl;have e2:(ByteArray.toList ⟨([56,48]:List UInt8).toArray⟩ == ByteArray.toList ⟨#[56,48]⟩)=true:=beq_self_eq_true _;rw [e,text80,e2]at h;cases h
end
def oth (i:Int) (z:PLink):Nat:=(z.a+z.b-i).toNat
theorem aRr (z:PLink) (L:List PLink) (i:Int) (h:z.a≠z.b):nbm (z :: L) i=(if z.a=i∨z.b=i then [z] else [])++nbm L i:=by
 unfold nbm;rw [we]
 congr 1
 by_cases h1:z.a=i
 ·rw [og h1,oh (fun e=>h (h1.trans e.symm)),og (Or.inl h1)];rfl
 ·by_cases h2:z.b=i
  ·rw [oh h1,og h2,og (Or.inr h2)];rfl
  ·rw [oh h1,oh h2,oh (by simp [h1,h2])];rfl
theorem yL (i:Int):∀L:List PLink,(∀z∈L,z.a≠z.b∧0≤z.a∧0≤z.b)→L.Pairwise (fun x y=>pair y x=false)→((nbm L i).map (oth i)).Nodup
 | [],_,_=>by simp [nbm]
 | z :: L,h,hp=>by
  rw [List.pairwise_cons]at hp;obtain⟨h0,h1,h2⟩:=h z (by simp);have ih:=yL i L (fun y hy=>h y (by simp [hy])) hp.2;rw [aRr z L i h0];split
  ·rename_i hz;show (oth i z :: (nbm L i).map (oth i)).Nodup;rw [List.nodup_cons];refine⟨fun hm=>?_,ih⟩;obtain⟨y,hy,e⟩:=vd.1 hm;obtain⟨hyL,hyi⟩:=iB hy;obtain⟨g0,g1,g2⟩:=h y (by simp [hyL]);have:=hp.1 y hyL;unfold pair at this;have:=ov this;unfold oth at e;omega
  ·exact ih
theorem aSe {n:Nat}{L:List PLink}(h:fJ n L=0):L.Pairwise (fun x y=>pair y x=false):=by
 rw [List.pairwise_iff_getElem];intro i j hi hj hij;have:=cP h j hj;unfold gM at this;split at this
 ·cases this
 ·split at this
  ·cases this
  ·rename_i hn;simp only [List.any_eq_true,List.mem_range,not_exists,not_and,Bool.not_eq_true]at hn;have:=hn i hij
   rwa [eC hi,eC hj]at this
theorem aIq {s:PSec}(h:aF s=0) {i:Nat}(hi:i<s.cells.length):(nbm s.links i).length+1≤s.cells.length:=by
 have hl:=dH (cQ h);have hne:∀z∈s.links,z.a≠z.b:=fun z hz=>by
  obtain⟨j,hj,e⟩:=ki hz;rw [←e,←eC hj];exact (aIu h hj).2.2.1
 have hd:=yL i s.links (fun z hz=>⟨hne z hz,(hl z hz).1.1,(hl z hz).2.1⟩) (aSe (cQ h))
 have:=nodup_lt_length s.cells.length (i :: (nbm s.links i).map (oth i)) (by
  rw [List.nodup_cons];refine⟨fun hm=>?_,hd⟩;obtain⟨y,hy,e⟩:=vd.1 hm;obtain⟨hyL,hyi⟩:=iB hy;have:=hne y hyL;have:=hl y hyL;unfold oth at e
  omega) (fun x hx=>by
  rcases xx.1 hx with rfl|hx
  ·exact hi
  ·obtain⟨y,hy,rfl⟩:=vd.1 hx;obtain⟨hyL,hyi⟩:=iB hy;have:=hl y hyL;unfold oth
   omega)
 simpa using this
section
variable {k:World}{R:World→Value→Prop}{s:PSec}{x:PState}{us vs:List Rat}{n0 n1 n2 d0 d1 d2 n3 n4 n5 d3 d4 d5 n6 d6 n7 d7:Nat}{A0 A1 A2 A3 A4 A5 A6 A7:Option Addr}
end
