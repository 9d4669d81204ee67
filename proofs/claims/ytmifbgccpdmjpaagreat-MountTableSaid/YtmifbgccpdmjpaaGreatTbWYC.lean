/- Several texts in one. (Printed by prep.py.) -/
import Derived.Test.YtmifbgccpdmjpaaGreatTbMH
namespace Go.Proofs.YtmifbgccpdmjpaaGreat
open Num Plain Q23L
def gAt (p:W4) (k:Nat):Q4:=(p.mul (oN k)).re
noncomputable def lo (p:W4):Nat→Nat×Q4
 | 0=>(0,p.re)
 | j+1=>if sgd (gAt p (j+1)) (lo p j).2<0 then (j+1,gAt p (j+1)) else lo p j
theorem sO (p:W4):gAt p 0=p.re:=by
 unfold gAt;rw [wH,W4.mul_one]
theorem aFo (p:W4) (j:Nat):(lo p j).1≤j∧(lo p j).2=gAt p (lo p j).1∧∀i,i≤j→sgd (lo p j).2 (gAt p i)≤0:=by
 induction j with
 | zero=>
  refine⟨oy _,(sO p).symm,fun i hi=>?_⟩;have:i=0:=oq
  subst this;rw [sO];show sgd p.re p.re≤0;rw [oH];decide
 | succ j ih=>
  obtain⟨h1,h2,h3⟩:=ih
  by_cases hc:sgd (gAt p (j+1)) (lo p j).2<0
  ·have e:lo p (j+1)=(j+1,gAt p (j+1)):=by show (if _ then _ else _)=_;rw [od hc]
   rw [e];refine⟨oy _,rfl,fun i hi=>?_⟩
   by_cases e2:i=j+1
   ·subst e2;show sgd (gAt p (j+1)) (gAt p (j+1))≤0;rw [oH];decide
   ·exact wC (Int.le_of_lt hc) (h3 i oq)
  ·have e:lo p (j+1)=lo p j:=by show (if _ then _ else _)=_;rw [oh hc]
   rw [e];refine⟨oq,h2,fun i hi=>?_⟩
   by_cases e2:i=j+1
   ·subst e2;rw [xY];omega
   ·exact h3 i oq
def aPn (a b:W4) (k:Nat):W4:=a.add (b.mul (oN k))
noncomputable def jX (a b:W4):Nat:=(lo (a.conj.mul b) 23).1
noncomputable def mB (a b:W4):Q4:=(aPn a b (jX a b)).norm
def bAb (a b:Q4):Int:=sgF (a.sub b)
theorem aGj (a b:Q4):sgd a b=bAb a b:=aZz _
def loF (p:W4):Nat→Nat×Q4
 | 0=>(0,p.re)
 | j+1=>if bAb (gAt p (j+1)) (loF p j).2<0 then (j+1,gAt p (j+1)) else loF p j
theorem aYy (p:W4) (j:Nat):lo p j=loF p j:=by
 induction j with
 | zero=>rfl
 | succ j ih=>
  show (if _ then _ else _)=(if _ then _ else _);rw [ih,aGj]
def hiF (x:W4):Nat→Nat×Q4
 | 0=>(0,x.re)
 | j+1=>if 0<bAb (fAt x (j+1)) (hiF x j).2 then (j+1,fAt x (j+1)) else hiF x j
theorem aMe (x:W4) (j:Nat):hi x j=hiF x j:=by
 induction j with
 | zero=>rfl
 | succ j ih=>
  show (if _ then _ else _)=(if _ then _ else _);rw [ih,aGj]
theorem nG:jX ⟨⟨3,0,0,0⟩,Q4.zero⟩ ⟨Q4.zero,⟨2,0,0,0⟩⟩=6:=by
 unfold jX;rw [aYy];decide +kernel
theorem uK:(hi ⟨⟨3,0,0,0⟩,Q4.zero⟩ 23).1=0:=by rw [aMe];decide +kernel
theorem uL:(hi ⟨Q4.zero,⟨2,0,0,0⟩⟩ 23).1=6:=by rw [aMe];decide +kernel
theorem xC:(aPn ⟨⟨3,0,0,0⟩,Q4.zero⟩ ⟨Q4.zero,⟨2,0,0,0⟩⟩ 6).norm=⟨1,0,0,0⟩:=by decide +kernel
open Go.RowKit Num W32
open Sy (Seg Up RowAt ReadAt ReadIn cellAt flat RowC)
structure PRate where
 (f v:Rat)
 deriving Inhabited
structure PMat where
 (cure spoil:List PRate) (done limit:Rat)
 deriving Inhabited
structure PCell where
 (m:Int) (cap steam air:Rat)
 deriving Inhabited
structure PLink where
 (a b:Int) (v:Rat)
 deriving Inhabited
structure PSec where
 (mats:List PMat) (cells:List PCell) (links:List PLink)
structure PState where
 (temp cure spoil:List Rat)
def at_ {α:Type}[Inhabited α] (l:List α) (i:Nat):α:=l.getD i default
section
variable {c a:Array Value}{l:List Value}{d q:Nat}{u v:Value}
end
def Lst {α:Type}[Inhabited α] (k:World) (A:Option Addr) (n s:Nat) (P:Array Value→α→Prop) (l:List α):Prop:=n=l.length∧Els k A n s P (at_ l)
section
variable {α:Type}[Inhabited α] {k k':World}{A:Option Addr}{n s i j m:Nat}{P Q:Array Value→α→Prop}{l:List α}{xs:Array Value}
end
structure Num3 (N:World→Array Value→Rat→Prop):Prop where
 up:∀ {k k' cs q},N k cs q→Up k k'→N k' cs q
 seg:∀ {k cs q},N k cs q→Seg 3 cs
section
variable {N:World→Array Value→Rat→Prop}{k k':World}{cs:Array Value}{A B C:Option Addr}{n n' n'' c c' c'':Nat}
def aWx (N:World→Array Value→Rat→Prop) (k:World) (cs:Array Value) (r:PRate):Prop:=∃c0 c1,cs=(c0.toList++(c1.toList++([]))).toArray∧N k c0 r.f∧N k c1 r.v
def bCl (N:World→Array Value→Rat→Prop) (k:World) (cs:Array Value) (m:PMat):Prop:=∃A n c B n' c' c0 c1,cs=((Value.slice A n c) :: ((Value.slice B n' c') :: (c0.toList++(c1.toList++([]))))).toArray∧
 Lst k A n 6 (aWx N k) m.cure∧Lst k B n' 6 (aWx N k) m.spoil∧N k c0 m.done∧N k c1 m.limit
def bAn (N:World→Array Value→Rat→Prop) (k:World) (cs:Array Value) (x:PCell):Prop:=∃c0 c1 c2,cs=((Value.int .i64 x.m) :: (c0.toList++(c1.toList++(c2.toList++([]))))).toArray∧N k c0 x.cap∧N k c1 x.steam∧N k c2 x.air
def bAr (N:World→Array Value→Rat→Prop) (k:World) (cs:Array Value) (x:PLink):Prop:=∃c0,cs=((Value.int .i64 x.a) :: ((Value.int .i64 x.b) :: (c0.toList++([])))).toArray∧N k c0 x.v
structure SecV (N:World→Array Value→Rat→Prop) (k:World) (A:Option Addr) (n:Nat) (B:Option Addr) (n':Nat) (C:Option Addr) (n'':Nat) (s:PSec):Prop where
 mats:Lst k A n 8 (bCl N k) s.mats
 cells:Lst k B n' 10 (bAn N k) s.cells
 links:Lst k C n'' 5 (bAr N k) s.links
structure StateV (N:World→Array Value→Rat→Prop) (k:World) (A:Option Addr) (n:Nat) (B:Option Addr) (n':Nat) (C:Option Addr) (n'':Nat) (x:PState):Prop where
 temp:Lst k A n 3 (N k) x.temp
 cure:Lst k B n' 3 (N k) x.cure
 spoil:Lst k C n'' 3 (N k) x.spoil
variable (hN:Num3 N)
include hN
end
def zX (f:Nat→Int):Nat→Int
 | 0=>0
 | n+1=>if zX f n=0 then f n else zX f n
def bBz (l:List PRate) (i:Nat):Int:=
 if 0<i∧¬ (at_ l (i-1)).f<(at_ l i).f then 7 else if (at_ l i).v<0 then 1 else if 0<i∧(at_ l i).v<(at_ l (i-1)).v then 7 else 0
def xK (l:List PRate):Int:=if l.length<1∨16<l.length then 4 else zX (bBz l) l.length
def bCx (m:PMat):Int:=if xK m.cure≠0 then xK m.cure else if xK m.spoil≠0 then xK m.spoil else if ¬ 0<m.done∨¬ 0<m.limit then 1 else 0
def bBb (n:Nat) (c:PCell):Int:=if c.m<0∨(n:Int)≤c.m∨¬ 0<c.cap∨c.steam<0∨c.air<0 then 1 else 0
def pair (x y:PLink):Bool:=decide (y.a=x.a∧y.b=x.b∨y.a=x.b∧y.b=x.a)
def bBu (n:Nat) (L:List PLink) (i:Nat):Int:=
 if ¬ (0≤(at_ L i).a∧(at_ L i).a<n)∨¬ (0≤(at_ L i).b∧(at_ L i).b<n)∨(at_ L i).a=(at_ L i).b∨(at_ L i).v<0 then 1
 else if (List.range i).any (fun k=>pair (at_ L i) (at_ L k))=true then 8 else 0
def aMo (n:Nat) (L:List PLink):Int:=zX (bBu n L) L.length
def nbm (L:List PLink) (i:Int):List PLink:=L.flatMap fun l=>(if l.a=i then [l] else [])++(if l.b=i then [l] else [])
def tot (L:List PLink) (i:Int) (t:Rat):Rat:=(nbm L i).foldl (fun t l=>t+l.v) t
def bBv (s:PSec) (i:Nat):Int:=if (at_ s.cells i).cap<tot s.links i ((at_ s.cells i).steam+(at_ s.cells i).air) then 60 else 0
def aQu (s:PSec):Prop:=s.mats.length<1∨8<s.mats.length∨s.cells.length<1∨24<s.cells.length∨64<s.links.length
instance (s:PSec):Decidable (aQu s):=by unfold aQu;exact inferInstance
def aXf (s:PSec):Int:=zX (fun i=>bCx (at_ s.mats i)) s.mats.length
def aLm (s:PSec):Int:=zX (fun i=>bBb s.mats.length (at_ s.cells i)) s.cells.length
def aEn (s:PSec):Int:=
 if aQu s then 4 else if aXf s≠0 then aXf s else if aLm s≠0 then aLm s else if aMo s.cells.length s.links≠0 then aMo s.cells.length s.links else zX (bBv s) s.cells.length
def upto (l:List PRate) (t:Rat):Nat:=(l.takeWhile fun r=>decide (r.f≤t)).length
def spd (l:List PRate) (t:Rat):Rat:=if upto l t=0 then 0 else (at_ l (upto l t-1)).v
def flow (s:PSec) (x:PState) (u v:Rat) (i:Nat):Rat:=
 (nbm s.links i).foldl (fun t l=>t+l.v*(at_ x.temp (l.a+l.b-(i:Int)).toNat-at_ x.temp i)) ((at_ s.cells i).steam*(u-at_ x.temp i)+(at_ s.cells i).air*(v-at_ x.temp i))
def bCi (s:PSec) (x:PState) (u v:Rat) (i:Nat):Rat:=at_ x.temp i+flow s x u v i/(at_ s.cells i).cap
def bBf (s:PSec) (x:PState) (i:Nat):Rat:=at_ x.cure i+spd (at_ s.mats (at_ s.cells i).m.toNat).cure (at_ x.temp i)
def bAc (s:PSec) (x:PState) (i:Nat):Rat:=at_ x.spoil i+spd (at_ s.mats (at_ s.cells i).m.toNat).spoil (at_ x.temp i)
def bCg (s:PSec) (x:PState) (u v:Rat):PState where
 temp:=(List.range s.cells.length).map (bCi s x u v)
 cure:=(List.range s.cells.length).map (bBf s x)
 spoil:=(List.range s.cells.length).map (bAc s x)
def sized (s:PSec) (x:PState):Prop:=x.temp.length=s.cells.length∧x.cure.length=s.cells.length∧x.spoil.length=s.cells.length
instance (s:PSec) (x:PState):Decidable (sized s x):=by unfold sized;exact inferInstance
def bDn (s:PSec) (x:PState):Int:=if aEn s≠0 then aEn s else if ¬ sized s x then 4 else 0
def bDf (s:PSec) (us vs:List Rat):Nat→PState→PState
 | 0,x=>x
 | j+1,x=>bCg s (bDf s us vs j x) (at_ us j) (at_ vs j)
def bBr (s:PSec) (x:PState):Nat→Rat
 | 0=>0
 | j+1=>bBr s x j+(at_ s.cells j).cap*at_ x.temp j
section
variable {s:PSec}(h:aEn s=0)
include h
end
def xV (n m:Nat):Int:=if n<1∨8<n∨m<1∨8<m then 4 else 0
def bBq (f:Nat→Int) (v:Int):Nat→Bool
 | 0=>false
 | n+1=>bBq f v n || decide (f n=v)
def bDl (m:Nat) (f:Nat→Int) (i:Nat):Int:=if f i<0∨(m:Int)≤f i then 1 else if bBq f (f i) i=true then 8 else 0
def bDk (n m:Nat) (f:Nat→Int) (a b:Nat):Int:=if xV n m≠0 then xV n m else if a≠n∨b≠n then 4 else zX (bDl m f) n
def bDc (xs ys:Nat→W4) (f g:Nat→Int) (i:Nat):W4:=aPn (xs i) (ys (f i).toNat) (plc (g i))
def bDs (xs ys:Nat→W4) (f g:Nat→Int) (i:Nat):Q4:=(bDc xs ys f g i).norm
noncomputable def aXg (f:Nat→Q4):Nat→Q4
 | 0=>Q4.zero
 | n+1=>if 0<sgd (f n) (aXg f n) then f n else aXg f n
open IntKind (wrap)
open Sy (Up Sees CallsG Seg)
section
variable {k k':World}{R:World→Value→Prop}{K L:Nat}{cs cs':Array Value}{x y:W4}{v v':Q4}
def In8 (n:Int):Prop:=-128≤n∧n≤127
theorem In8.in64 {n:Int}(h:In8 n):In64 n:=by unfold In8 at h;unfold In64;omega
theorem In8.wrap {n:Int}(h:In8 n):wrap .i64 n=n:=by unfold In8 at h;rw [je];omega
theorem aXa {x y:W4}(h:WaveV k cs x K) (e:x=y):WaveV k cs y K:=e▸h
theorem rT {m:Nat}(h:m<24):plc (m:Int)=m:=by unfold plc;omega
theorem bCb {n:Int}(hx:WaveV k cs x K) (hy:WaveV k cs' y K) (hK1:1≤K) (hK:K≤1000000) (C:∀k' ds,Up k k'→WaveV k' ds (aPn x y (plc n)) (8*K+19)→R k' (.agg ds)) :
 Cl k 178 #[.agg cs,.agg cs',.int .i64 n] R:=by
 intro k0 u0;refine aUc hx.seg hy.seg (yP fun k1 d1 u1 hT=>⟨d1,hT.seg,rfl,?_⟩);refine aCa ((hy.up u0).up u1) (hT.mono hK1) hK1 oq fun k3 d3 u3 hM=>⟨d3,hM.seg,rfl,?_⟩;refine aXt (K:=4*K+9) ((((hx.up u0).up u1).up u3).mono oq) hM oq oq fun k5 d5 u5 hA=>⟨d5,hA.seg,rfl,fun k6 u6=>?_⟩;exact C k6 d5 ((((u0.trans u1).trans u3).trans u5).trans u6) ((hA.up u6).mono oq)
theorem aLg (hx:WaveV k cs x K) (hy:WaveV k cs' y K) (hK1:1≤K) (hK:K≤100000) (C:∀k' ds,Up k k'→SurdV k' ds (mB x y) (32*K+85)→R k' (.agg ((Value.int .i64 (jX x y:Int)) :: (ds.toList++([]))).toArray)) :
 Cl k 70 #[.agg cs,.agg cs'] R:=by
 intro k0 u0;replace hx:=hx.up u0;replace hy:=hy.up u0;replace C:=fun k' ds u=>C k' ds (u0.trans u);refine aMu hx.seg hy.seg (aSs hx oq fun k1 d1 u1 h1=>⟨d1,h1.seg,rfl,?_⟩);refine aCa h1 (hy.up u1) hK1 oq fun k2 d2 u2 hp=>⟨d2,hp.seg,rfl,?_⟩;refine aWz hp fun k3 d3 u3 hr=>⟨d3,hr.seg,rfl,?_⟩;refine aWy (hp.up u3) fun k4 d4 u4 hi=>⟨d4,hi.seg,rfl,?_⟩;replace hr:=hr.up u4;have u14:=((u1.trans u2).trans u3).trans u4;replace hx:=hx.up u14;replace hy:=hy.up u14;replace C:=fun k' ds u=>C k' ds (u14.trans u);clear u14 u1 u2 u3 u4 h1 hp;unfold mB jX at C;generalize hpe:x.conj.mul y=p at *
 refine⟨fun m k' vs=>∃j c,j≤23∧m=23-j∧vs=[.int .i64 ((lo p j).1:Int),.int .i64 ((j+1:Nat):Int),.agg c]∧SurdV k' c (lo p j).2 (16*K+45),⟨23,fun k' u=>⟨0,d3,oq,rfl,rfl,(hr.up u).mono oq⟩⟩,?_⟩;rintro m k5 vs u5 ⟨j,c,hj,rfl,rfl,hb⟩;replace hr:=hr.up u5;replace hi:=hi.up u5;refine⟨_,_,c,hb.seg,rfl,fun hlt=>?_,fun hge=>?_⟩
 ·have hlt:=ow hlt;refine yP fun k6 d6 u6 hT=>⟨d6,hT.seg,rfl,?_⟩;rw [rT (m:=j+1) oq]at hT;refine aWz hT fun k7 d7 u7 ha=>⟨d7,ha.seg,rfl,?_⟩;refine kC (K:=4*K+9) ((hr.up u6).up u7) (ha.mono oq) oq oq fun k8 d8 u8 hA=>⟨d8,hA.seg,rfl,?_⟩;refine aWy ((hT.up u7).up u8) fun k9 d9 u9 he=>⟨d9,he.seg,rfl,?_⟩;refine kC (K:=4*K+9) ((((hi.up u6).up u7).up u8).up u9) (he.mono oq) oq oq fun k10 d10 u10 hB=>⟨d10,hB.seg,rfl,?_⟩;refine rY ((hA.up u9).up u10) hB oq oq fun k11 d11 u11 hD=>⟨d11,hD.seg,rfl,?_⟩;have u611:=((((u6.trans u7).trans u8).trans u9).trans u10).trans u11;replace hD:SurdV k11 d11 (gAt p (j+1)) (16*K+45):=hD.mono oq;refine aLb hD (hb.up u611) oq oq fun k12 u12=>⟨_,rfl,fun hc=>?_,fun hc=>?_⟩
  ·have hc:sgd (gAt p (j+1)) (lo p j).2<0:=ow hc;have e:lo p (j+1)=(j+1,gAt p (j+1)):=by show (if _ then _ else _)=_;rw [od hc]
   intro k13 u13;refine⟨23-(j+1),oq,j+1,d11,oq,rfl,?_,?_⟩
   ·rw [e,lY oq]
   ·rw [e];exact (hD.up u12).up u13
  ·have hc:¬ sgd (gAt p (j+1)) (lo p j).2<0:=ov hc;have e:lo p (j+1)=lo p j:=by show (if _ then _ else _)=_;rw [oh hc]
   intro k13 u13;refine⟨23-(j+1),oq,j+1,c,oq,rfl,?_,?_⟩
   ·rw [e,lY oq]
   ·rw [e];exact ((hb.up u611).up u12).up u13
 ·have hge:=ov hge;have e:j=23:=oq
  subst e;have h1:=(aFo p 23).1;refine bCb (hx.up u5) (hy.up u5) hK1 oq fun k6 d6 u6 hA=>⟨d6,hA.seg,rfl,?_⟩;rw [rT oq]at hA;refine aSt hA oq oq fun k7 d7 u7 hN=>⟨d7,hN.seg,rfl,fun k8 u8=>?_⟩;exact C k8 d7 (((u5.trans u6).trans u7).trans u8) ((hN.up u8).mono oq)
noncomputable def aTp (x y:W4):Nat:=((hi x 23).1+36-(hi y 23).1) % 24
theorem bBg (hx:WaveV k cs x K) (hy:WaveV k cs' y K) (hK1:1≤K) (hK:K≤1000000) (C:∀k',Up k k'→R k' (.int .i64 (aTp x y:Int))) :
 Cl k 71 #[.agg cs,.agg cs'] R:=by
 intro k0 u0;have h1:=(aFj x 23).1;have h2:=(aFj y 23).1;refine aUb hx.seg hy.seg (aMh (hx.up u0) hK1 hK fun k1 d1 u1 a1=>⟨_,d1,a1.seg,rfl,?_⟩);refine aMh ((hy.up u0).up u1) hK1 hK fun k3 d3 u3 a3=>⟨_,d3,a3.seg,rfl,fun k4 u4=>?_⟩;have:=C k4 (((u0.trans u1).trans u3).trans u4);unfold aTp at this;generalize (hi x 23).1=p at h1 this ⊢;generalize (hi y 23).1=q at h2 this ⊢;have w1:wrap .i64 ((p:Int)+12)=(p:Int)+12:=by rw [je];omega
 have w2:wrap .i64 ((p:Int)+12-(q:Int))=(p:Int)+12-(q:Int):=by rw [je];omega
 have w3:wrap .i64 ((p:Int)+12-(q:Int)+24)=(p:Int)+12-(q:Int)+24:=by rw [je];omega
 rw [w1,w2,w3,Int.tmod_eq_emod_of_nonneg oq];have e:(((p+36-q) % 24:Nat):Int)=((p:Int)+12-(q:Int)+24) % 24:=oq
 rw [←e];exact this
def mI (a b c:Int):Q4:=⟨ofQ a 4,ofQ b 4,ofQ c 4,ofQ 0 0⟩
theorem aOi {n0 n1 n2:Int}(h0:In8 n0) (h1:In8 n1) (h2:In8 n2) (C:∀k',Up k k'→R k' (.agg #[.int .i64 n0,.int .i64 4,.int .i64 n1,.int .i64 4,.int .i64 n2,.int .i64 4,.int .i64 0,.int .i64 0])) :
 Cl k 171 #[.agg #[.int .i8 n0,.int .i8 n1,.int .i8 n2]] R:=by
 intro k0 u0;refine aVe fun k1 u1=>?_;rw [h0.wrap,h1.wrap,h2.wrap];exact C k1 (u0.trans u1)
theorem lit4:In64 4:=⟨oz,oz⟩
theorem lit0:In64 0:=⟨oz,oz⟩
theorem wU {n0 n1 n2 n3 n4 n5:Int}(h0:In8 n0) (h1:In8 n1) (h2:In8 n2) (h3:In8 n3) (h4:In8 n4) (h5:In8 n5)
 (C:∀k' ds ds',Up k k'→WaveV k' ds ⟨mI n0 n1 n2,mI n3 n4 n5⟩ 6→WQ k' ds' ⟨mI n0 n1 n2,mI n3 n4 n5⟩ 2→R k' (.tuple #[.agg ds,.agg ds'])) :
 Cl k 69 #[.agg #[.int .i8 n0,.int .i8 n1,.int .i8 n2,.int .i8 n3,.int .i8 n4,.int .i8 n5]] R:=by
 intro k0 u0;refine aZb (aOi h0 h1 h2 fun k1 u1=>⟨_,_,_,_,_,_,_,_,rfl,?_⟩);refine aOi h3 h4 h5 fun k3 u3=>⟨_,_,_,_,_,_,_,_,rfl,?_⟩;refine aKy h0.in64 lit4 h1.in64 lit4 h2.in64 lit4 lit0 lit0 h3.in64 lit4 h4.in64 lit4 h5.in64 lit4 lit0 lit0 fun k5 d5 u5 hW=>⟨d5,hW.seg,rfl,?_⟩;refine W32.wofwave_v h0.in64 lit4 h1.in64 lit4 h2.in64 lit4 lit0 lit0 h3.in64 lit4 h4.in64 lit4 h5.in64 lit4 lit0 lit0 fun k7 d7 u7 hV=>⟨d7,hV.seg,rfl,fun k8 u8=>?_⟩;exact C k8 d5 d7 (((((u0.trans u1).trans u3).trans u5).trans u7).trans u8) ((hW.up u7).up u8) (hV.up u8)
theorem aTm:dec 1=[49]:=by
 unfold dec;rw [oh oq,jD oq,show 1/10=0 from rfl,dL];rfl
theorem aNl:eI ⟨1,0,0,0⟩=[49]:=by
 have r2:aE 1=[49]:=by
  unfold aE;rw [show (1:Rat).num=1 from rfl,show (1:Rat).den=1 from rfl,oh oq,od rfl,show (1:Int).natAbs=1 from rfl,aTm];rfl
 have p1:aH [] 1 []=[49]:=by
  unfold aH;rw [oh oz,oh (by simp),r2];rfl
 have p3:∀m:List UInt8,aH [49] 0 m=[49]:=fun m=>by
  unfold aH;rw [od rfl]
 unfold eI;simp only [body];rw [p1,p3,p3,p3];rfl
theorem in8 {n:Int}(h:n.natAbs≤100):In8 n:=by unfold In8;omega
theorem bCr:(⟨mI 12 0 0,mI 0 0 0⟩:W4)=⟨⟨3,0,0,0⟩,Q4.zero⟩:=by decide +kernel
theorem bCs:(⟨mI 0 0 0,mI 8 0 0⟩:W4)=⟨Q4.zero,⟨2,0,0,0⟩⟩:=by decide +kernel
theorem bCu:mB ⟨⟨3,0,0,0⟩,Q4.zero⟩ ⟨Q4.zero,⟨2,0,0,0⟩⟩=⟨1,0,0,0⟩:=by unfold mB;rw [nG,xC]
theorem bCt:aTp ⟨⟨3,0,0,0⟩,Q4.zero⟩ ⟨Q4.zero,⟨2,0,0,0⟩⟩=6:=by unfold aTp;rw [uK,uL]
theorem aMw (C:∀k',Up k k'→R k' (.bool true)):Cl k 12 #[] R:=by
 intro k0 u0;refine aIc (wU (in8 oz) (in8 oz) (in8 oz) (in8 oz) (in8 oz) (in8 oz) fun k1 d1 e1 u1 hA g1=>⟨d1,hA.seg,e1,g1.seg,rfl,?_⟩);refine wU (in8 oz) (in8 oz) (in8 oz) (in8 oz) (in8 oz) (in8 oz) fun k3 d3 e3 u3 hB g3=>⟨d3,hB.seg,e3,g3.seg,rfl,?_⟩;replace hA:=aXa (hA.up u3) bCr;replace hB:=aXa hB bCs;refine aLg hA hB oz oz fun k5 d5 u5 hN=>⟨_,d5,hN.seg,rfl,?_⟩;refine bBg (hA.up u5) (hB.up u5) oz oz fun k7 u7=>⟨_,rfl,?_⟩;rw [bCt,nG];rw [bCu]at hN;refine⟨fun _=>⟨fun _=>?_,fun h=>absurd h oz⟩,fun h=>absurd h oz⟩;refine aEs (hN.up u7) oz oz fun k9 u9=>⟨_,rfl,fun k10 u10=>?_⟩;rw [aNl,show ((str [49]).toList == (⟨#[49]⟩:ByteArray).toList)=true from toList_inj.2 rfl];exact C k10 ((((((u0.trans u1).trans u3).trans u5).trans u7).trans u9).trans u10)
theorem aZr {n:Int}(hx:WQ k cs x K) (hy:WQ k cs' y K) (hK:K≤1000000) (C:∀k' ds,Up k k'→WQ k' ds (aPn x y (plc n)) (9*K+62)→R k' (.agg ds)) :
 Cl k 24 #[.agg cs,.agg cs',.int .i64 n] R:=by
 intro k0 u0;refine aVf hx.seg hy.seg (aGg fun k1 d1 u1 hT=>⟨d1,hT.seg,rfl,?_⟩);refine aEq ((hy.up u0).up u1) hT oq fun k3 d3 u3 hM=>⟨d3,hM.seg,rfl,?_⟩;refine bAj (((hx.up u0).up u1).up u3) hM oq fun k5 d5 u5 hA=>⟨d5,hA.seg,rfl,fun k6 u6=>?_⟩;exact C k6 d5 ((((u0.trans u1).trans u3).trans u5).trans u6) ((hA.up u6).mono oq)
theorem aTt (x y:W4) (j:Nat):(x.conj.mul (y.mul (oN j))).re=gAt (x.conj.mul y) j:=by unfold gAt;rw [W4.mul_assoc]
theorem aFn (p:W4) (j:Nat):lo p (j+1)=if sgd (gAt p (j+1)) (lo p j).2<0 then (j+1,gAt p (j+1)) else lo p j:=rfl
theorem aVg (hx:WQ k cs x K) (hy:WQ k cs' y K) (hK:K≤500) (C:∀k' ds,Up k k'→SQ k' ds (mB x y) (144*K+1037)→R k' (.agg ((Value.int .i64 (jX x y:Int)) :: (ds.toList++([]))).toArray)) :
 Cl k 87 #[.agg cs,.agg cs'] R:=by
 intro k0 u0;replace hx:=hx.up u0;replace hy:=hy.up u0;replace C:=fun k' ds u=>C k' ds (u0.trans u);have hx':=hx;obtain⟨xa,xb,rfl,hxa,hxb⟩:=hx';have hy':=hy;obtain⟨ya,yb,rfl,hya,hyb⟩:=hy';unfold mB jX at C;generalize hpe:x.conj.mul y=p at *
 refine aOj hxa.seg hxb.seg hya.seg hyb.seg ⟨fun m k' vs=>∃(j a:Nat) (c:Array Value),j+m=24∧vs=[.int .i64 (a:Int),.int .i64 (j:Int),.agg c]∧Seg 12 c∧(∀i,j=i+1→a=(lo p i).1∧SQ k' c (lo p i).2 (72*K+533)),⟨24,fun k' u=>⟨0,0,_,rfl,rfl,⟨rfl,by simp [Value.scalar,Value.noWord]⟩,fun i hi=>oq⟩⟩,?_⟩;rintro m k1 vs u1 ⟨j,a,c,hj,rfl,hs,hc⟩;refine⟨_,_,c,hs,rfl,fun hlt=>?_,fun hge=>?_⟩
 ·have hlt:j<24:=by have:=ow hlt;omega
  refine aWp (hx.up u1) oq fun k2 d2 u2 h2=>?_;have h2':=h2;obtain⟨ca,cb,rfl,hca,hcb⟩:=h2';refine⟨ca,hca.seg,cb,hcb.seg,rfl,?_⟩;refine aGg fun k3 d3 u3 hT=>?_;rw [rT hlt]at hT;have hT':=hT;obtain⟨ta,tb,rfl,hta,htb⟩:=hT';refine⟨ta,hta.seg,tb,htb.seg,rfl,?_⟩;refine aEq (((hy.up u1).up u2).up u3) hT oq fun k4 d4 u4 h4=>?_;have h4':=h4;obtain⟨ma,mb,rfl,hma,hmb⟩:=h4';refine⟨ma,hma.seg,mb,hmb.seg,rfl,?_⟩;refine aEq ((h2.up u3).up u4) h4 oq fun k5 d5 u5 h5=>?_;obtain⟨na,nb,rfl,hna,hnb⟩:=h5;refine⟨na,hna.seg,nb,hnb.seg,rfl,?_⟩;have hna:SQ k5 na (gAt p j) (72*K+533):=by
   have e:=aTt x y j;rw [hpe]at e;exact e▸hna.mono oq
  have u15:=(((u2.trans u3).trans u4).trans u5);refine⟨fun h=>?_,fun h=>?_⟩
  ·have h:j=0:=by have:=eq_of_beq h;omega
   subst h;refine fun k6 u6=>⟨m-1,oq,1,0,na,oq,rfl,hna.seg,fun i hi=>?_⟩;have:i=0:=oq
   subst this;rw [sO]at hna;exact⟨rfl,hna.up u6⟩
  ·obtain⟨i,rfl⟩:∃i,j=i+1:=⟨j-1,by
    have:j≠0:=fun e=>by subst e;exact absurd h oz
    omega⟩
   obtain⟨ea,hc'⟩:=hc i rfl;subst ea;refine aZw hna (hc'.up u15) oq fun k6 u6=>⟨_,rfl,fun hd=>?_,fun hd=>?_⟩
   ·have hd:sgd (gAt p (i+1)) (lo p i).2<0:=ow hd;refine fun k7 u7=>⟨m-1,oq,i+2,i+1,na,oq,by rw [lY oq],hna.seg,fun q hq=>?_⟩;have:q=i+1:=oq
    subst this;rw [aFn,od hd];exact⟨rfl,(hna.up u6).up u7⟩
   ·have hd:¬ (sgd (gAt p (i+1)) (lo p i).2<0):=ov hd;refine fun k7 u7=>⟨m-1,oq,i+2,(lo p i).1,c,oq,by rw [lY oq],hs,fun q hq=>?_⟩;have:q=i+1:=oq
    subst this;rw [aFn,oh hd];exact⟨rfl,((hc'.up u15).up u6).up u7⟩
 ·have hge:=ov hge;have e:j=23+1:=oq
  obtain⟨ea,_⟩:=hc 23 e;subst ea;have hlo:=(aFo p 23).1;refine aZr (hx.up u1) (hy.up u1) oq fun k2 d2 u2 h2=>?_;rw [rT oq]at h2;have h2':=h2;obtain⟨ra,rb,rfl,hra,hrb⟩:=h2';refine⟨ra,hra.seg,rb,hrb.seg,rfl,?_⟩;refine aZf h2 oq fun k3 d3 u3 h3=>⟨d3,h3.seg,rfl,fun k4 u4=>?_⟩;exact C k4 d3 (((u1.trans u2).trans u3).trans u4) ((h3.up u4).mono oq)
end
open Value (agg slice int bool tuple)
open Sy (Up Sees CallsG Seg execFn_use)
set_option maxRecDepth 100000
variable {k:World}{R:World→Value→Prop}{A0 A1:Option Addr}{c0 c1 l0 l1:Nat}{n2:Int}
theorem aNd 
 (h:Tt∧(Br (decide (((l0:Nat):Int)<1)) (Rt R k (bool true)) (Tt∧(Rt R k (bool (decide (((l0:Nat):Int) > 8))))))) :
 CallsG Tryz.prog 193 #[slice A0 l0 c0] k R:=
 qY { opq:=[89] } h
theorem aUl 
 (h:Cl k 193 #[slice A0 l0 c0] fun k1 r0=>Gb r0 fun b2=>
 Br b2 (Rt R k1 (int .i64 4)) (Cl k1 193 #[slice A1 l1 c1] fun k4 r3=>Gb r3 fun b3=>
 Br b3 (Rt R k4 (int .i64 4)) (Rt R k4 (int .i64 0)))) :
  CallsG Tryz.prog 85 #[slice A0 l0 c0,slice A1 l1 c1] k R:=
  qY { opq:=[89] } h
theorem aVo 
 (h:Tt∧(Br (decide (((l0:Nat):Int)<1)) (Rt R k (int .i64 4)) (Tt∧(Br (decide (((l0:Nat):Int) > 8)) (Rt R k (int .i64 4)) (Tt∧(Br (decide (((l1:Nat):Int)<1)) (Rt R k (int .i64 4)) (Tt∧(Br (decide (((l1:Nat):Int) > 8)) (Rt R k (int .i64 4)) (Rt R k (int .i64 0)))))))))) :
 CallsG Tryz.prog 26 #[slice A0 l0 c0,slice A1 l1 c1] k R:=
 qY { opq:=[56] } h
theorem aMn 
 (h:Tt∧(Br (decide (((l0:Nat):Int)≤n2)) (Tt∧(Rt R k (bool (decide (((l1:Nat):Int)≤n2))))) (Rt R k (bool false)))) :
 CallsG Tryz.prog 11 #[slice A0 l0 c0,slice A1 l1 c1,int .i64 n2] k R:=
 qY { opq:=[] } h
theorem aMp 
 (h:Tt∧(Tt∧(((0:Int)≤(l0:Nat)∧Sy.sizeOk 304 (Int.toNat (l0:Nat))∧∀(A1:Option Addr) (l1 c1:Nat) (cs2:Array Value),l1=Int.toNat (l0:Nat)→cs2=madeCells [bool false,slice none 0 0,bool false,slice none 0 0,bool false,slice none 0 0,bool false,slice none 0 0,slice none 0 0,bool false,slice none 0 0,bool false,slice none 0 0,bool false,slice none 0 0,bool false,slice none 0 0,slice none 0 0].toArray (Int.toNat (l0:Nat)*18)→l1≤c1→
 (0:Int)≤(l0:Nat)∧Sy.sizeOk 448 (Int.toNat (l0:Nat))∧∀(A3:Option Addr) (l3 c3:Nat) (cs4:Array Value),l3=Int.toNat (l0:Nat)→cs4=madeCells [bool false,slice none 0 0,slice none 0 0,bool false,slice none 0 0,slice none 0 0,bool false,slice none 0 0,slice none 0 0,bool false,slice none 0 0,slice none 0 0,bool false,slice none 0 0,slice none 0 0,bool false,slice none 0 0,slice none 0 0,bool false,slice none 0 0,slice none 0 0,bool false,slice none 0 0,slice none 0 0].toArray (Int.toNat (l0:Nat)*24)→l3≤c3→
 Tt∧(∃I0:Nat→World→List Value→Prop,(∃m0,∀k0,Up k k0→I0 m0 k0 [int .i64 0,tuple #[slice A1 l1 c1,agg cs2],tuple #[slice A3 l3 c3,agg cs4]])∧
 ∀m0 k0 vs0,Up k k0→I0 m0 k0 vs0→∃n5,∃A6 l6 c6,∃cs7,Sy.RowC cs7∧∃A8 l8 c8,∃cs9,Sy.RowC cs9∧some [int .i64 n5,tuple #[slice A6 l6 c6,agg cs7],tuple #[slice A8 l8 c8,agg cs9]]=some vs0∧
 Br (decide ((n5:Int)<(l0:Nat))) (Ad A0∧Ix n5 l0∧
 ∃n10,∃n11,∃n12,∃n13,∃n14,∃n15,Sy.ReadAt k0.cell? A0 (Int.toNat n5*6+0) 6 (agg #[int .i8 n10,int .i8 n11,int .i8 n12,int .i8 n13,int .i8 n14,int .i8 n15])∧
 Cl k0 69 #[agg #[int .i8 n10,int .i8 n11,int .i8 n12,int .i8 n13,int .i8 n14,int .i8 n15]] fun k2 r1=>∃cs16,Seg 18 cs16∧∃cs17,Seg 24 cs17∧some (tuple #[agg cs16,agg cs17])=some r1∧
 (decide ((0:Int)≤n5∧(n5:Int)<(l6:Nat)))=true∧
 (Ix n5 l6∧∀cs18:Array Value,cs18=Sy.over cs7 (Int.toNat n5*18+0) (cs16.toList++([]))→
 (decide ((0:Int)≤n5∧(n5:Int)<(l8:Nat)))=true∧
 (Ix n5 l8∧∀cs19:Array Value,cs19=Sy.over cs9 (Int.toNat n5*24+0) (cs17.toList++([]))→
 ∀k3,Up k2 k3→∃m,m<m0∧I0 m k3 [int .i64 (wrap .i64 (n5+1)),tuple #[slice A6 l6 c6,agg cs18],tuple #[slice A8 l8 c8,agg cs19]]))) (∀k4,Up k0 k4→Sy.RowAt k4 A6 cs7→
 ∀k5,Up k4 k5→Sy.RowAt k5 A8 cs9→
 Rt R k5 (tuple #[slice A6 l6 c6,slice A8 l8 c8]))))∧
 ((0:Int)≤(l0:Nat)∧Sy.sizeOk 448 (Int.toNat (l0:Nat))∧∀(A1:Option Addr) (l1 c1:Nat) (cs2:Array Value),l1=Int.toNat (l0:Nat)→cs2=madeCells [bool false,slice none 0 0,slice none 0 0,bool false,slice none 0 0,slice none 0 0,bool false,slice none 0 0,slice none 0 0,bool false,slice none 0 0,slice none 0 0,bool false,slice none 0 0,slice none 0 0,bool false,slice none 0 0,slice none 0 0,bool false,slice none 0 0,slice none 0 0,bool false,slice none 0 0,slice none 0 0].toArray (Int.toNat (l0:Nat)*24)→l1≤c1→
 (0:Int)≤(l0:Nat)∧Sy.sizeOk 304 (Int.toNat (l0:Nat))∧∀(A3:Option Addr) (l3 c3:Nat) (cs4:Array Value),l3=Int.toNat (l0:Nat)→cs4=madeCells [bool false,slice none 0 0,bool false,slice none 0 0,bool false,slice none 0 0,bool false,slice none 0 0,slice none 0 0,bool false,slice none 0 0,bool false,slice none 0 0,bool false,slice none 0 0,bool false,slice none 0 0,slice none 0 0].toArray (Int.toNat (l0:Nat)*18)→l3≤c3→
 Tt∧(∃I7:Nat→World→List Value→Prop,(∃m7,∀k7,Up k k7→I7 m7 k7 [int .i64 0,tuple #[slice A3 l3 c3,agg cs4],tuple #[slice A1 l1 c1,agg cs2]])∧
 ∀m7 k7 vs7,Up k k7→I7 m7 k7 vs7→∃n5,∃A6 l6 c6,∃cs7,Sy.RowC cs7∧∃A8 l8 c8,∃cs9,Sy.RowC cs9∧some [int .i64 n5,tuple #[slice A6 l6 c6,agg cs7],tuple #[slice A8 l8 c8,agg cs9]]=some vs7∧
 Br (decide ((n5:Int)<(l0:Nat))) (Ad A0∧Ix n5 l0∧
 ∃n10,∃n11,∃n12,∃n13,∃n14,∃n15,Sy.ReadAt k7.cell? A0 (Int.toNat n5*6+0) 6 (agg #[int .i8 n10,int .i8 n11,int .i8 n12,int .i8 n13,int .i8 n14,int .i8 n15])∧
 Cl k7 69 #[agg #[int .i8 n10,int .i8 n11,int .i8 n12,int .i8 n13,int .i8 n14,int .i8 n15]] fun k9 r8=>∃cs16,Seg 18 cs16∧∃cs17,Seg 24 cs17∧some (tuple #[agg cs16,agg cs17])=some r8∧
 (decide ((0:Int)≤n5∧(n5:Int)<(l6:Nat)))=true∧
 (Ix n5 l6∧∀cs18:Array Value,cs18=Sy.over cs7 (Int.toNat n5*18+0) (cs16.toList++([]))→
 (decide ((0:Int)≤n5∧(n5:Int)<(l8:Nat)))=true∧
 (Ix n5 l8∧∀cs19:Array Value,cs19=Sy.over cs9 (Int.toNat n5*24+0) (cs17.toList++([]))→
 ∀k10,Up k9 k10→∃m,m<m7∧I7 m k10 [int .i64 (wrap .i64 (n5+1)),tuple #[slice A6 l6 c6,agg cs18],tuple #[slice A8 l8 c8,agg cs19]]))) (∀k11,Up k7 k11→Sy.RowAt k11 A6 cs7→
 ∀k12,Up k11 k12→Sy.RowAt k12 A8 cs9→
 Rt R k12 (tuple #[slice A6 l6 c6,slice A8 l8 c8]))))))) :
  CallsG Tryz.prog 13 #[slice A0 l0 c0] k R:=
  qY { opq:=[89,56],loops:=[(0,[.tmp 18 false [.int .i64],.rw 4 89 18,.rw 5 56 24])] } h
end Go.Proofs.YtmifbgccpdmjpaaGreat

namespace Go.Proofs.YtmifbgccpdmjpaaGreat
open IntKind (wrap)
open Go.RowKit Num Plain W32
open Sy (Up Sees CallsG Seg RowC RowAt ReadAt cellAt)
def bCn (a:Array Value) (z:Int):Prop:=a=#[.int .i64 z]
abbrev bDm (k:World) (A:Option Addr) (n:Nat) (f:Nat→Int):Prop:=Els k A n 1 bCn f
abbrev WavesV (k:World) (A:Option Addr) (n:Nat) (f:Nat→W4) (K:Nat):Prop:=Els k A n 18 (fun a w=>WaveV k a w K) f
abbrev WavesQ (k:World) (A:Option Addr) (n:Nat) (f:Nat→W4) (K:Nat):Prop:=Els k A n 24 (fun a w=>WQ k a w K) f
section
variable {k k':World}{R:World→Value→Prop}{K:Nat}{A A0 A1 A2 A3:Option Addr}{n m c c0 c1 c2 c3 a b:Nat}{f fw ft:Nat→Int}{xs ys F:Nat→W4}{v:Int}
theorem WavesV.up (h:WavesV k A n F K) (u:Up k k'):WavesV k' A n F K:=(Els.up h u).mono fun _ _ h=>h.up u
theorem WavesQ.up (h:WavesQ k A n F K) (u:Up k k'):WavesQ k' A n F K:=(Els.up h u).mono fun _ _ h=>h.up u
theorem WavesV.at (h:WavesV k A n F K) {i:Nat}(hi:i<n) (u:Up k k'):(∃b o,A=some ⟨b,o,none⟩)∧((0:Int)≤(i:Int)∧((i:Int):Int)<(n:Nat))∧∃a,WaveV k' a (F i) K∧ReadAt k'.cell? A (Int.toNat (i:Int)*18+0) 18 (.agg a):=by
 obtain⟨a,h1,h2,h3,h4⟩:=Els.el h hi oz;exact⟨h3,⟨oq,oq⟩,a,h2.up u,h4 k' u 0 18 _ h1 fun q v hv=>by rw [qt];exact hv⟩
theorem WavesQ.at (h:WavesQ k A n F K) {i:Nat}(hi:i<n) (u:Up k k'):(∃b o,A=some ⟨b,o,none⟩)∧((0:Int)≤(i:Int)∧((i:Int):Int)<(n:Nat))∧∃a,WQ k' a (F i) K∧ReadAt k'.cell? A (Int.toNat (i:Int)*24+0) 24 (.agg a):=by
 obtain⟨a,h1,h2,h3,h4⟩:=Els.el h hi oz;exact⟨h3,⟨oq,oq⟩,a,h2.up u,h4 k' u 0 24 _ h1 fun q v hv=>by rw [qt];exact hv⟩
theorem aEr {j:Nat}(h:j<1000000):wrap .i64 ((j:Int)+1)=((j+1:Nat):Int):=by rw [je];omega
theorem aFs (C:∀k',Up k k'→R k' (.bool (decide (n<1∨8<n)))):Cl k 193 #[.slice A n c] R:=by
 intro k0 u0;refine aNd ⟨rfl,fun h k1 u1=>?_,fun h=>⟨rfl,fun k1 u1=>?_⟩⟩
 ·have:=C k1 (u0.trans u1);have h:=ow h
  rwa [decide_eq_true (.inl oq)]at this
 ·have:=C k1 (u0.trans u1);have h:=ov h
  rwa [show decide (n<1∨8<n)=decide (((n:Nat):Int) > 8) from decide_eq_decide.2 ⟨fun g=>oq,fun g=>.inr oq⟩]at this
theorem aZd (C:∀k',Up k k'→R k' (.int .i64 (xV n m))):Cl k 85 #[.slice A0 n c0,.slice A1 m c1] R:=by
 intro k0 u0;unfold xV at C;refine aUl (aFs fun k1 u1=>⟨_,rfl,fun h k2 u2=>?_,fun h=>aFs fun k2 u2=>⟨_,rfl,fun h' k3 u3=>?_,fun h' k3 u3=>?_⟩⟩)
 ·have h:=ow h;rw [od oq]at C;exact C k2 (u0.trans (u1.trans u2))
 ·have h:=ov h;have h':=ow h';rw [od oq]at C;exact C k3 (u0.trans (u1.trans (u2.trans u3)))
 ·have h:=ov h;have h':=ov h';rw [oh oq]at C;exact C k3 (u0.trans (u1.trans (u2.trans u3)))
theorem aNh {x y:Int}(h:(x != y)=true):x≠y:=bne_iff_ne.1 h
theorem bBh {x y:Int}(h:(x != y)=false):x=y:=by simpa using h
def bDt (n m:Nat) (f:Nat→Int) (a b:Nat):Nat:=if bDk n m f a b=0 then n else 0
end
abbrev bCp (k:World) (A:Option Addr) (n:Nat) (f:Nat→Q4) (K:Nat):Prop:=Els k A n 12 (fun a v=>SQ k a v K) f
section
variable {k k':World}{R:World→Value→Prop}{K:Nat}{A A0 A1 A2 A3:Option Addr}{n m c c0 c1 c2 c3 a b:Nat}{fw ft:Nat→Int}{xs ys F:Nat→W4}{f:Nat→Q4}
theorem aZs (C:∀k',Up k k'→R k' (.int .i64 (xV n m))):Cl k 26 #[.slice A0 n c0,.slice A1 m c1] R:=by
 intro k0 u0;unfold xV at C;have bad:(n<1∨8<n∨m<1∨8<m)→∀k',Up k0 k'→R k' (.int .i64 4):=fun h k' u=>by
  have:=C k' (u0.trans u)
  rwa [od h]at this
 refine aVo ⟨rfl,fun h=>bad (.inl (by have:=ow h;omega)),fun h=>⟨rfl,fun h1=>bad (.inr (.inl (by have:=ow h1;omega))),fun h1=>⟨rfl,fun h2=>bad (.inr (.inr (.inl (by have:=ow h2;omega)))),fun h2=>⟨rfl,fun h3=>bad (.inr (.inr (.inr (by have:=ow h3;omega)))),fun h3 k1 u1=>?_⟩⟩⟩⟩;have h:=ov h;have h1:=ov h1;have h2:=ov h2;have h3:=ov h3;have:=C k1 (u0.trans u1)
 rwa [oh oq]at this
end
def aGt (a:Array Value) (w:W4):Prop:=∃n0 n1 n2 n3 n4 n5:Int,(In8 n0∧In8 n1∧In8 n2∧In8 n3∧In8 n4∧In8 n5)∧a=#[.int .i8 n0,.int .i8 n1,.int .i8 n2,.int .i8 n3,.int .i8 n4,.int .i8 n5]∧w=⟨mI n0 n1 n2,mI n3 n4 n5⟩
section
variable {k k':World}{R:World→Value→Prop}{K:Nat}{A A0 A1 A2 A3:Option Addr}{n m c c0 c1 c2 c3 a b:Nat}{fw ft:Nat→Int}{xs ys F:Nat→W4}
theorem aFm (hl:Els k A n 6 aGt xs) (hn:n≤1000) (C:∀k' B e B' e',Up k k'→WavesV k' B n xs 6→WavesQ k' B' n xs 2→R k' (.tuple #[.slice B n e,.slice B' n e'])) :
 Cl k 13 #[.slice A n c] R:=by
 intro k0 u0;replace hl:=Els.up hl u0;replace C:=fun k' B e B' e' u=>C k' B e B' e' (u0.trans u);have s0:∀ {k:World},∀a v,optP 18 (fun a v=>WaveV k a v 6) a v→Seg 18 a:=fun _ _ h=>optP.seg (fun _ h=>h.seg) h;have s1:∀ {k:World},∀a v,optP 24 (fun a v=>WQ k a v 2) a v→Seg 24 a:=fun _ _ h=>optP.seg (fun _ h=>h.seg) h;have up0:∀ {k k':World}{xs:Array Value}{f:Nat→Option W4},Up k k'→ArrV n 18 (optP 18 (fun a v=>WaveV k a v 6)) xs f→ArrV n 18 (optP 18 (fun a v=>WaveV k' a v 6)) xs f:=fun u h=>h.mono fun a v g=>by
  cases v with
  | none=>exact g
  | some v=>exact WaveV.up g u
 have up1:∀ {k k':World}{xs:Array Value}{f:Nat→Option W4},Up k k'→ArrV n 24 (optP 24 (fun a v=>WQ k a v 2)) xs f→ArrV n 24 (optP 24 (fun a v=>WQ k' a v 2)) xs f:=fun u h=>h.mono fun a v g=>by
  cases v with
  | none=>exact g
  | some v=>exact WQ.up g u
 refine aMp ⟨rfl,rfl,⟨oq,⟨by simp;omega,by simp;omega⟩,fun B0 p0 e0 x0 g0 hx0 le0=>⟨oq,⟨by simp;omega,by simp;omega⟩,fun B1 p1 e1 x1 g1 hx1 le1=>⟨rfl,?_⟩⟩⟩,
  ⟨oq,⟨by simp;omega,by simp;omega⟩,fun B1 p1 e1 x1 g1 hx1 le1=>⟨oq,⟨by simp;omega,by simp;omega⟩,fun B0 p0 e0 x0 g0 hx0 le0=>⟨rfl,?_⟩⟩⟩⟩
 all_goals
  have q0:n=p0:=g0.symm;have q1:n=p1:=g1.symm;subst q0;subst q1;clear g0 g1 le0 le1;rw [ol]at hx0 hx1;have z0:∀ {k:World},ArrV n 18 (optP 18 (fun a v=>WaveV k a v 6)) x0 fun _=>none:=by
   intro k;rw [hx0];exact ArrV.made (z:=zS++zS) rfl none ⟨rfl,by simp [zS,Value.scalar,Value.noWord]⟩
  have z1:∀ {k:World},ArrV n 24 (optP 24 (fun a v=>WQ k a v 2)) x1 fun _=>none:=by
   intro k;rw [hx1];exact ArrV.made (z:=zT++zT) rfl none ⟨rfl,by simp [zT,Value.scalar,Value.noWord]⟩
  refine⟨fun r k' vs=>∃j y0 y1,j+r=n∧vs=[.int .i64 ((j:Nat):Int),.tuple #[.slice B0 n e0,.agg y0],.tuple #[.slice B1 n e1,.agg y1]]∧ArrV n 18 (optP 18 (fun a v=>WaveV k' a v 6)) y0 (cut j (fun i=>some (xs i)) fun _=>none)∧ArrV n 24 (optP 24 (fun a v=>WQ k' a v 2)) y1 (cut j (fun i=>some (xs i)) fun _=>none),
   ⟨n,fun _ _=>⟨0,x0,x1,qt _,rfl,ArrV.start z0,ArrV.start z1⟩⟩,?_⟩
  rintro r k1 vs u1 ⟨j,y0,y1,hj,rfl,hy0,hy1⟩;refine⟨_,B0,n,e0,y0,ArrV.rowC hy0 s0,B1,n,e1,y1,ArrV.rowC hy1 s1,rfl,fun hlt=>?_,fun hge k2 u2 hr0 k3 u3 hr1 k4 u4=>?_⟩
  ·have hlt:=ow hlt;have hlt:j<n:=oq
   obtain⟨a,h1,h2,h3,h4⟩:=Els.el hl hlt oz;obtain⟨n0,n1,n2,n3,n4,n5,⟨i0,i1,i2,i3,i4,i5⟩,ea,ew⟩:=h2;subst ea;refine⟨h3,⟨oq,oq⟩,n0,n1,n2,n3,n4,n5,h4 k1 u1 0 6 _ rfl fun q v hv=>by rw [qt];exact hv,?_⟩;refine wU i0 i1 i2 i3 i4 i5 fun k2 d d' u2 hd hd'=>⟨d,hd.seg,d',hd'.seg,rfl,decide_eq_true ⟨oq,oq⟩,⟨oq,oq⟩,?_⟩;rintro _ rfl;refine⟨decide_eq_true ⟨oq,oq⟩,⟨oq,oq⟩,?_⟩;rintro _ rfl k3 u3;rw [qn,qn];rw [←ew]at hd hd';exact⟨r-1,oq,j+1,_,_,oq,by rw [aEr oq],ArrV.step (up0 (u2.trans u3) hy0) hlt hd.seg.1 (hd.up u3),ArrV.step (up1 (u2.trans u3) hy1) hlt hd'.seg.1 (hd'.up u3)⟩
  ·have hge:=ov hge;have f0:ArrV n 18 (fun a v=>WaveV k2 a v 6) y0 xs:=ArrV.all (ArrV.done (F:=fun i=>some (xs i)) (up0 u2 hy0) oq);have f1:ArrV n 24 (fun a v=>WQ k3 a v 2) y1 xs:=ArrV.all (ArrV.done (F:=fun i=>some (xs i)) (up1 (u2.trans u3) hy1) oq);exact C k4 B0 e0 B1 e1 (u1.trans (u2.trans (u3.trans u4))) (WavesV.up (ArrV.els f0 (fun _ _ h=>h.seg) hr0) (u3.trans u4)) (WavesQ.up (ArrV.els f1 (fun _ _ h=>h.seg) hr1) u4)
theorem aYs {z:Int}(C:∀k',Up k k'→R k' (.bool (decide ((n:Int)≤z∧(m:Int)≤z)))):Cl k 11 #[.slice A0 n c0,.slice A1 m c1,.int .i64 z] R:=by
 intro k0 u0;refine aMn ⟨rfl,fun h=>⟨rfl,fun k1 u1=>?_⟩,fun h k1 u1=>?_⟩
 ·have:=C k1 (u0.trans u1);have h:=ow h
  rwa [show decide ((n:Int)≤z∧(m:Int)≤z)=decide (((m:Nat):Int)≤z) from decide_eq_decide.2 ⟨fun g=>g.2,fun g=>⟨h,g⟩⟩]at this
 ·have:=C k1 (u0.trans u1);have h:=ov h
  rwa [decide_eq_false fun g=>h g.1]at this
end
