/- Several texts in one. (Printed by prep.py.) -/
import Derived.Test.YtebaclefnpipfaaGreatTeVC3
import Derived.Maps.OwnOps
import Derived.Maps.AppendAt
import Derived.Maps.Views
import Derived.Deep.AppendLies
import Derived.Maps.OwnSet
import Derived.DeepKeys4
namespace Go.Proofs.YtebaclefnpipfaaGreat
set_option maxRecDepth 100000
set_option maxHeartbeats 2000000
open Go.RowKit
open Sy (Seg)
def zS:List Value:=[.bool false,.slice none 0 0,.bool false,.slice none 0 0,.bool false,.slice none 0 0,.bool false,.slice none 0 0,.slice none 0 0]
def zT:List Value:=[.bool false,.slice none 0 0,.slice none 0 0,.bool false,.slice none 0 0,.slice none 0 0,.bool false,.slice none 0 0,.slice none 0 0,.bool false,.slice none 0 0,.slice none 0 0]
def aXn (n:Nat) (z:List Value):Array Value:=(List.replicate n z).flatten.toArray
def elt (cs:Array Value) (s i:Nat):Array Value:=(Sy.pickL cs (i*s+0) s).toArray
structure Arr (n s:Nat) (E:Nat→Array Value→Prop) (cs:Array Value):Prop where
 size:cs.size=n*s
 el:∀i,i<n→E i (elt cs s i)
section
variable {n s i:Nat}{E E':Nat→Array Value→Prop}{cs ys:Array Value}
theorem tK:∀(l:List Value) (cs:Array Value) (o q:Nat),o+l.length≤cs.size→(Sy.over cs o l)[q]?=if o≤q∧q<o+l.length then l[q-o]? else cs[q]?:=by
 intro l cs o q h;rw [←jz,Sy.over_eq l cs o h,←jz];have hl:cs.toList.length=cs.size:=zq;simp only [ju,qf,xk,je,xx,hl];have e:min o cs.size=o:=oq
 rw [e]
 by_cases h1:q<o
 ·rw [og oq,og h1,og h1,oh oq]
 ·by_cases h2:q<o+l.length
  ·rw [og h2,oh h1,og ⟨oq,h2⟩]
  ·rw [oh h2,oh oq]
   congr 1
   omega
theorem fJ (cs:Array Value) (s i q:Nat) (hq:q<s) (hs:(i+1)*s≤cs.size):(elt cs s i)[q]?=cs[i*s+q]?:=by
 have hm:(i+1)*s=i*s+s:=jr _ _;unfold elt Sy.pickL;rw [←jz,jv,vu hq,jy];simp only [jj];rw [od oq];rfl
theorem fN (cs:Array Value) (s i:Nat):(elt cs s i).size=s:=by simp [elt,Sy.pickL]
theorem rL {a:Array Value}(ha:a.size=s) (h:∀q,q<s→(elt cs s i)[q]?=a[q]?):elt cs s i=a:=by
 apply vt;intro q
 by_cases hq:q<s
 ·exact h q hq
 ·rw [qo (by rw [fN];omega),qo oq]
theorem Arr.mono (h:Arr n s E cs) (hE:∀i a,i<n→E i a→E' i a):Arr n s E' cs:=⟨h.size,fun i hi=>hE i _ hi (h.el i hi)⟩
theorem Arr.seg (h:Arr n s E cs) (hE:∀i a,i<n→E i a→Seg s a):Seg (n*s) cs:=by
 refine⟨h.size,fun u hu=>?_⟩;obtain⟨p,hp,rfl⟩:=yz hu;have hp':p<n*s:=by rw [←h.size];simpa using hp
 have hs:0<s:=vd fun e=>by subst e;omega
 have hi:p/s<n:=(qs hs).2 hp';have hsg:=hE _ _ hi (h.el _ hi);have hq:=qt p hs;have hd:=qn p s;have e:(elt cs s (p/s))[p % s]?=cs[p]?:=by
  have h1:(p/s+1)*s≤n*s:=ob s hi;rw [fJ _ _ _ _ hq (by rw [h.size];exact h1)]
  congr 1
  rw [qy];exact hd
 have hc:cs[p]?=some cs.toList[p]:=by rw [←jz];exact qd hp
 refine hsg.2 _ ?_;rw [hc,←jz]at e;exact zz e
end
def ArrV {α:Type}(n s:Nat) (P:Array Value→α→Prop) (cs:Array Value) (f:Nat→α):Prop:=Arr n s (fun i a=>P a (f i)) cs
def cut {α:Type}(j:Nat) (F G:Nat→α) (i:Nat):α:=if i<j then F i else G i
section
variable {α:Type}{n s i j:Nat}{P Q:Array Value→α→Prop}{cs ys:Array Value}{f g F G:Nat→α}
theorem ArrV.mono (h:ArrV n s P cs f) (hP:∀a v,P a v→Q a v):ArrV n s Q cs f:=Arr.mono h fun _ _ _=>hP _ _
theorem ArrV.congr (h:ArrV n s P cs f) (e:∀i,i<n→f i=g i):ArrV n s P cs g:=Arr.mono h fun i _ hi h=>by rw [←e i hi];exact h
theorem ArrV.seg (h:ArrV n s P cs f) (hP:∀a v,P a v→Seg s a):Seg (n*s) cs:=Arr.seg h fun _ _ _=>hP _ _
def aXl (s:Nat) (P:Array Value→α→Prop) (a:Array Value):Option α→Prop
 | none=>Seg s a
 | some v=>P a v
end
open Sy (Seg Up RowAt ReadAt ReadIn cellAt flat RowC)
section
variable {α:Type}{k k':World}{A:Option Addr}{n s i j m p:Nat}{P Q:Array Value→α→Prop}{xs cs:Array Value}{f g:Nat→α}{x:Value}
def InAt (k:World) (A:Option Addr) (xs:Array Value):Prop:=∀(p:Nat) u,xs[p]?=some u→∃b o,A=some ⟨b,o,none⟩∧b<k.heap.size∧k.cell? ⟨b,o+p,none⟩=some u
theorem InAt.up (h:InAt k A xs) (u:Up k k'):InAt k' A xs:=fun p v hp=>by
 obtain⟨b,o,e,hb,hc⟩:=h p v hp;exact⟨b,o,e,qk hb u.size,u.cell hc⟩
theorem InAt.of (h:RowAt k A xs):InAt k A xs:=fun p v hp=>by
 obtain⟨b,e,hb,hc⟩:=h p v hp;exact⟨b,0,e,hb,by rw [ql];exact hc⟩
theorem aAf {u:Value}(h:u.scalar=true):flat (some u)=some u:=by
 cases u <;> first|rfl|cases h
theorem InAt.at (h:InAt k A xs) (hc:RowC xs) {u:Value}(hx:xs[p]?=some u):cellAt k.cell? A p=some u:=by
 obtain⟨b,o,rfl,_,hb⟩:=h _ _ hx;show flat (k.cell? ⟨b,o+p,none⟩)=some u;rw [hb];exact aAf (hc u (zz (by rw [jz];exact hx))).1
theorem InAt.read (h:InAt k A xs) (hc:RowC xs) (hm:x.cells.size=m) (hq:∀(q:Nat) u,x.cells[q]?=some u→xs[p+q]?=some u):ReadAt k.cell? A p m x:=
 ⟨hm,fun q u hu=>h.at hc (hq q u hu)⟩
def Els (k:World) (A:Option Addr) (n s:Nat) (P:Array Value→α→Prop) (f:Nat→α):Prop:=∃xs,InAt k A xs∧RowC xs∧ArrV n s P xs f
theorem Els.up (h:Els k A n s P f) (u:Up k k'):Els k' A n s P f:=by
 obtain⟨xs,h1,h2,h3⟩:=h;exact⟨xs,h1.up u,h2,h3⟩
theorem Els.mono (h:Els k A n s P f) (hP:∀a v,P a v→Q a v):Els k A n s Q f:=by
 obtain⟨xs,h1,h2,h3⟩:=h;exact⟨xs,h1,h2,h3.mono hP⟩
theorem ArrV.el (h:ArrV n s P xs f) (hi:i<n):∃a:Array Value,a.size=s∧P a (f i)∧∀(q:Nat) u,a[q]?=some u→xs[i*s+q]?=some u:=by
 refine⟨elt xs s i,fN _ _ _,Arr.el h i hi,fun q u hu=>?_⟩;have hq:q<s:=by have:=(oi.1 hu).1;rwa [fN]at this
 rw [←hu,fJ _ _ _ _ hq (by rw [h.size];exact ob s hi)]
theorem ArrV.read (h:ArrV n s P xs f) (hi:i<n):∃a:Array Value,a.size=s∧P a (f i)∧∀(j m:Nat) x,x.cells.size=m→(∀(q:Nat) u,x.cells[q]?=some u→a[j+q]?=some u)→ReadIn xs (Int.toNat (i:Int)*s+j) m x:=by
 obtain⟨a,h1,h2,h3⟩:=h.el hi;refine⟨a,h1,h2,fun j m x hm hx=>⟨hm,fun q u hu=>?_⟩⟩;rw [kw];exact h3 _ _ (hx q u hu)
theorem Els.el (h:Els k A n s P f) (hi:i<n) (hs:0<s):∃a:Array Value,a.size=s∧P a (f i)∧(∃b o,A=some ⟨b,o,none⟩)∧
 ∀k',Up k k'→∀(j m:Nat) x,x.cells.size=m→(∀(q:Nat) u,x.cells[q]?=some u→a[j+q]?=some u)→ReadAt k'.cell? A (Int.toNat (i:Int)*s+j) m x:=by
 obtain⟨xs,h1,hc,h2⟩:=h;obtain⟨a,ha,hp,hx⟩:=h2.el hi;refine⟨a,ha,hp,?_,fun k' u j m x hm hq=>(h1.up u).read hc hm fun q v hv=>?_⟩
 ·obtain⟨b,o,e,_⟩:=h1 (i*s+0) a[0] (hx 0 _ (od oq));exact⟨b,o,e⟩
 ·rw [kw];exact hx _ _ (hq q v hv)
theorem ArrV.rowC (h:ArrV n s P xs f) (hP:∀a v,P a v→Seg s a):RowC xs:=(ArrV.seg h hP).2
theorem ArrV.els (h:ArrV n s P xs f) (hP:∀a v,P a v→Seg s a) (hr:RowAt k A xs):Els k A n s P f:=⟨xs,.of hr,h.rowC hP,h⟩
theorem ArrV.push {a:Array Value}(h:ArrV n s P xs f) (ha:a.size=s) (hp:P a (f n)):ArrV (n+1) s P (xs++a.toList.toArray) f:=by
 have hz:=h.size;have h3:(n+1)*s=n*s+s:=jr _ _;refine⟨by simp [hz,ha,h3],fun i hi=>?_⟩;have h4:(i+1)*s≤(n+1)*s:=Nat.mul_le_mul_right s hi;have hsz:(xs++a.toList.toArray).size=(n+1)*s:=by simp [hz,ha,h3]
 by_cases e:i=n
 ·subst e;have:elt (xs++a.toList.toArray) s i=a:=rL ha fun q hq=>by
   rw [fJ _ _ _ _ hq (by rw [hsz];exact h4),Array.getElem?_append_right oq];rw [hz,Nat.add_sub_cancel_left]
  show P (elt _ s i) (f i);rw [this];exact hp
 ·have hlt:i<n:=oq
  have h5:(i+1)*s≤n*s:=ob s hlt;have h6:(i+1)*s=i*s+s:=jr _ _;have:elt (xs++a.toList.toArray) s i=elt xs s i:=rL (fN _ _ _) fun q hq=>by
   rw [fJ _ _ _ _ hq (by rw [hsz];exact h4),fJ _ _ _ _ hq oq,ka oq]
  show P (elt _ s i) (f i);rw [this];exact Arr.el h i hlt
theorem ArrV.empty:ArrV 0 s P #[] f:=⟨by simp,fun i hi=>absurd hi (Nat.not_lt_zero _)⟩
end
open Go.RowKit Num W32
structure PRate where
 (f v:Rat)
 deriving Inhabited
structure PMat where
 (cure spoil:List PRate) (done limit:Rat)
 deriving Inhabited
structure PCell where
 (m:Int) (cap steam air:Rat)
 deriving Inhabited
structure PLink where
 (a b:Int) (v:Rat)
 deriving Inhabited
structure PSec where
 (mats:List PMat) (cells:List PCell) (links:List PLink)
structure PState where
 (temp cure spoil:List Rat)
def at_ {α:Type}[Inhabited α] (l:List α) (i:Nat):α:=l.getD i default
theorem cH {α:Type}[Inhabited α] {l:List α}{i:Nat}(h:i<l.length):at_ l i=l[i]:=by unfold at_;simp [List.getD_eq_getElem?_getD,List.getElem?_eq_getElem h]
theorem aLd {α:Type}[Inhabited α] {l:List α}{i:Nat}(h:i<l.length):at_ l i∈l:=by rw [cH h];exact ux h
section
variable {c a:Array Value}{l:List Value}{d q:Nat}{u v:Value}
theorem aLc (h:c[q]?=some u):(c.toList++l).toArray[q]?=some u:=by
 rw [xz,ja (by have:=(oi.1 h).1;simpa using this),jz];exact h
theorem aVz (hc:c.size=d) (h:l.toArray[q]?=some u):(c.toList++l).toArray[d+q]?=some u:=by
 rw [xz]at h ⊢;rw [vm (by simp;omega)];simpa [hc] using h
end
def Lst {α:Type}[Inhabited α] (k:World) (A:Option Addr) (n s:Nat) (P:Array Value→α→Prop) (l:List α):Prop:=n=l.length∧Els k A n s P (at_ l)
section
variable {α:Type}[Inhabited α] {k k':World}{A:Option Addr}{n s i j m:Nat}{P Q:Array Value→α→Prop}{l:List α}{xs:Array Value}
theorem Lst.mono (h:Lst k A n s P l) (hP:∀a v,P a v→Q a v):Lst k A n s Q l:=⟨h.1,h.2.mono hP⟩
theorem Lst.up (h:Lst k A n s P l) (u:Up k k') (hP:∀a v,P a v→Q a v):Lst k' A n s Q l:=⟨h.1,(h.2.up u).mono hP⟩
theorem Lst.el (h:Lst k A n s P l) (hi:i<l.length) (hs:0<s):∃a:Array Value,a.size=s∧P a (at_ l i)∧(∃b o,A=some ⟨b,o,none⟩)∧((0:Int)≤(i:Int)∧((i:Int):Int)<(n:Nat))∧
 (∀k',Up k k'→ReadAt k'.cell? A (Int.toNat (i:Int)*s+0) s (.agg a))∧
 ∀k' (c:Array Value) j m,Up k k'→c.size=m→(∀(q:Nat) u,c[q]?=some u→a[j+q]?=some u)→ReadAt k'.cell? A (Int.toNat (i:Int)*s+j) m (.agg c):=by
 obtain⟨a,h1,h2,h3,h4⟩:=h.2.el (i:=i) (by rw [h.1];exact hi) hs;refine⟨a,h1,h2,h3,⟨oq,by have:=h.1;omega⟩,fun k' u=>h4 k' u 0 s (.agg a) h1 fun q v hv=>by rw [ql];exact hv,fun k' c j m u hc hq=>h4 k' u j m (.agg c) hc hq⟩
theorem Lst.nil:Lst k A 0 s P ([]:List α):=⟨rfl,#[],fun p u h=>(by simp at h),fun u h=>(by cases h),ArrV.empty⟩
end
structure Num3 (N:World→Array Value→Rat→Prop):Prop where
 up:∀ {k k' cs q},N k cs q→Up k k'→N k' cs q
 seg:∀ {k cs q},N k cs q→Seg 3 cs
theorem aD (K:Nat):Num3 (fun k cs q=>RatV k cs q K):=⟨fun h u=>h.up u,fun h=>h.seg⟩
section
variable {N:World→Array Value→Rat→Prop}{k k':World}{cs:Array Value}{A B C:Option Addr}{n n' n'' c c' c'':Nat}
def RateV (N:World→Array Value→Rat→Prop) (k:World) (cs:Array Value) (r:PRate):Prop:=∃c0 c1,cs=(c0.toList++(c1.toList++([]))).toArray∧N k c0 r.f∧N k c1 r.v
def MatV (N:World→Array Value→Rat→Prop) (k:World) (cs:Array Value) (m:PMat):Prop:=∃A n c B n' c' c0 c1,cs=((Value.slice A n c) :: ((Value.slice B n' c') :: (c0.toList++(c1.toList++([]))))).toArray∧
 Lst k A n 6 (RateV N k) m.cure∧Lst k B n' 6 (RateV N k) m.spoil∧N k c0 m.done∧N k c1 m.limit
def CellV (N:World→Array Value→Rat→Prop) (k:World) (cs:Array Value) (x:PCell):Prop:=∃c0 c1 c2,cs=((Value.int .i64 x.m) :: (c0.toList++(c1.toList++(c2.toList++([]))))).toArray∧N k c0 x.cap∧N k c1 x.steam∧N k c2 x.air
def LinkV (N:World→Array Value→Rat→Prop) (k:World) (cs:Array Value) (x:PLink):Prop:=∃c0,cs=((Value.int .i64 x.a) :: ((Value.int .i64 x.b) :: (c0.toList++([])))).toArray∧N k c0 x.v
structure SecV (N:World→Array Value→Rat→Prop) (k:World) (A:Option Addr) (n:Nat) (B:Option Addr) (n':Nat) (C:Option Addr) (n'':Nat) (s:PSec):Prop where
 mats:Lst k A n 8 (MatV N k) s.mats
 cells:Lst k B n' 10 (CellV N k) s.cells
 links:Lst k C n'' 5 (LinkV N k) s.links
structure StateV (N:World→Array Value→Rat→Prop) (k:World) (A:Option Addr) (n:Nat) (B:Option Addr) (n':Nat) (C:Option Addr) (n'':Nat) (x:PState):Prop where
 temp:Lst k A n 3 (N k) x.temp
 cure:Lst k B n' 3 (N k) x.cure
 spoil:Lst k C n'' 3 (N k) x.spoil
variable (hN:Num3 N)
include hN
theorem RateV.up {r:PRate}(h:RateV N k cs r) (u:Up k k'):RateV N k' cs r:=by
 obtain⟨c0,c1,e,h0,h1⟩:=h;exact⟨c0,c1,e,hN.up h0 u,hN.up h1 u⟩
theorem RateV.seg {r:PRate}(h:RateV N k cs r):Seg 6 cs:=by
 obtain⟨c0,c1,rfl,h0,h1⟩:=h;have s0:=hN.seg h0;have s1:=hN.seg h1;refine⟨by simp [s0.1,s1.1],fun u hu=>?_⟩;simp only [List.append_nil,List.mem_append]at hu;rcases hu with hu|hu
 ·exact s0.2 u hu
 ·exact s1.2 u hu
theorem bJ {l:List PRate}(h:Lst k A n 6 (RateV N k) l) (u:Up k k'):Lst k' A n 6 (RateV N k') l:=h.up u fun _ _ h=>RateV.up hN h u
theorem MatV.up {r:PMat}(h:MatV N k cs r) (u:Up k k'):MatV N k' cs r:=by
 obtain⟨A,n,c,B,n',c',c0,c1,e,l0,l1,h0,h1⟩:=h;exact⟨A,n,c,B,n',c',c0,c1,e,bJ hN l0 u,bJ hN l1 u,hN.up h0 u,hN.up h1 u⟩
theorem MatV.seg {r:PMat}(h:MatV N k cs r):Seg 8 cs:=by
 obtain⟨A,n,c,B,n',c',c0,c1,rfl,l0,l1,h0,h1⟩:=h;have s0:=hN.seg h0;have s1:=hN.seg h1;refine⟨by simp [s0.1,s1.1],fun u hu=>?_⟩;simp only [List.append_nil,List.mem_cons,List.mem_append]at hu;rcases hu with rfl|rfl|hu|hu
 ·exact⟨rfl,rfl⟩
 ·exact⟨rfl,rfl⟩
 ·exact s0.2 u hu
 ·exact s1.2 u hu
theorem CellV.up {r:PCell}(h:CellV N k cs r) (u:Up k k'):CellV N k' cs r:=by
 obtain⟨c0,c1,c2,e,h0,h1,h2⟩:=h;exact⟨c0,c1,c2,e,hN.up h0 u,hN.up h1 u,hN.up h2 u⟩
theorem CellV.seg {r:PCell}(h:CellV N k cs r):Seg 10 cs:=by
 obtain⟨c0,c1,c2,rfl,h0,h1,h2⟩:=h;have s0:=hN.seg h0;have s1:=hN.seg h1;have s2:=hN.seg h2;refine⟨by simp [s0.1,s1.1,s2.1],fun u hu=>?_⟩;simp only [List.append_nil,List.mem_cons,List.mem_append]at hu;rcases hu with rfl|hu|hu|hu
 ·exact⟨rfl,rfl⟩
 ·exact s0.2 u hu
 ·exact s1.2 u hu
 ·exact s2.2 u hu
theorem LinkV.up {r:PLink}(h:LinkV N k cs r) (u:Up k k'):LinkV N k' cs r:=by
 obtain⟨c0,e,h0⟩:=h;exact⟨c0,e,hN.up h0 u⟩
theorem LinkV.seg {r:PLink}(h:LinkV N k cs r):Seg 5 cs:=by
 obtain⟨c0,rfl,h0⟩:=h;have s0:=hN.seg h0;refine⟨by simp [s0.1],fun u hu=>?_⟩;simp only [List.append_nil,List.mem_cons]at hu;rcases hu with rfl|rfl|hu
 ·exact⟨rfl,rfl⟩
 ·exact⟨rfl,rfl⟩
 ·exact s0.2 u hu
theorem SecV.up {s:PSec}(h:SecV N k A n B n' C n'' s) (u:Up k k'):SecV N k' A n B n' C n'' s:=
 ⟨h.mats.up u fun _ _ h=>MatV.up hN h u,h.cells.up u fun _ _ h=>CellV.up hN h u,h.links.up u fun _ _ h=>LinkV.up hN h u⟩
theorem StateV.up {s:PState}(h:StateV N k A n B n' C n'' s) (u:Up k k'):StateV N k' A n B n' C n'' s:=
 ⟨h.temp.up u fun _ _ h=>hN.up h u,h.cure.up u fun _ _ h=>hN.up h u,h.spoil.up u fun _ _ h=>hN.up h u⟩
end
def gC (f:Nat→Int):Nat→Int
 | 0=>0
 | n+1=>if gC f n=0 then f n else gC f n
theorem dN {f:Nat→Int}:∀ {n:Nat},(∀i,i<n→f i=0)→gC f n=0
 | 0,_=>rfl
 | n+1,h=>by
  unfold gC;rw [og (dN fun i hi=>h i oq)];exact h n oq
theorem jP {f:Nat→Int}{j:Nat}{e:Int}(h0:∀i,i<j→f i=0) (he:f j=e) (hne:e≠0):∀ {n:Nat},j<n→gC f n=e
 | 0,h=>by omega
 | n+1,h=>by
  unfold gC
  by_cases hj:j=n
  ·subst hj;rw [og (dN h0)];exact he
  ·have:=jP h0 he hne (n:=n) oq;rw [this,oh hne]
theorem cY {f:Nat→Int}:∀ {n:Nat},gC f n=0→∀i,i<n→f i=0
 | 0,_,i,hi=>by omega
 | n+1,h,i,hi=>by
  unfold gC at h;split at h
  ·rename_i h0
   by_cases hin:i=n
   ·rw [hin];exact h
   ·exact cY h0 i oq
  ·rename_i h0;exact absurd h h0
def gA (l:List PRate) (i:Nat):Int:=
 if 0<i∧¬ (at_ l (i-1)).f<(at_ l i).f then 7 else if (at_ l i).v<0 then 1 else if 0<i∧(at_ l i).v<(at_ l (i-1)).v then 7 else 0
def bL (l:List PRate):Int:=if l.length<1∨16<l.length then 4 else gC (gA l) l.length
def nU (m:PMat):Int:=if bL m.cure≠0 then bL m.cure else if bL m.spoil≠0 then bL m.spoil else if ¬ 0<m.done∨¬ 0<m.limit then 1 else 0
def sD (n:Nat) (c:PCell):Int:=if c.m<0∨(n:Int)≤c.m∨¬ 0<c.cap∨c.steam<0∨c.air<0 then 1 else 0
def pair (x y:PLink):Bool:=decide (y.a=x.a∧y.b=x.b∨y.a=x.b∧y.b=x.a)
def kP (n:Nat) (L:List PLink) (i:Nat):Int:=
 if ¬ (0≤(at_ L i).a∧(at_ L i).a<n)∨¬ (0≤(at_ L i).b∧(at_ L i).b<n)∨(at_ L i).a=(at_ L i).b∨(at_ L i).v<0 then 1
 else if (List.range i).any (fun k=>pair (at_ L i) (at_ L k))=true then 8 else 0
def fT (n:Nat) (L:List PLink):Int:=gC (kP n L) L.length
def nbm (L:List PLink) (i:Int):List PLink:=L.flatMap fun l=>(if l.a=i then [l] else [])++(if l.b=i then [l] else [])
def tot (L:List PLink) (i:Int) (t:Rat):Rat:=(nbm L i).foldl (fun t l=>t+l.v) t
def qG (s:PSec) (i:Nat):Int:=if (at_ s.cells i).cap<tot s.links i ((at_ s.cells i).steam+(at_ s.cells i).air) then 60 else 0
def bW (s:PSec):Prop:=s.mats.length<1∨8<s.mats.length∨s.cells.length<1∨24<s.cells.length∨64<s.links.length
instance (s:PSec):Decidable (bW s):=by unfold bW;exact inferInstance
def qI (s:PSec):Int:=gC (fun i=>nU (at_ s.mats i)) s.mats.length
def mI (s:PSec):Int:=gC (fun i=>sD s.mats.length (at_ s.cells i)) s.cells.length
def aF (s:PSec):Int:=
 if bW s then 4 else if qI s≠0 then qI s else if mI s≠0 then mI s else if fT s.cells.length s.links≠0 then fT s.cells.length s.links else gC (qG s) s.cells.length
def upto (l:List PRate) (t:Rat):Nat:=(l.takeWhile fun r=>decide (r.f≤t)).length
def spd (l:List PRate) (t:Rat):Rat:=if upto l t=0 then 0 else (at_ l (upto l t-1)).v
theorem yS {t:Rat}:∀ {l:List PRate}{j:Nat},j≤l.length→(∀i,i<j→(at_ l i).f≤t)→(j<l.length→¬ (at_ l j).f≤t)→upto l t=j
 | [],j,hj,_,_=>by simp at hj;subst hj;rfl
 | r :: l,0,_,_,h1=>by
  have:=h1 (by simp);have e:at_ (r :: l) 0=r:=rfl;rw [e]at this;simp [upto,this]
 | r :: l,j+1,hj,h0,h1=>by
  have e0:=h0 0 oq;have e:at_ (r :: l) 0=r:=rfl;rw [e]at e0;have ih:=yS (t:=t) (l:=l) (j:=j) (by simpa using hj) (fun i hi=>h0 (i+1) oq) (fun hl=>h1 (by simpa using hl));unfold upto at ih ⊢;simp [e0,ih]
def flow (s:PSec) (x:PState) (u v:Rat) (i:Nat):Rat:=
 (nbm s.links i).foldl (fun t l=>t+l.v*(at_ x.temp (l.a+l.b-(i:Int)).toNat-at_ x.temp i)) ((at_ s.cells i).steam*(u-at_ x.temp i)+(at_ s.cells i).air*(v-at_ x.temp i))
def fQ (s:PSec) (x:PState) (u v:Rat) (i:Nat):Rat:=at_ x.temp i+flow s x u v i/(at_ s.cells i).cap
def pY (s:PSec) (x:PState) (i:Nat):Rat:=at_ x.cure i+spd (at_ s.mats (at_ s.cells i).m.toNat).cure (at_ x.temp i)
def kY (s:PSec) (x:PState) (i:Nat):Rat:=at_ x.spoil i+spd (at_ s.mats (at_ s.cells i).m.toNat).spoil (at_ x.temp i)
def bT (s:PSec) (x:PState) (u v:Rat):PState where
 temp:=(List.range s.cells.length).map (fQ s x u v)
 cure:=(List.range s.cells.length).map (pY s x)
 spoil:=(List.range s.cells.length).map (kY s x)
def sized (s:PSec) (x:PState):Prop:=x.temp.length=s.cells.length∧x.cure.length=s.cells.length∧x.spoil.length=s.cells.length
instance (s:PSec) (x:PState):Decidable (sized s x):=by unfold sized;exact inferInstance
def fZ (s:PSec) (x:PState):Int:=if aF s≠0 then aF s else if ¬ sized s x then 4 else 0
def oB (s:PSec) (us vs:List Rat):Nat→PState→PState
 | 0,x=>x
 | j+1,x=>bT s (oB s us vs j x) (at_ us j) (at_ vs j)
def aTh (s:PSec) (x:PState):Nat→Rat
 | 0=>0
 | j+1=>aTh s x j+(at_ s.cells j).cap*at_ x.temp j
theorem aM {n i:Nat}{f:Nat→Rat}(h:i<n):at_ ((List.range n).map f) i=f i:=by
 rw [cH (by simpa using h)];simp
section
variable {s:PSec}(h:aF s=0)
include h
theorem bF:¬ bW s:=by
 intro hs;unfold aF at h;rw [og hs]at h;cases h
theorem lK:qI s=0:=by
 have hs:=bF h;unfold aF at h;rw [oh hs]at h
 by_cases h1:qI s=0
 ·exact h1
 ·rw [og h1]at h;exact h
theorem tH:mI s=0:=by
 have hs:=bF h;have hm:=lK h;unfold aF at h;rw [oh hs,oh (by simp [hm])]at h
 by_cases h1:mI s=0
 ·exact h1
 ·rw [og h1]at h;exact h
theorem dP:fT s.cells.length s.links=0:=by
 have hs:=bF h;have hm:=lK h;have hc:=tH h;unfold aF at h;rw [oh hs,oh (by simp [hm]),if_neg (by simp [hc])]at h
 by_cases h1:fT s.cells.length s.links=0
 ·exact h1
 ·rw [og h1]at h;exact h
theorem aSe:gC (qG s) s.cells.length=0:=by
 have hs:=bF h;have hm:=lK h;have hc:=tH h;have hl:=dP h;unfold aF at h
 rwa [oh hs,oh (by simp [hm]),if_neg (by simp [hc]),oh (by simp [hl])]at h
theorem gD {i:Nat}(hi:i<s.cells.length):0≤(at_ s.cells i).m∧(at_ s.cells i).m<s.mats.length∧0<(at_ s.cells i).cap∧0≤(at_ s.cells i).steam∧0≤(at_ s.cells i).air:=by
 have:=cY (tH h) i hi;unfold sD at this;split at this
 ·cases this
 ·rename_i hn;simp only [not_or,Int.not_lt,Int.not_le,zu]at hn;exact⟨hn.1,hn.2.1,Rat.not_le.1 hn.2.2.1,hn.2.2.2.1,hn.2.2.2.2⟩
theorem aSd {i:Nat}(hi:i<s.links.length):(0≤(at_ s.links i).a∧(at_ s.links i).a<s.cells.length)∧(0≤(at_ s.links i).b∧(at_ s.links i).b<s.cells.length)∧(at_ s.links i).a≠(at_ s.links i).b∧0≤(at_ s.links i).v:=by
 have:=cY (dP h) i hi;unfold kP at this;split at this
 ·cases this
 ·rename_i hn;simp only [not_or,zt,zu]at hn;exact⟨hn.1,hn.2.1,hn.2.2.1,hn.2.2.2⟩
theorem aNx {i:Nat}(hi:i<s.mats.length):bL (at_ s.mats i).cure=0∧bL (at_ s.mats i).spoil=0:=by
 have:=cY (lK h) i hi;unfold nU at this;split at this
 ·rename_i hn;exact absurd this hn
 ·rename_i h1;split at this
  ·rename_i hn;exact absurd this hn
  ·rename_i h2;exact⟨by simpa using h1,by simpa using h2⟩
end
open Sy (Up Sees CallsG Seg)
def Wd (q:Rat) (L:Nat):Prop:=∃(a:Int) (m:Nat),0<m∧q=mkRat a m∧a.natAbs<B64^L∧m<B64^L
section
variable {k k':World}{cs cs':Array Value}{R:World→Value→Prop}{x y:Rat}{K L M:Nat}
theorem Wd.low (h:Wd x L):x.num.natAbs<B64^L∧x.den<B64^L:=by
 obtain⟨a,m,h0,rfl,h1,h2⟩:=h;have e:=Rat.mkRat_num_den (show m≠0 by omega) (show mkRat a m=mkRat a m from rfl);have hd:(mkRat a m).den ∣ m:=by
  rw [Rat.den_mkRat];simp only [show m≠0 by omega,if_false];exact Nat.div_dvd_of_dvd (Nat.gcd_dvd_left _ _)
 have hdle:=Nat.le_of_dvd h0 hd;have hx:(mkRat a m).num*m=a*(mkRat a m).den:=by
  have:=ye (mkRat a m);exact (Rat.mkRat_eq_iff (by have:=(mkRat a m).den_pos;omega) oq).1 this
 have hle:(mkRat a m).num.natAbs≤a.natAbs:=by
  obtain⟨t,ht⟩:=hd;have hp:=(mkRat a m).den_pos;have ht0:0<t:=vd fun e=>by rw [e]at ht;omega
  have h3:=congrArg Int.natAbs hx;rw [uz,uz,vr,vr]at h3;have h4:(mkRat a m).num.natAbs*t*(mkRat a m).den=a.natAbs*(mkRat a m).den:=by
   rw [←h3,jc,qy t,←ht]
  have h5:=Nat.eq_of_mul_eq_mul_right hp h4;have:=xv (mkRat a m).num.natAbs ht0;omega
 omega
theorem yT (h1:x.num.natAbs<B64^L) (h2:x.den<B64^L):Wd x L:=⟨x.num,x.den,x.den_pos,(ye x).symm,h1,h2⟩
theorem aOh (K L:Nat):2*(B64^K*B64^L)≤B64^(K+L+1):=by
 have e:B64^(K+L+1)=B64^K*B64^L*B64:=by rw [jf,zj]
 rw [e,qy 2];exact qr _ oz
theorem aEv {x y:Int}{a b:Nat}(hx:x.natAbs<a) (hy:y.natAbs<b):(x*y).natAbs<a*b:=by
 rw [uz];exact yk hx hy
theorem Wd.add (h:Wd x K) (h':Wd y L):Wd (x+y) (K+L+1):=by
 obtain⟨a,m,h0,rfl,h1,h2⟩:=h;obtain⟨b,n,h0',rfl,h1',h2'⟩:=h';have hp:=aOh K L;refine⟨a*n+b*m,m*n,kf h0 h0',(aDr _ _ h0 h0').symm,?_,?_⟩
 ·have g1:=aEv (y:=(n:Int)) h1 (by rw [vr];exact h2');have g2:=aEv (y:=(m:Int)) h1' (by rw [vr];exact h2);rw [qy (B64^L)]at g2;have:=Int.natAbs_add_le (a*n) (b*m);omega
 ·have:=yk h2 h2';omega
theorem Wd.neg (h:Wd x K):Wd (-x) K:=by
 obtain⟨a,m,h0,rfl,h1,h2⟩:=h;exact⟨-a,m,h0,(tF _ _).symm,oq,h2⟩
theorem Wd.sub (h:Wd x K) (h':Wd y L):Wd (x-y) (K+L+1):=by rw [Rat.sub_eq_add_neg];exact h.add h'.neg
theorem Wd.mul (h:Wd x K) (h':Wd y L):Wd (x*y) (K+L):=by
 obtain⟨a,m,h0,rfl,h1,h2⟩:=h;obtain⟨b,n,h0',rfl,h1',h2'⟩:=h';have e:B64^(K+L)=B64^K*B64^L:=zj _ _ _;exact⟨a*b,m*n,kf h0 h0',(aDs _ _ _ _).symm,by rw [e];exact aEv h1 h1',by rw [e];exact yk h2 h2'⟩
theorem aEw (hK:1≤K):1<B64^K:=qk (show 1<B64^1 by decide) (qa aE hK)
theorem gH (hK:1≤K):Wd 0 K:=⟨0,1,oz,by simp,by have:=aEw hK;simp;omega,aEw hK⟩
theorem Wd.inv (h:Wd x K) (hK:1≤K):Wd x⁻¹ K:=by
 by_cases hx:x=0
 ·subst hx;simpa using gH hK
 ·obtain⟨h1,h2⟩:=h.low;have hn:x.num≠0:=fun e=>hx (Rat.num_eq_zero.1 e);have hp:=x.den_pos;refine⟨x.num.sign*x.den,x.num.natAbs,oq,?_,?_,h1⟩
  ·have e1:x=mkRat x.num x.den:=(ye x).symm;have e2:(x.num:Rat)≠0:=fun e=>hn (by exact_mod_cast e);have e3:(x.den:Rat)≠0:=tG hp;have hnat:(x.num.natAbs:Rat)≠0:=tG oq;have e4:x=(x.num:Rat) / (x.den:Rat):=by rw [←aAt _ hp];exact e1
   rw [aAt _ (show 0<x.num.natAbs by omega)];have hs:(x.num:Rat)=(x.num.sign:Rat)*(x.num.natAbs:Rat):=by
    have:=Int.sign_mul_natAbs x.num
    exact_mod_cast this.symm
   have hs2:(x.num.sign:Rat)*(x.num.sign:Rat)=1:=by
    have:x.num.sign*x.num.sign=1:=by
     rcases Int.lt_trichotomy x.num 0 with h|h|h
     ·rw [xy h];rfl
     ·exact absurd h hn
     ·rw [xa h];rfl
    exact_mod_cast this
   have hinv:x*(((x.num.sign*x.den:Int):Rat) / (x.num.natAbs:Rat))=1:=by
    have hc:((x.num.sign*x.den:Int):Rat)=(x.num.sign:Rat)*(x.den:Rat):=by push_cast;rfl
    rw [hc];have:x=(x.num.sign:Rat)*(x.num.natAbs:Rat) / (x.den:Rat):=by rw [←hs];exact e4
    generalize (x.num.sign:Rat)=sg at *
    generalize (x.num.natAbs:Rat)=na at *
    generalize (x.den:Rat)=de at *
    rw [this]
    grind
   have:=congrArg (x⁻¹*·) hinv;simp only [←Rat.mul_assoc,Rat.inv_mul_cancel x hx,Rat.one_mul,Rat.mul_one]at this;exact this.symm
  ·rw [uz,vr];have:x.num.sign.natAbs≤1:=by
    rcases Int.lt_trichotomy x.num 0 with h|h|h
    ·rw [xy h];decide
    ·rw [h];decide
    ·rw [xa h];decide
   have:=ob x.den this;omega
theorem Wd.div (h:Wd x K) (h':Wd y L) (hL:1≤L):Wd (x/y) (K+L):=by
 rw [uj];exact h.mul (h'.inv hL)
theorem IntR.abs {z:Int}{b:Bool}{A:Option Addr}{n c:Nat}(h:IntR k b A n c z) (hn:n≤K):z.natAbs<B64^K:=by
 refine qk (cS _) (qa aE ?_);rw [←h.lim.len];exact hn
theorem RatV.wd (h:RatV k cs x K) (hK:1≤K):Wd x K:=by
 obtain⟨g,A,n,c,D,d,e,_,hr,hn,hd⟩:=h;refine yT (hr.num.abs hn) ?_
 by_cases e:x.den=1
 ·rw [e];exact aEw hK
 ·have l:=hr.den;rw [oh e]at l;refine qk (cS _) (qa aE ?_);rw [←l.len];exact hd
theorem RatV.cut (h:RatV k cs x K) (hw:Wd x L):RatV k cs x L:=by
 obtain⟨g,A,n,c,D,d,e,e1,hr,hn,hd⟩:=h;obtain⟨h1,h2⟩:=hw.low;refine⟨g,A,n,c,D,d,e,e1,hr,?_,?_⟩
 ·rw [hr.num.lim.len];exact bS h1
 ·rw [hr.den.len];refine bS ?_;split
  ·omega
  ·exact h2
theorem dI (hx:RatV k cs x K) (hy:RatV k cs' y L) (hK1:1≤K) (hL1:1≤L) (hK:K≤300000000) (hL:L≤300000000) (C:∀k' ds,Up k k'→RatV k' ds (x+y) (K+L+1)→R k' (.agg ds)) :
 Cl k 18 #[.agg cs,.agg cs'] R:=
 aTq (hx.mono (yf K L)) (hy.mono (yw K L)) oq oq fun k' ds u h=>C k' ds u (h.cut ((hx.wd hK1).add (hy.wd hL1)))
theorem kE (hx:RatV k cs x K) (hy:RatV k cs' y L) (hK1:1≤K) (hL1:1≤L) (hK:K≤300000000) (hL:L≤300000000) (C:∀k' ds,Up k k'→RatV k' ds (x-y) (K+L+1)→R k' (.agg ds)) :
 Cl k 30 #[.agg cs,.agg cs'] R:=
 aTw (hx.mono (yf K L)) (hy.mono (yw K L)) oq oq fun k' ds u h=>C k' ds u (h.cut ((hx.wd hK1).sub (hy.wd hL1)))
theorem jI (hx:RatV k cs x K) (hy:RatV k cs' y L) (hK1:1≤K) (hL1:1≤L) (hK:K≤300000000) (hL:L≤300000000) (C:∀k' ds,Up k k'→RatV k' ds (x*y) (K+L)→R k' (.agg ds)) :
 Cl k 31 #[.agg cs,.agg cs'] R:=
 aTu (hx.mono (yf K L)) (hy.mono (yw K L)) oq oq fun k' ds u h=>C k' ds u (h.cut ((hx.wd hK1).mul (hy.wd hL1)))
theorem aTt (hx:RatV k cs x K) (hy:RatV k cs' y L) (hK1:1≤K) (hL1:1≤L) (hK:K≤300000000) (hL:L≤300000000) (C:∀k' ds,Up k k'→RatV k' ds (x/y) (K+L)→R k' (.tuple #[.agg ds,.int .i64 (if y=0 then 3 else 0)])) :
 Cl k 92 #[.agg cs,.agg cs'] R:=
 aTs (hx.mono (yf K L)) (hy.mono (yw K L)) oq oq fun k' ds u h=>C k' ds u (h.cut ((hx.wd hK1).div (hy.wd hL1) hL1))
theorem xF (hx:RatV k cs x K) (hy:RatV k cs' y L) (hK1:1≤K) (hK:K≤300000000) (hL:L≤300000000) (C:∀k',Up k k'→R k' (.int .i64 (x-y).num.sign)) :
 Cl k 20 #[.agg cs,.agg cs'] R:=
 aTr (hx.mono (yf K L)) (hy.mono (yw K L)) oq oq C
end
open IntKind (wrap)
theorem aUr {q:Rat}:q.num<0↔q<0:=by
 rw [←Int.not_le,←Rat.not_le,Rat.num_nonneg]
theorem aUq {q:Rat}:0<q.num↔0<q:=by
 constructor
 ·intro h;refine Rat.not_le.1 fun h1=>?_;have h0:0≤q:=Rat.num_nonneg.1 oq;have h2:q=0:=Rat.le_antisymm h1 h0;rw [h2]at h;exact absurd h oz
 ·intro h;have h1:0≤q.num:=Rat.num_nonneg.2 (Rat.le_of_lt h);rcases Int.lt_or_eq_of_le h1 with h2|h2
  ·exact h2
  ·have:=Rat.num_eq_zero.1 h2.symm;rw [this]at h;exact absurd h oz
theorem aBp {q:Rat}:decide ((q.num.sign:Int)<0)=decide (q<0):=by
 refine decide_eq_decide.2 ?_;rw [←aUr];rcases Int.lt_trichotomy q.num 0 with h|h|h
 ·rw [xy h];omega
 ·rw [h];decide
 ·rw [xa h];omega
theorem aBq {q:Rat}:decide ((q.num.sign:Int) > 0)=decide (0<q):=by
 refine decide_eq_decide.2 ?_;rw [←aUq];rcases Int.lt_trichotomy q.num 0 with h|h|h
 ·rw [xy h];omega
 ·rw [h];decide
 ·rw [xa h];omega
theorem aBw {x y:Rat}:x-y<0↔x<y:=by
 constructor <;> intro h <;> grind
theorem aBr {x y:Rat}:decide (((x-y).num.sign:Int)<0)=decide (x<y):=by rw [aBp];exact decide_eq_decide.2 aBw
theorem pC {j:Nat}(h:0<j) (h2:j<1000000):wrap .i64 ((j:Int)-1)=((j-1:Nat):Int):=by rw [jp];omega
theorem aH {j:Nat}(h2:j<1000000):wrap .i64 ((j:Int)+1)=((j+1:Nat):Int):=by rw [jp];omega
theorem aL {j n:Nat}(h:decide ((j:Int)<(n:Nat))=true):j<n:=by have:=ow h;omega
theorem aO {j n:Nat}(h:decide ((j:Int)<(n:Nat))=false):n≤j:=by have:=ov h;omega
abbrev NP (K:Nat):World→Array Value→Rat→Prop:=fun k cs q=>RatV k cs q K
section
variable {k k':World}{R:World→Value→Prop}{cs cs':Array Value}{x y:Rat}{K L n c:Nat}{A:Option Addr}
theorem cN (hx:RatV k cs x K) (hy:RatV k cs' y L) (hK1:1≤K) (hK:K≤300000000) (hL:L≤300000000) (C:∀k',Up k k'→R k' (.bool (decide (x<y)))) :
 Cl k 27 #[.agg cs,.agg cs'] R:=by
 intro k0 u0;refine aGu hx.seg hy.seg (xF (hx.up u0) (hy.up u0) hK1 hK hL fun k1 u1=>⟨_,rfl,fun k2 u2=>?_⟩);rw [aBr];exact C k2 ((u0.trans u1).trans u2)
theorem sF (hx:RatV k cs x K) (hK:K≤300000000) (C:∀k',Up k k'→R k' (.bool (decide (x<0)))):Cl k 99 #[.agg cs] R:=by
 intro k0 u0;refine aQo hx.seg (aFa (hx.up u0) oq fun k1 u1=>⟨_,rfl,fun k2 u2=>?_⟩);rw [aBp];exact C k2 ((u0.trans u1).trans u2)
theorem xP (hx:RatV k cs x K) (hK:K≤300000000) (C:∀k',Up k k'→R k' (.bool (decide (0<x)))):Cl k 55 #[.agg cs] R:=by
 intro k0 u0;refine aQs hx.seg (aFa (hx.up u0) oq fun k1 u1=>⟨_,rfl,fun k2 u2=>?_⟩);rw [aBq];exact C k2 ((u0.trans u1).trans u2)
theorem xQ (hx:RatV k cs x K) (hy:RatV k cs' y L) (hK1:1≤K) (hL1:1≤L) (hK:K≤300000000) (hL:L≤300000000) (C:∀k' ds,Up k k'→RatV k' ds (x/y) (K+L)→R k' (.agg ds)) :
 Cl k 57 #[.agg cs,.agg cs'] R:=by
 intro k0 u0;refine aQt hx.seg hy.seg (aTt (hx.up u0) (hy.up u0) hK1 hL1 hK hL fun k1 ds u1 h=>⟨ds,h.seg,_,rfl,fun k2 u2=>?_⟩);exact C k2 ds ((u0.trans u1).trans u2) (h.up u2)
theorem aJr {l:List PRate}(h1:1≤l.length) (h2:l.length≤16):bL l=gC (gA l) l.length:=by
 unfold bL;rw [oh oq]
theorem zP {l:List PRate}(hl:Lst k A n 6 (RateV (NP K) k) l) (hK1:1≤K) (hK:K≤300000000) (C:∀k',Up k k'→R k' (.int .i64 (bL l))) :
 Cl k 98 #[.slice A n c] R:=by
 intro k0 u0;have hN:=aD K;replace hl:=bJ hN hl u0;replace C:=fun k' u=>C k' (u0.trans u);have hn:=hl.1;refine aHk ⟨rfl,fun h=>?_,fun h1=>⟨rfl,fun h=>?_,fun h2=>⟨rfl,?_⟩⟩⟩
 ·intro k1 u1;have:=C k1 u1;unfold bL at this
  rwa [og (by have:=ow h;omega)]at this
 ·intro k1 u1;have:=C k1 u1;unfold bL at this
  rwa [og (by have:=ow h;omega)]at this
 ·have h1:=ov h1;have h2:=ov h2;have hE:=aJr (l:=l) oq oq;refine⟨fun m k vs=>∃j:Nat,j+m=n∧vs=[.int .i64 j]∧∀i,i<j→gA l i=0,⟨n,fun k1 u1=>⟨0,oq,rfl,fun i hi=>oq⟩⟩,?_⟩;rintro m k1 vs u1 ⟨j,hj,rfl,hz⟩;refine⟨j,rfl,fun hlt=>?_,fun hge=>?_⟩
  ·have hlt:=aL hlt;have hl1:=bJ hN hl u1;obtain⟨a,_,⟨c0,c1,rfl,h0,h3⟩,ha,hb,hr,_⟩:=hl1.el (i:=j) oq oz;have stop:∀(e:Int),e≠0→gA l j=e→∀k',Up k1 k'→R k' (.int .i64 e):=fun e he h k' u=>by
    have:=C k' (u1.trans u)
    rwa [hE,jP hz h he oq]at this
   refine⟨ha,hb,c0,h0.seg,c1,h3.seg,hr k1 (Up.refl _),fun hp=>?_,fun hp=>?_⟩
   ·have hp:=ow hp;have hp:0<j:=oq
    rw [pC hp oq];obtain⟨a',_,⟨d0,d1,rfl,g0,g1⟩,ha',hb',_,hr'⟩:=hl1.el (i:=j-1) oq oz;refine⟨ha',hb',ha',hb',d0,g0.seg,hr' k1 d0 0 3 (Up.refl _) g0.seg.1 (fun q u h=>by rw [ql];exact aLc h),?_⟩;refine cN g0 h0 hK1 hK hK fun k3 u3=>⟨_,rfl,fun hf=>?_,fun hf=>?_⟩
    ·intro k5 u5;refine stop 7 oz ?_ k5 (u3.trans u5);unfold gA;rw [og ⟨hp,by simpa using hf⟩]
    ·refine sF (RatV.up h3 u3) hK fun k6 u6=>⟨_,rfl,fun hv=>?_,fun hv=>⟨fun _=>⟨ha',hb',ha',hb',d1,g1.seg,?_,?_⟩,fun h=>?_⟩⟩
     ·intro k8 u8;refine stop 1 oz ?_ k8 ((u3.trans u6).trans u8);unfold gA;rw [oh (by simp at hf;simp [hf]),if_pos (ow hv)]
     ·exact hr' k6 d1 3 3 (u3.trans u6) g1.seg.1 (fun q u h=>aVz g0.seg.1 (aLc h))
     ·refine cN ((RatV.up h3 u3).up u6) ((RatV.up g1 u3).up u6) hK1 hK hK fun k9 u9=>⟨_,rfl,fun hw=>?_,fun hw=>?_⟩
      ·intro k11 u11;refine stop 7 oz ?_ k11 (((u3.trans u6).trans u9).trans u11);unfold gA;rw [oh (by simp at hf;simp [hf]),if_neg (ov hv),if_pos ⟨hp,ow hw⟩]
      ·intro k12 u12;refine⟨m-1,oq,j+1,oq,by rw [aH oq],fun i hi=>?_⟩
       by_cases e:i=j
       ·subst e;unfold gA;rw [oh (by simp at hf;simp [hf]),if_neg (ov hv),if_neg (by simp at hw;simp [hw])]
       ·exact hz i oq
     ·have:=ov h;omega
   ·have hp:=ov hp;have hp:j=0:=oq
    refine sF h3 hK fun k6 u6=>⟨_,rfl,fun hv=>?_,fun hv=>⟨fun h=>?_,fun _=>?_⟩⟩
    ·intro k8 u8;refine stop 1 oz ?_ k8 (u6.trans u8);unfold gA;rw [oh oq,og (ow hv)]
    ·have:=ow h;omega
    ·intro k12 u12;refine⟨m-1,oq,j+1,oq,by rw [aH oq],fun i hi=>?_⟩;have e:i=j:=oq
     subst e;unfold gA;rw [oh oq,oh (ov hv),oh oq]
  ·have hge:=aO hge;intro k2 u2;have:=C k2 (u1.trans u2)
   rwa [hE,dN fun i hi=>hz i oq]at this
end
theorem dW {x:Int}(h:(x != 0)=true):x≠0:=by simpa using h
theorem cO {x:Int}(h:(x != 0)=false):x=0:=by simpa using h
theorem nZ {k:World}(K:Nat):RatV k #[.bool false,.slice none 0 0,.slice none 0 0] 0 K:=⟨_,_,_,_,_,_,_,rfl,⟨⟨rfl,LimR.nil⟩,LimR.nil⟩,jt _,jt _⟩
theorem pL {α β:Type}[Inhabited α] {l:List α}{j:Nat}(h:j<l.length) (f:β→α→β) (a:β):(l.take (j+1)).foldl f a=f ((l.take j).foldl f a) (at_ l j):=by
 rw [jm h,List.foldl_append,cH h];rfl
section
variable {k k':World}{R:World→Value→Prop}{cs cs':Array Value}{x y:Rat}{K L n c n0 n1 n2 d0 d1 d2 n3 n4 n5 d3 d4 d5:Nat}{A A0 A1 A2 A3 A4 A5:Option Addr}
theorem aUc {m:PMat}(hm:MatV (NP K) k cs m) (hK1:1≤K) (hK:K≤300000000) (C:∀k',Up k k'→R k' (.int .i64 (nU m))) :
 Cl k 61 #[.agg cs] R:=by
 intro k0 u0;have hN:=aD K;obtain⟨A,n,c,B,n',c',c0,c1,rfl,l0,l1,h0,h1⟩:=MatV.up hN hm u0;replace C:=fun k' u=>C k' (u0.trans u);unfold nU at C;refine aQn h0.seg h1.seg (zP l0 hK1 hK fun k1 u1=>⟨_,rfl,fun e=>?_,fun e=>zP (bJ hN l1 u1) hK1 hK fun k4 u4=>⟨_,rfl,fun e'=>?_,fun e'=>xP ((h0.up u1).up u4) hK fun k7 u7=>⟨_,rfl,fun p=>?_,fun p=>xP (((h1.up u1).up u4).up u7) hK fun k10 u10=>⟨_,rfl,fun q=>?_,fun q=>?_⟩⟩⟩⟩)
 ·intro k2 u2;have:=C k2 (u1.trans u2)
  rwa [og (dW e)]at this
 ·intro k5 u5;have:=C k5 ((u1.trans u4).trans u5)
  rwa [oh (by simp [cO e]),if_pos (dW e')]at this
 ·intro k8 u8;have:=C k8 (((u1.trans u4).trans u7).trans u8)
  rwa [oh (by simp [cO e]),if_neg (by simp [cO e']),og (Or.inl (by simpa using p))]at this
 ·intro k8 u8;have:=C k8 ((((u1.trans u4).trans u7).trans u10).trans u8)
  rwa [oh (by simp [cO e]),if_neg (by simp [cO e']),og (Or.inr (by simpa using q))]at this
 ·intro k8 u8;have:=C k8 ((((u1.trans u4).trans u7).trans u10).trans u8)
  rwa [oh (by simp [cO e]),if_neg (by simp [cO e']),oh (by simp at p q;simp [p,q])]at this
theorem aQj {x:PCell}(hx:CellV (NP K) k cs x) (hK:K≤300000000) (C:∀k',Up k k'→R k' (.int .i64 (sD n0 x))) :
 Cl k 62 #[S3 A0 n0 d0 A1 n1 d1 A2 n2 d2,.agg cs] R:=by
 intro k0 u0;obtain⟨c0,c1,c2,rfl,h0,h1,h2⟩:=CellV.up (aD K) hx u0;replace C:=fun k' u=>C k' (u0.trans u);unfold sD at C;refine aLn h0.seg h1.seg h2.seg ⟨fun e k1 u1=>?_,fun e=>⟨rfl,fun e' k1 u1=>?_,fun e'=>xP h0 hK fun k3 u3=>⟨_,rfl,fun p k4 u4=>?_,fun p=>sF (h1.up u3) hK fun k6 u6=>⟨_,rfl,fun q k7 u7=>?_,fun q=>sF ((h2.up u3).up u6) hK fun k9 u9=>⟨_,rfl,fun r k10 u10=>?_,fun r k10 u10=>?_⟩⟩⟩⟩⟩
 ·have:=C k1 u1
  rwa [og (Or.inl (ow e))]at this
 ·have:=C k1 u1
  rwa [og (Or.inr (Or.inl (ow e')))]at this
 ·have:=C k4 (u3.trans u4)
  rwa [og (Or.inr (Or.inr (Or.inl (by simpa using p))))]at this
 ·have:=C k7 ((u3.trans u6).trans u7)
  rwa [og (Or.inr (Or.inr (Or.inr (Or.inl (ow q)))))]at this
 ·have:=C k10 (((u3.trans u6).trans u9).trans u10)
  rwa [og (Or.inr (Or.inr (Or.inr (Or.inr (ow r)))))]at this
 ·have:=C k10 (((u3.trans u6).trans u9).trans u10);have e:=ov e;have e':=ov e';have p:0<x.cap:=by simpa using p
  have q:=ov q;have r:=ov r
  rwa [oh (by rintro (h|h|h|h|h);exact e h;exact e' h;exact h p;exact q h;exact r h)]at this
theorem nE {l:List PRate}(hl:Lst k A n 6 (RateV (NP K) k) l) (hx:RatV k cs x L) (hL1:1≤L) (hL:L≤300000000) (hK:K≤300000000) (hn:n≤1000) (C:∀k' ds,Up k k'→RatV k' ds (spd l x) K→R k' (.agg ds)) :
 Cl k 70 #[.slice A n c,.agg cs] R:=by
 intro k0 u0;have hN:=aD K;replace hl:=bJ hN hl u0;replace hx:=hx.up u0;replace C:=fun k' ds u=>C k' ds (u0.trans u);have hlen:=hl.1;refine aHm hx.seg ⟨rfl,fun m k vs=>∃(j:Nat) (ds:Array Value),j+m=n∧vs=[.int .i64 j,.agg ds]∧RatV k ds (if j=0 then 0 else (at_ l (j-1)).v) K∧∀i,i<j→(at_ l i).f≤x,⟨n,fun k1 u1=>⟨0,_,oq,rfl,by rw [og rfl];exact nZ K,fun i hi=>oq⟩⟩,?_⟩;rintro m k1 vs u1 ⟨j,ds,hj,rfl,hv,hz⟩;refine⟨j,ds,hv.seg,rfl,fun hlt=>?_,fun hge=>?_⟩
 ·have hlt:=aL hlt;have hl1:=bJ hN hl u1;obtain⟨a,_,⟨c0,c1,rfl,h0,h3⟩,ha,hb,hr,_⟩:=hl1.el (i:=j) oq oz;refine⟨ha,hb,c0,h0.seg,c1,h3.seg,hr k1 (Up.refl _),cN (hx.up u1) h0 hL1 hL hK fun k2 u2=>⟨_,rfl,fun hf k3 u3=>?_,fun hf k3 u3=>?_⟩⟩
  ·refine C k3 ds ((u1.trans u2).trans u3) ?_;have e:=yS (t:=x) (l:=l) (j:=j) oq hz fun _=>by rw [Rat.not_le];exact ow hf
   unfold spd;rw [e];exact (hv.up u2).up u3
  ·refine⟨m-1,oq,j+1,c1,oq,by rw [aH oq],?_,fun i hi=>?_⟩
   ·rw [oh oq,xg];exact (h3.up u2).up u3
   ·by_cases e:i=j
    ·rw [e];exact zu.1 (ov hf)
    ·exact hz i oq
 ·have hge:=aO hge;intro k2 u2;refine C k2 ds (u1.trans u2) ?_;have e:=yS (t:=x) (l:=l) (j:=j) oq hz fun h=>by omega
  unfold spd;rw [e];exact hv.up u2
theorem rates16 {l:List PRate}(h:bL l=0):l.length≤16:=by
 unfold bL at h;split at h
 ·cases h
 ·omega
def aWv (l:List PRate) (x y:Rat):Int:=if bL l≠0 then bL l else if x<0 then 1 else if spd l y=0 then 3 else 0
def aWw (l:List PRate) (x y:Rat):Rat:=if bL l≠0 then 0 else if x<0 then 0 else x/spd l y
theorem zN {z:PLink}{i:Nat}(hz:LinkV (NP K) k cs z) (h0:0≤z.a) (h1:z.a<1000000) (h2:0≤z.b) (h3:z.b<1000000) (hi:i<1000000) (C:∀k',Up k k'→R k' (.int .i64 (z.a+z.b-i))) :
 Cl k 69 #[.agg cs,.int .i64 i] R:=by
 intro k0 u0;obtain⟨c0,rfl,h⟩:=LinkV.up (aD K) hz u0;refine aHi h.seg fun k1 u1=>?_;have:=C k1 (u0.trans u1);have e:wrap .i64 (wrap .i64 (z.a+z.b)-(i:Int))=z.a+z.b-i:=by rw [jp,jp];omega
 rw [e];exact this
theorem aQw (hx:RatV k cs x K) (C:∀k',Up k k'→R k' (.agg cs)):Cl k 36 #[.agg cs] R:=by
 intro k0 u0;exact aMb hx.seg fun k1 u1=>C k1 (u0.trans u1)
theorem zV (C:∀k',Up k k'→R k' (.int .i64 (if n3=n1∧n4=n1∧n5=n1 then 0 else 4))) :
 Cl k 67 #[S3 A0 n0 d0 A1 n1 d1 A2 n2 d2,S3 A3 n3 d3 A4 n4 d4 A5 n5 d5] R:=by
 intro k0 u0;replace C:=fun k' u=>C k' (u0.trans u);refine aHp ⟨rfl,rfl,fun e k1 u1=>?_,fun e=>⟨rfl,fun e' k1 u1=>?_,fun e'=>⟨rfl,fun e'' k1 u1=>?_,fun e'' k1 u1=>?_⟩⟩⟩
 ·have:=C k1 u1
  rwa [oh (by rintro⟨h,_⟩;simp [h]at e)]at this
 ·have:=C k1 u1
  rwa [oh (by rintro⟨_,h,_⟩;simp [h]at e')]at this
 ·have:=C k1 u1
  rwa [oh (by rintro⟨_,_,h⟩;simp [h]at e'')]at this
 ·have:=C k1 u1
  rwa [og ⟨by simp at e;omega,by simp at e';omega,by simp at e'';omega⟩]at this
end
open Go.ChangeMaps Go.MapKept Go.RowKit Go.Maps
open Go.WideElems (Fit rd rg pl rd_val)
section
variable {w w1:World}{base n m s b q:Nat}{e:TypeId}{v:Value}{xs ys:List Value}
theorem kT {n':Nat}(h:w.ownsRow base e s v n xs) (h':w.ownsRow base e s v n' ys):n=n'∧xs=ys:=by
 obtain⟨h1,h2⟩:=h;obtain⟨h1',h2'⟩:=h';rcases h2 with ⟨rfl,rfl⟩|⟨g,cap,cur,rfl,_,hh,_,_,_,ht⟩
 ·rcases h2' with ⟨_,rfl⟩|⟨g,cap,cur,hv,_⟩
  ·have e1:xs=[]:=zg (by simpa using h1);have e2:ys=[]:=zg (by simpa using h1');rw [e1,e2];exact⟨rfl,rfl⟩
  ·cases hv
 ·rcases h2' with ⟨hv,_⟩|⟨g',cap',cur',hv,_,hh',_,_,_,ht'⟩
  ·cases hv
  ·simp only [Value.slice.injEq,qh,Addr.mk.injEq]at hv;obtain⟨⟨rfl,_⟩,rfl,_⟩:=hv;rw [hh]at hh';simp only [qh,Obj.cells.injEq]at hh';obtain⟨rfl,_⟩:=hh';exact⟨rfl,ht.symm.trans ht'⟩
open Classical in
noncomputable def dB (w:World) (base:Nat) (e:TypeId) (s:Nat) (v:Value):Option (DataW (List Value)×List MemPlace):=
 if h:∃p:Nat×List Value,w.ownsRow base e s v p.1 p.2 then some (.held (Classical.choose h).2,[]) else none
theorem lQ (h:w.ownsRow base e s v n xs):dB w base e s v=some (.held xs,[]):=by
 have hex:∃p:Nat×List Value,w.ownsRow base e s v p.1 p.2:=⟨(n,xs),h⟩;unfold dB;rw [dif_pos hex,(kT (Classical.choose_spec hex) h).2]
theorem cL {z:DataW (List Value)×List MemPlace}(h:dB w base e s v=some z):∃n xs,w.ownsRow base e s v n xs∧z=(.held xs,[]):=by
 unfold dB at h;split at h
 ·rename_i hex;exact⟨_,_,Classical.choose_spec hex,(Option.some.inj h).symm⟩
 ·cases h
def xW:DataW (List Value)→List Value
 | .held xs=>xs
 | _=>[]
def Grp (w:World) (P:Program) (k:TypeId) (base:Nat) (e:TypeId) (s b n q:Nat) (G:Int→List Value):Prop:=
 ∃es clock,w.heap[b]?=some (.map es clock)∧Fit P k (dB w base e s) es clock∧es.size≤n∧b<base∧
  (∀x∈es.toList,∀m xs,w.ownsRow base e s x.val m xs→m≤n)∧
  (∀x∈es.toList,∀y∈es.toList,x.key≠y.key→x.val.ownBlock=none∨x.val.ownBlock≠y.val.ownBlock)∧(∀x∈es.toList,x.val.ownBlock≠some q)∧
  ∀i,(Lit.int .i64 i).wf=true→xW ((DataW.map ((es.toList.map (rg P k (dB w base e s))).foldr DataW.insert [])).atKey (.int .i64 i) .nil)=G i
def Back (w:World) (P:Program) (t k:TypeId) (base:Nat) (e:TypeId) (s b n q:Nat) (G:Int→List Value) (i:Int) (v:Value):Prop:=
 ∀(w1:World) (v':Value) (m':Nat) (xs':List Value),w.grownBy w1 v.ownBlock→w1.ownsRow base e s v' m' xs'→m'≤n+1→(v'.ownBlock=v.ownBlock∨∃g,v'.ownBlock=some g∧w.heap.size≤g)→v'.ownBlock≠some q→
  ∃w2,(Instr.mapUpdate t (.map (some b)) (.int .i64 i) v').run P w1=.ok () w2∧Grp w2 P k base e s b (n+1) q (fun j=>if j=i then xs' else G j)∧w1.grownBy w2 (some b)
variable {P:Program}{k:TypeId}{G:Int→List Value}
theorem Grp.made (w:World) (P:Program) (k:TypeId) (e:TypeId) (s q:Nat):Grp (w.alloc (.map #[] 0)) P k (w.heap.size+1) e s w.heap.size 0 q (fun _=>[]):=
 ⟨#[],0,(MapKept.heap_alloc w _).1,⟨by simp,stamped_empty 0,by simp⟩,oy _,yj _,by simp,by simp,by simp,fun i _=>by simp [DataW.atKey,xW]⟩
theorem Grp.shun {q':Nat}(h:Grp w P k base e s b n q G) (hq':w.heap.size≤q'):Grp w P k base e s b n q' G:=by
 obtain⟨es,clock,hb,F,hs,hbb,hlen,hap,_,hG⟩:=h;refine⟨es,clock,hb,F,hs,hbb,hlen,hap,fun x hx e1=>?_,hG⟩;obtain⟨y,hy⟩:=F.reads x hx;obtain⟨z,hz,_⟩:=rd_val hy;obtain⟨m,xs,ho,_⟩:=cL hz;have:=(ho.lt q' e1).2;omega
theorem Grp.low {q':Nat}(h:Grp w P k base e s b n q G) (hq':q'<base):Grp w P k base e s b n q' G:=by
 obtain⟨es,clock,hb,F,hs,hbb,hlen,hap,_,hG⟩:=h;refine⟨es,clock,hb,F,hs,hbb,hlen,hap,fun x hx e1=>?_,hG⟩;obtain⟨y,hy⟩:=F.reads x hx;obtain⟨z,hz,_⟩:=rd_val hy;obtain⟨m,xs,ho,_⟩:=cL hz;have:=(ho.lt q' e1).1;omega
theorem Grp.lt (h:Grp w P k base e s b n q G):b<w.heap.size:=by
 obtain⟨es,clock,hb,_⟩:=h;exact (oi.1 hb).1
theorem Grp.kept (h:Grp w P k base e s b n q G) (hg:w.grownBy w1 none):Grp w1 P k base e s b n q G:=by
 obtain⟨es,clock,hb,F,hs,hbb,hlen,hap,hq,hG⟩:=h;have hblt:b<w.heap.size:=(oi.1 hb).1;have off:∀x:Value,x.ownBlock=none∨x.ownBlock≠none:=fun x=>by cases x.ownBlock <;> simp
 have hst:∀x∈es.toList,∀z,dB w base e s x.val=some z→dB w1 base e s x.val=some z:=fun x hx z hz=>by
  obtain⟨n,xs,ho,rfl⟩:=cL hz;exact lQ (ho.kept hg (off _))
 obtain⟨F1,hmap,_⟩:=F.stay hst;refine⟨es,clock,(hg.block b hblt (by simp)).trans hb,F1,hs,hbb,fun x hx m xs ho=>?_,hap,hq,by rw [hmap];exact hG⟩;obtain⟨y,hy⟩:=F.reads x hx;obtain⟨z,hz,_⟩:=rd_val hy;obtain⟨m0,xs0,ho0,_⟩:=cL hz;rw [(kT ho (ho0.kept hg (off _))).1];exact hlen x hx m0 xs0 ho0
theorem aMp {t E:TypeId}{es:Array MapEntry}{clock:Nat}{i:Int}(hk:P.underlying k=some (.int .i64)) (ht:P.underlying t=some (.map k E)) (hb:w.heap[b]?=some (.map es clock)) (F:Fit P k (dB w base e s) es clock)
 (hs:es.size≤n) (hn:n<maxLen) (hbb:b<base) (hlen:∀x∈es.toList,∀m xs,w.ownsRow base e s x.val m xs→m≤n)
 (hap:∀x∈es.toList,∀y∈es.toList,x.key≠y.key→x.val.ownBlock=none∨x.val.ownBlock≠y.val.ownBlock) (hq:∀x∈es.toList,x.val.ownBlock≠some q)
 (hG:∀i,(Lit.int .i64 i).wf=true→xW ((DataW.map ((es.toList.map (rg P k (dB w base e s))).foldr DataW.insert [])).atKey (.int .i64 i) .nil)=G i)
 (hi:(Lit.int .i64 i).wf=true) (hv:∀x∈es.toList,x.key≠.int .i64 i→x.val.ownBlock=none∨x.val.ownBlock≠v.ownBlock) (hvb:v.ownBlock≠some b) :
 Back w P t k base e s b n q G i v:=by
 have K:Keyed P k:=int_keyed hk;have hkey:keyOf P k (.int .i64 i)=some (.int .i64 i):=keyOf_int_mk hk hi;intro w1 v' m' xs' hg hown' hl' hloc hvq;have hblt:b<w.heap.size:=(oi.1 hb).1;have hb1:w1.heap[b]?=some (.map es clock):=(hg.block b hblt (fun e1=>hvb e1.symm)).trans hb;have owned:∀x∈es.toList,∃m xs,w.ownsRow base e s x.val m xs:=fun x hx=>by
  obtain⟨y,hy⟩:=F.reads x hx;obtain⟨z,hz,_⟩:=rd_val hy;obtain⟨m,xs,ho,_⟩:=cL hz;exact⟨m,xs,ho⟩
 have hs1:∀x∈es.toList,x.key≠.int .i64 i→∀z,dB w base e s x.val=some z→dB w1 base e s x.val=some z:=by
  intro x hx hne z hz;obtain⟨m,xs,ho,rfl⟩:=cL hz;exact lQ (ho.kept hg (hv x hx hne))
 obtain⟨es',clock',hrun,F',hput,_,_,hwho⟩:=Maps.fit_store (R':=dB w1 base e s) K ht hb1 F (zi hs hn) hs1 hkey (lQ hown');have hg2:w1.grownBy (setBlock w1 b (.map es' clock')) (some b):=⟨rfl,rfl,rfl,by simp [setBlock],fun i _ hi=>heap_setBlock_other hb1 _ (fun e1=>hi (by rw [e1]))⟩;have own_ne:∀ {u:Value}{m:Nat}{ys:List Value},w1.ownsRow base e s u m ys→u.ownBlock=none∨u.ownBlock≠some b:=fun {u m ys} ho=>by
  cases hu:u.ownBlock with
  | none=>exact Or.inl rfl
  | some g=>
   refine Or.inr (fun e1=>?_);have:=(ho.lt g hu).1;cases e1;omega
 have hs2:∀x∈es'.toList,∀z,dB w1 base e s x.val=some z→dB (setBlock w1 b (.map es' clock')) base e s x.val=some z:=by
  intro x _ z hz;obtain⟨m,ys,ho,rfl⟩:=cL hz;exact lQ (ho.kept hg2 (own_ne ho))
 obtain⟨F2,hmap2,_⟩:=F'.stay hs2;have old_new:∀x∈es.toList,x.key≠.int .i64 i→x.val.ownBlock=none∨x.val.ownBlock≠v'.ownBlock:=by
  intro x hx hne;rcases hloc with h1|⟨g,h1,h2⟩
  ·rw [h1];exact hv x hx hne
  ·cases hx':x.val.ownBlock with
   | none=>exact Or.inl rfl
   | some gx=>
    obtain⟨m,ys,ho⟩:=owned x hx;have:=(ho.lt gx hx').2;refine Or.inr (fun e1=>?_);rw [h1]at e1;cases e1;omega
 refine⟨_,hrun,⟨es',clock',heap_setBlock_same hb1 _,F2,?_,hbb,?_,?_,fun x hx=>?_,?_⟩,hg2⟩
 ·have e1:es'.size=((es'.toList.map (rg P k (dB w1 base e s))).foldr DataW.insert []).length:=by rw [length_sorted];simp
  rw [e1,hput];unfold putKey;rw [length_insert];have e2:=List.length_filter_le (notKey (.int .i64 i)) ((es.toList.map (rg P k (dB w base e s))).foldr DataW.insert []);rw [length_sorted]at e2;simp at e2;omega
 ·intro x hx m ys ho;have back:w1.ownsRow base e s x.val m ys:=by
   obtain⟨y,hy⟩:=F'.reads x hx;obtain⟨z,hz,_⟩:=rd_val hy;obtain⟨m',ys',ho',_⟩:=cL hz;obtain⟨e1,e2⟩:=kT ho (ho'.kept hg2 (own_ne ho'));rw [e1,e2];exact ho'
  rcases hwho x hx with ⟨hx0,hne⟩|⟨_,hval⟩
  ·obtain⟨m0,ys0,ho0⟩:=owned x hx0;have:=hlen x hx0 m0 ys0 ho0;rw [(kT back (ho0.kept hg (hv x hx0 hne))).1];omega
  ·rw [hval]at back;rw [(kT back hown').1];exact hl'
 ·intro x hx y hy hne;rcases hwho x hx with ⟨hx0,hxk⟩|⟨hxk,hxv⟩ <;> rcases hwho y hy with ⟨hy0,hyk⟩|⟨hyk,hyv⟩
  ·exact hap x hx0 y hy0 hne
  ·rw [hyv];exact old_new x hx0 hxk
  ·rw [hxv];cases hv':v'.ownBlock with
   | none=>exact Or.inl rfl
   | some g=>
    refine Or.inr (fun e1=>?_);rcases old_new y hy0 hyk with h|h
    ·rw [h]at e1;cases e1
    ·exact h (by rw [hv',e1])
  ·exact absurd (hxk.trans hyk.symm) hne
 ·rcases hwho x hx with ⟨hx0,_⟩|⟨_,hxv⟩
  ·exact hq x hx0
  ·rw [hxv];exact hvq
 ·intro j hj;rw [hmap2,hput,←DataW.put_eq];show xW _=if j=i then xs' else G j;split
  ·rename_i e1;subst e1;rw [atKey_put_same ⟨_,rfl⟩ (K.key hkey)];rfl
  ·rename_i e1;rw [atKey_put_other (fun h=>e1 (by injection h))];exact hG j hj
theorem aMx {l:List MapEntry}(h:l.Pairwise fun x y=>x.key≠y.key) {x y:MapEntry}(hx:x∈l) (hy:y∈l) (e:x.key=y.key):x=y:=by
 induction l with
 | nil=>cases hx
 | cons z l ih=>
  obtain⟨h1,h2⟩:=List.pairwise_cons.1 h;rcases vo.1 hx with ex|hx' <;> rcases vo.1 hy with ey|hy'
  ·rw [ex,ey]
  ·rw [ex]at e;exact absurd e (h1 y hy')
  ·rw [ey]at e;exact absurd e.symm (h1 x hx')
  ·exact ih h2 hx' hy'
theorem lG {H:Type}{t E:TypeId}{R:Value→Option (DataW H×List MemPlace)}{es:Array MapEntry}{clock:Nat}{w w':World}{key z v:Value}{kl:Lit}(K:Keyed P k) (ht:P.underlying t=some (.map k E)) (hz:∀w,(zeroValue E).run P w=.ok z w) (F:Fit P k R es clock)
 (hb:w.heap[b]?=some (.map es clock)) (hb':w'.heap[b]?=some (.map es clock)) (hkey:keyOf P k key=some kl) (h:(Instr.lookup t (.map (some b)) key false).run P w=.ok v w):(Instr.lookup t (.map (some b)) key false).run P w'=.ok v w':=by
 have hn:es.toList.Pairwise (fun x y=>x.key≠y.key):=((stamped_iff es clock).1 F.stamped).2.2;rcases Maps.fit_look false K ht (hz w) hb F hkey with ⟨h1,n1,_⟩|⟨e1,y1,m1,k1,h1,_⟩ <;> rcases Maps.fit_look false K ht (hz w') hb' F hkey with ⟨h2,n2,_⟩|⟨e2,y2,m2,k2,h2,_⟩
 ·rw [h]at h1;rw [h2];injection h1 with h1;rw [h1]
 ·exact absurd k2 (n1 e2 m2)
 ·exact absurd k1 (n2 e1 m1)
 ·rw [h]at h1;rw [h2,←aMx hn m1 m2 (k1.trans k2.symm)];injection h1 with h1;rw [h1]
theorem Grp.at {t E:TypeId}{i:Int}(h:Grp w P k base e s b n q G) (hk:P.underlying k=some (.int .i64)) (ht:P.underlying t=some (.map k E)) (hz:∀w,(zeroValue E).run P w=.ok (.slice none 0 0) w) (hn:n<maxLen) (hi:(Lit.int .i64 i).wf=true) :
 ∃v m,w.ownsRow base e s v m (G i)∧m≤n∧v.ownBlock≠some q∧∀W,w.grownBy W none→(Instr.lookup t (.map (some b)) (.int .i64 i) false).run P W=.ok v W∧Back W P t k base e s b n q G i v:=by
 have hlt:=h.lt;have hall:∀W,w.grownBy W none→Grp W P k base e s b n q G:=fun W hg=>h.kept hg;obtain⟨es,clock,hb,F,hs,hbb,hlen,hap,hq,hG⟩:=h;have K:Keyed P k:=int_keyed hk;have hkey:keyOf P k (.int .i64 i)=some (.int .i64 i):=keyOf_int_mk hk hi;have hGi:=hG i hi;have go:∀W,w.grownBy W none→∀v,(∀x∈es.toList,x.key≠.int .i64 i→x.val.ownBlock=none∨x.val.ownBlock≠v.ownBlock)→v.ownBlock≠some b→Back W P t k base e s b n q G i v:=fun W hg v h1 h2=>by
  obtain⟨es',clock',hb',F',hs',hbb',hlen',hap',hq',hG'⟩:=hall W hg;have e1:=hg.block b hlt (by simp);rw [hb,hb']at e1;injection e1 with e1;injection e1 with e1 e2;subst e1 e2;exact aMp hk ht hb' F' hs' hn hbb' hlen' hap' hq' hG' hi h1 h2
 have bl:∀W,w.grownBy W none→W.heap[b]?=some (.map es clock):=fun W hg=>(hg.block b hlt (by simp)).trans hb;rcases Maps.fit_look false K ht (hz w) hb F hkey with ⟨hrun,_,hat⟩|⟨e0,y,hm0,h3,hrun,hR,hat,_⟩
 ·rw [hat]at hGi;refine⟨.slice none 0 0,0,?_,jt _,by simp [Value.ownBlock],fun W hg=>⟨lG K ht hz F hb (bl W hg) hkey hrun,go W hg _ (fun x _ _=>?_) (by simp [Value.ownBlock])⟩⟩
  ·rw [←hGi];exact World.ownsRow_nil _ _ _ _
  ·cases x.val.ownBlock <;> simp [Value.ownBlock]
 ·obtain⟨m,xs,ho,rfl⟩:=cL hR;rw [hat]at hGi;have e1:xs=G i:=hGi;subst e1;refine⟨e0.val,m,ho,hlen e0 hm0 m _ ho,hq e0 hm0,fun W hg=>⟨lG K ht hz F hb (bl W hg) hkey hrun,go W hg _ (fun x hx hne=>hap x hx e0 hm0 (by rw [h3];exact hne)) (fun e1=>?_)⟩⟩;have:=(ho.lt b e1).1;omega
theorem Grp.looks {t E:TypeId}(h:Grp w P k base e s b n q G) (hk:P.underlying k=some (.int .i64)) (ht:P.underlying t=some (.map k E)) (hz:∀w,(zeroValue E).run P w=.ok (.slice none 0 0) w) :
 ∃es clock,w.heap[b]?=some (.map es clock)∧∀i,(Lit.int .i64 i).wf=true→∃v m,w.ownsRow base e s v m (G i)∧∀W:World,W.heap[b]?=some (.map es clock)→(Instr.lookup t (.map (some b)) (.int .i64 i) false).run P W=.ok v W:=by
 obtain⟨es,clock,hb,F,hs,hbb,hlen,hap,hq,hG⟩:=h;have K:Keyed P k:=int_keyed hk;refine⟨es,clock,hb,fun i hi=>?_⟩;have hkey:keyOf P k (.int .i64 i)=some (.int .i64 i):=keyOf_int_mk hk hi;have hGi:=hG i hi;rcases Maps.fit_look false K ht (hz w) hb F hkey with ⟨hrun,_,hat⟩|⟨e0,y,hm0,h3,hrun,hR,hat,_⟩
 ·rw [hat]at hGi;exact⟨.slice none 0 0,0,by rw [←hGi];exact World.ownsRow_nil _ _ _ _,fun W hW=>lG K ht hz F hb hW hkey hrun⟩
 ·obtain⟨m,xs,ho,rfl⟩:=cL hR;rw [hat]at hGi;have e1:xs=G i:=hGi;subst e1;exact⟨e0.val,m,ho,fun W hW=>lG K ht hz F hb hW hkey hrun⟩
end
structure LinkC where
 (a b:Int) (g:Bool) (A D:Option Addr) (n c d e:Nat)
def LinkC.cells (l:LinkC):List Value:=[.int .i64 l.a,.int .i64 l.b,.bool l.g,.slice l.A l.n l.c,.slice l.D l.d l.e]
def nbC (L:List LinkC) (i:Int):List Value:=L.flatMap fun l=>(if l.a=i then l.cells else [])++(if l.b=i then l.cells else [])
theorem aIj:(Tryz.prog.info? 126).map (fun i=>(i.zero,i.size,i.bytes))=some (some (.agg #[.int .i64 0,.int .i64 0,.bool false,.slice none 0 0,.slice none 0 0]),5,72):=by kernel_rfl
theorem mV (w:World):(zeroValue 28).run Tryz.prog w=.ok (.slice none 0 0) w:=by kernel_rfl
theorem LinkC.one (l:LinkC):∀u∈l.cells,u.oneCell'=true:=by
 intro u hu;simp only [LinkC.cells,vo,List.not_mem_nil,or_false]at hu;rcases hu with rfl|rfl|rfl|rfl|rfl <;> rfl
theorem lA {a:Int}(h1:-1000000≤a) (h2:a<1000000):(Lit.int .i64 a).wf=true:=by
 have e1:(-9223372036854775808:Int)≤a:=oq
 have e2:a≤9223372036854775807:=oq
 exact Bool.and_eq_true_iff.2 ⟨decide_eq_true e1,decide_eq_true e2⟩
theorem K5 {w:World}{b:Nat}{t:TypeId}{x0 x1 x2 x3 x4:Value}(h:Blk w b t #[x0,x1,x2,x3,x4]) :
 w.cell? ⟨b,0,none⟩=some x0∧w.cell? ⟨b,1,none⟩=some x1∧w.cell? ⟨b,2,none⟩=some x2∧w.cell? ⟨b,3,none⟩=some x3∧w.cell? ⟨b,4,none⟩=some x4:=⟨h.cell 0,h.cell 1,h.cell 2,h.cell 3,h.cell 4⟩
theorem aTl {v:Value}{g tb n c H:Nat}(hat:v.ownBlock=some g∨g=H) (h:v.ownBlock≠some tb) (h2:tb<H):(Value.slice (some ⟨g,0,none⟩) n c).ownBlock≠some tb:=by
 have e:(Value.slice (some ⟨g,0,none⟩) n c).ownBlock=some g:=rfl;rw [e];rcases hat with h1|h1
 ·rw [←h1];exact h
 ·intro e2;injection e2 with e2;omega
theorem aAn (W:World) (o:Obj) (row:Option Nat):W.grownBy (W.alloc o).drew row:=⟨rfl,rfl,rfl,(W.grownBy_alloc o row).size,(W.grownBy_alloc o row).block⟩
theorem vE {B M:Nat}{w W w1 w2:World}{o:Obj}{e s n:Nat}{v:Value}{xs:List Value}(h:Below B w W) (hB:B≤W.heap.size) (hM:B≤M) (ho:(W.alloc o).drew.ownsRow (M+1) e s v n xs) (hg:(W.alloc o).drew.grownBy w1 v.ownBlock) (hg2:w1.grownBy w2 (some M)):Below B w w2:=by
 have h1:Below B w (W.alloc o).drew:=(h.alloc hB o).drew;have h2:=h1.grown hg (by simp;omega) (fun j hj=>by have:=(ho.lt j hj).1;omega);have:=hg.size;exact h2.grown hg2 (by simp at this;omega) (fun j hj=>by injection hj with hj;omega)
theorem aRx:nbC []=fun _=>[]:=rfl
theorem aNt {L:List LinkC}{k:Nat}{l:LinkC}(hk:k<L.length) (hl:l=L[k]) :
 (fun j=>if j=l.b then (if l.b=l.a then nbC (L.take k) l.a++l.cells else nbC (L.take k) l.b)++l.cells else if j=l.a then nbC (L.take k) l.a++l.cells else nbC (L.take k) j)=nbC (L.take (k+1)):=by
 funext j
 have e:nbC (L.take (k+1)) j=nbC (L.take k) j++((if l.a=j then l.cells else [])++(if l.b=j then l.cells else [])):=by
  unfold nbC;rw [jm hk,yq,←hl];simp
 rw [e]
 by_cases h1:j=l.b
 ·subst h1
  by_cases h2:l.b=l.a
  ·simp [h2]
  ·simp [h2,Ne.symm h2]
 ·by_cases h2:j=l.a
  ·subst h2;simp [h1,Ne.symm h1]
  ·simp [h1,h2,Ne.symm h1,Ne.symm h2]
theorem aJc (w:World) (L:List LinkC) (A0 A1 A:Option Addr) (bl ol n0 d0 n1 d1 c:Nat) (hA:0<L.length→A=some ⟨bl,ol,none⟩∧bl<w.heap.size) (hL:L.length≤64)
 (hc:∀j,(h:j<L.length)→∀q u,L[j].cells[q]?=some u→w.cell? ⟨bl,ol+j*5+q,none⟩=some u)
 (hw:∀z∈L,-1000000≤z.a∧z.a<1000000∧-1000000≤z.b∧z.b<1000000) :
 Calls Tryz.prog 64 #[.agg #[.slice A0 n0 d0,.slice A1 n1 d1,.slice A L.length c]] w fun e w'=>
  (∃M n,e=.returned (.map (some M))∧Grp w' Tryz.prog 3 (M+1) 126 5 M n 0 (nbC L)∧w.heap.size≤M∧n≤2*L.length)∧Below w.heap.size w w':=by
 obtain⟨i0,hi,hz0,hz1,hz2⟩:=info_parts aIj;have hmm:=@run_makeMap Tryz.prog
 go_enter Tryz.func64,Tryz.ntmps64
 go_wp2
 go_loopw [10] (fun i wr=>∃k:Nat,k≤L.length∧i=.int .i64 k∧Grp wr Tryz.prog 3 (w.heap.size+1+1) 126 5 (w.heap.size+1) (2*k) 0 (nbC (L.take k))∧Below w.heap.size w wr∧w.heap.size+2≤wr.heap.size)
  (fun i _=>L.length-(intOf i).toNat)
 case atStart=>exact⟨0,jt _,rfl,by simpa [aRx] using Grp.made (w.alloc _) Tryz.prog 3 126 5 0,((Below.refl _ _).alloc (oy _) _).alloc (by simp) _,by simp⟩
 case round=>
  obtain⟨k,hk,rfl,hG,hB,hsz⟩:=hrel
  by_cases hlt:k<L.length
  ·obtain⟨rfl,hbl⟩:=hA oq;obtain⟨l,hl⟩:∃l,l=L[k]:=⟨_,rfl⟩;have hck:=hc k hlt;rw [←hl]at hck;have cell:∀q u,l.cells[q]?=some u→wr.cell? ⟨bl,ol+k*5+q,none⟩=some u:=fun q u h=>(hB.cell hbl).trans (hck q u h);have d0:wr.cell? ⟨bl,ol+k*5,none⟩=some (.int .i64 l.a):=cell 0 _ rfl;have d1:wr.cell? ⟨bl,ol+k*5+1,none⟩=some (.int .i64 l.b):=cell 1 _ rfl;have d2:wr.cell? ⟨bl,ol+k*5+2,none⟩=some (.bool l.g):=cell 2 _ rfl;have d3:wr.cell? ⟨bl,ol+k*5+3,none⟩=some (.slice l.A l.n l.c):=cell 3 _ rfl;have d4:wr.cell? ⟨bl,ol+k*5+4,none⟩=some (.slice l.D l.d l.e):=cell 4 _ rfl;have HL:=ou hl;clear hck cell hc hl
   go_wp2
   obtain⟨tb,htb⟩:∃tb,tb=wr.heap.size:=⟨_,rfl⟩;obtain⟨W,hW⟩:∃W,W=wr.alloc (.cells #[.int .i64 l.a,.int .i64 l.b,.bool l.g,.slice l.A l.n l.c,.slice l.D l.d l.e] 126):=⟨_,rfl⟩;rw [←hW,←htb];have hGW:Grp W Tryz.prog 3 (w.heap.size+1+1) 126 5 (w.heap.size+1) (2*k) tb (nbC (L.take k)):=by rw [hW,htb];exact (hG.shun (oy _)).kept (wr.grownBy_alloc _ _)
   have hblk:Blk W tb 126 #[.int .i64 l.a,.int .i64 l.b,.bool l.g,.slice l.A l.n l.c,.slice l.D l.d l.e]:=by rw [hW,htb];exact Blk.new _ _ _
   have hBW:Below w.heap.size w W:=by rw [hW];exact hB.alloc hB.size _
   have hsW:tb<W.heap.size:=by rw [hW,htb];simp
   have hs2:w.heap.size+2≤tb:=oq
   have hwl:=hw l (by rw [HL.out];exact ux hlt);clear hW htb d0 d1 d2 d3 d4 hG hB hsz
   go_cut [5] (fun p wx=>p=.pointer (some ⟨tb,0,none⟩)∧Grp wx Tryz.prog 3 (w.heap.size+1+1) 126 5 (w.heap.size+1) (2*k+1) tb (fun i=>if i=l.a then nbC (L.take k) l.a++l.cells else nbC (L.take k) i)∧Blk wx tb 126 #[.int .i64 l.a,.int .i64 l.b,.bool l.g,.slice l.A l.n l.c,.slice l.D l.d l.e]∧Below w.heap.size w wx∧tb<wx.heap.size)
   case first=>
    obtain⟨v,m,hov,hvm,hvq,hall⟩:=hGW.at (t:=97) (E:=28) (i:=l.a) Tryz.underlying3 Tryz.underlying97 mV (by unfold maxLen;omega) (lA oq oq);obtain⟨lk1,_⟩:=hall W.drew ⟨rfl,rfl,rfl,oy _,fun _ _ _=>rfl⟩;obtain⟨lk2,bk2⟩:=hall (W.alloc (.cells #[.int .i64 l.a,.int .i64 l.b,.bool l.g,.slice l.A l.n l.c,.slice l.D l.d l.e] 126)).drew (aAn _ _ _);have kb1:Blk W.drew tb 126 _:=hblk;have kb2:Blk (W.alloc (.cells #[.int .i64 l.a,.int .i64 l.b,.bool l.g,.slice l.A l.n l.c,.slice l.D l.d l.e] 126)).drew tb 126 _:=hblk.alloc _;have hov2:(W.alloc (.cells #[.int .i64 l.a,.int .i64 l.b,.bool l.g,.slice l.A l.n l.c,.slice l.D l.d l.e] 126)).drew.ownsRow (w.heap.size+1+1) 126 5 v m (nbC (L.take k) l.a):=hov.alloc _;have hnews:∀j u,l.cells[j]?=some u→(W.alloc (.cells #[.int .i64 l.a,.int .i64 l.b,.bool l.g,.slice l.A l.n l.c,.slice l.D l.d l.e] 126)).drew.cell? ((⟨W.heap.size,0,none⟩:Addr).add j)=some u:=World.news_of_block (cs:=#[.int .i64 l.a,.int .i64 l.b,.bool l.g,.slice l.A l.n l.c,.slice l.D l.d l.e]) (heap_alloc_new W _);have hsW2:tb<(W.alloc (.cells #[.int .i64 l.a,.int .i64 l.b,.bool l.g,.slice l.A l.n l.c,.slice l.D l.d l.e] 126)).drew.heap.size:=by simp;omega
    clear hall hov hblk
    go_region_held3 (fun w'=>w'.cell? ⟨tb,0,none⟩=some (.int .i64 l.a)∧w'.cell? ⟨tb,1,none⟩=some (.int .i64 l.b)∧w'.cell? ⟨tb,2,none⟩=some (.bool l.g)∧w'.cell? ⟨tb,3,none⟩=some (.slice l.A l.n l.c)∧w'.cell? ⟨tb,4,none⟩=some (.slice l.D l.d l.e))
     (first|exact K5 kb5|exact K5 kb4|exact K5 kb2|exact K5 kb1)
     (first
       | (refine step_append_lies _ rfl (.tmp 20) (.tmp 22) 28 rfl (w.heap.size+1+1) 126 i0 _ 5 72 Tryz.underlying28 hi hz0 hz1 hz2 rfl oz v m _ rfl hov2 ⟨W.heap.size,0,none⟩ 1 1 l.cells rfl rfl hnews l.one oz (by unfold maxLen;omega) oq (by simp;omega) _ rfl ?_;intro g cap w1 hown hgrow hat _;have kb4:=kb2.grown hgrow (fun e=>hvq e.symm);obtain⟨w2,hrun2,hG2,hg2⟩:=bk2 w1 _ _ _ hgrow hown oq (hat.imp (fun e=>e.symm) (fun e=>⟨g,rfl,Nat.le_of_eq e.symm⟩)) (aTl hat hvq hsW2);have kb5:=kb4.grown hg2 (by simp;omega)))
    all_goals
     go_wp2_with fail
     go_meet
     exact⟨rfl,hG2,kb5,vE hBW oq oq hov2 hgrow hg2,by have:=hgrow.size;have:=hg2.size;simp at *;omega⟩
   case rest=>
    obtain⟨rfl,hGW,hblk,hBW,hsW⟩:=hcut
    go_wp2
    obtain⟨v,m,hov,hvm,hvq,hall⟩:=hGW.at (t:=97) (E:=28) (i:=l.b) Tryz.underlying3 Tryz.underlying97 mV (by unfold maxLen;omega) (lA oq oq);obtain⟨lk1,_⟩:=hall wc.drew ⟨rfl,rfl,rfl,oy _,fun _ _ _=>rfl⟩;obtain⟨lk2,bk2⟩:=hall (wc.alloc (.cells #[.int .i64 l.a,.int .i64 l.b,.bool l.g,.slice l.A l.n l.c,.slice l.D l.d l.e] 126)).drew (aAn _ _ _);have kb1:Blk wc.drew tb 126 _:=hblk;have kb2:Blk (wc.alloc (.cells #[.int .i64 l.a,.int .i64 l.b,.bool l.g,.slice l.A l.n l.c,.slice l.D l.d l.e] 126)).drew tb 126 _:=hblk.alloc _;have hov2:(wc.alloc (.cells #[.int .i64 l.a,.int .i64 l.b,.bool l.g,.slice l.A l.n l.c,.slice l.D l.d l.e] 126)).drew.ownsRow (w.heap.size+1+1) 126 5 v m (if l.b=l.a then nbC (L.take k) l.a++l.cells else nbC (L.take k) l.b):=hov.alloc _;have hnews:∀j u,l.cells[j]?=some u→(wc.alloc (.cells #[.int .i64 l.a,.int .i64 l.b,.bool l.g,.slice l.A l.n l.c,.slice l.D l.d l.e] 126)).drew.cell? ((⟨wc.heap.size,0,none⟩:Addr).add j)=some u:=World.news_of_block (cs:=#[.int .i64 l.a,.int .i64 l.b,.bool l.g,.slice l.A l.n l.c,.slice l.D l.d l.e]) (heap_alloc_new wc _);have hsW2:tb<(wc.alloc (.cells #[.int .i64 l.a,.int .i64 l.b,.bool l.g,.slice l.A l.n l.c,.slice l.D l.d l.e] 126)).drew.heap.size:=by simp;omega
    clear hall hov hblk
    go_region_held3 (fun w'=>w'.cell? ⟨tb,0,none⟩=some (.int .i64 l.a)∧w'.cell? ⟨tb,1,none⟩=some (.int .i64 l.b)∧w'.cell? ⟨tb,2,none⟩=some (.bool l.g)∧w'.cell? ⟨tb,3,none⟩=some (.slice l.A l.n l.c)∧w'.cell? ⟨tb,4,none⟩=some (.slice l.D l.d l.e))
     (first|exact K5 kb5|exact K5 kb4|exact K5 kb2|exact K5 kb1)
     (first
       | (refine step_append_lies _ rfl (.tmp 30) (.tmp 32) 28 rfl (w.heap.size+1+1) 126 i0 _ 5 72 Tryz.underlying28 hi hz0 hz1 hz2 rfl oz v m _ rfl hov2 ⟨wc.heap.size,0,none⟩ 1 1 l.cells rfl rfl hnews l.one oz (by unfold maxLen;omega) oq (by simp;omega) _ rfl ?_;intro g cap w1 hown hgrow hat _;have kb4:=kb2.grown hgrow (fun e=>hvq e.symm);obtain⟨w2,hrun2,hG2,hg2⟩:=bk2 w1 _ _ _ hgrow hown oq (hat.imp (fun e=>e.symm) (fun e=>⟨g,rfl,Nat.le_of_eq e.symm⟩)) (aTl hat hvq hsW2);have kb5:=kb4.grown hg2 (by simp;omega)))
    all_goals
     go_wp2
     go_roundw
     case rel=>exact⟨k+1,oq,by go_num,by rw [←aNt hlt HL.out];exact hG2.low oq,vE hBW oq oq hov2 hgrow hg2,by have:=hgrow.size;have:=hg2.size;simp at *;omega⟩
     case measure=>simp [intOf];omega
  ·have e:k=L.length:=oq
   subst e;clear hc hA
   go_wp2
   go_ret
   refine⟨⟨_,_,rfl,?_,oq,oy _⟩,hB⟩;rw [List.take_length]at hG;exact hG
theorem aMz:laidOutB Tryz.prog=true:=by kernel_rfl
theorem pair_law:Keyed Tryz.prog 168:=Keyed.of_law (deep_law_laid aMz (m:=2) oq (ow ox) ox (by rw [Tryz.underlying168]))
theorem aKp:∃d,Tryz.prog.types.size=d+1:=⟨Tryz.prog.types.size-1,by have:0<Tryz.prog.types.size:=ow ox;omega⟩
theorem aJh:Tryz.prog.keyType 168=true:=by kernel_rfl
theorem aDv:Tryz.prog.cellsOf 168=2:=by kernel_rfl
theorem aIl:Tryz.prog.cellsOf 3=1:=by kernel_rfl
theorem aBd {x y:Int}(hx:(Lit.int .i64 x).wf=true) (hy:(Lit.int .i64 y).wf=true):∃kl,keyOf Tryz.prog 168 (.agg #[.int .i64 x,.int .i64 y])=some kl:=by
 obtain⟨d,hd⟩:=aKp;have e2:List.range 2=[0,1]:=rfl;refine⟨.string (keyBytes [.int .i64 x,.int .i64 y]),?_⟩;simp [keyOf,Tryz.underlying168,aJh,Value.formed,aDv,Value.cells,hd,Program.keyLits,Tryz.underlying3,aIl,hx,hy,e2]
theorem aKs (w:World):(zeroValue 4).run Tryz.prog w=.ok (.bool false) w:=by kernel_rfl
def PSet (w:World) (b n:Nat) (S:Int→Int→Bool):Prop:=∃D:DataW Unit,w.ownsMap Tryz.prog 168 (plainElem Tryz.prog 4) b n D∧
 ∀x y kl,(Lit.int .i64 x).wf=true→(Lit.int .i64 y).wf=true→keyOf Tryz.prog 168 (.agg #[.int .i64 x,.int .i64 y])=some kl→D.atKey kl (.lit (.bool false))=.lit (.bool (S x y))
section
variable {w w':World}{b n:Nat}{S:Int→Int→Bool}
theorem PSet.made (w:World):PSet (w.alloc (.map #[] 0)) w.heap.size 0 fun _ _=>false:=
 ⟨.map [],World.ownsMap_made _ _ _ _,fun _ _ _ _ _ _=>rfl⟩
theorem PSet.look {x y:Int}(h:PSet w b n S) (hx:(Lit.int .i64 x).wf=true) (hy:(Lit.int .i64 y).wf=true):(Instr.lookup 167 (.map (some b)) (.agg #[.int .i64 x,.int .i64 y]) false).run Tryz.prog w=.ok (.bool (S x y)) w:=by
 obtain⟨D,⟨es,clock,hb,F,_,rfl⟩,hD⟩:=h;obtain⟨kl,hk⟩:=aBd hx hy;have hat:=hD x y kl hx hy hk;rcases Maps.fit_look false pair_law Tryz.underlying167 (aKs w) hb F hk with ⟨h1,_,h2⟩|⟨e0,z,_,_,h1,h2,h3,_⟩
 ·rw [h2]at hat;simp only [DataW.lit.injEq,Lit.bool.injEq]at hat;rw [←hat];exact h1
 ·rw [h3]at hat;cases hv:e0.val with
  | bool c=>
   rw [hv,plainElem_bool Tryz.underlying4]at h2;simp only [qh]at h2;rw [←h2]at hat;simp only [DataW.lit.injEq,Lit.bool.injEq]at hat;rw [←hat,←hv];exact h1
  | _=>rw [hv]at h2;simp [plainElem,Tryz.underlying4]at h2
theorem PSet.store {x y:Int}(h:PSet w b n S) (hn:n<maxLen) (hx:(Lit.int .i64 x).wf=true) (hy:(Lit.int .i64 y).wf=true) :
 ∃w',(Instr.mapUpdate 167 (.map (some b)) (.agg #[.int .i64 x,.int .i64 y]) (.bool true)).run Tryz.prog w=.ok () w'∧PSet w' b (n+1) (fun u v=>if u=x∧v=y then true else S u v)∧w.grownBy w' (some b):=by
 obtain⟨D,ho,hD⟩:=h;obtain⟨kl,hk⟩:=aBd hx hy;have hm:=ho.isMap;obtain⟨w',hrun,ho',ht⟩:=ho.store pair_law Tryz.underlying167 hn hk (plainElem_bool Tryz.underlying4 true);refine⟨w',hrun,⟨_,ho',fun u v kl' hu hv hk'=>?_⟩,ht.grown⟩
 by_cases e:u=x∧v=y
 ·obtain⟨rfl,rfl⟩:=e;rw [hk]at hk';simp only [qh]at hk';subst hk';rw [atKey_put_same hm (pair_law.key hk)];simp
 ·simp only [e,if_false];rw [atKey_put_other]
  ·exact hD u v kl' hu hv hk'
  ·intro e1;subst e1;have:=pair_law.inj hk hk';simp at this;exact e ⟨this.1.symm,this.2.symm⟩
theorem PSet.kept {row:Option Nat}(h:PSet w b n S) (hg:w.grownBy w' row) (hb:some b≠row):PSet w' b n S:=by
 obtain⟨D,ho,hD⟩:=h;exact⟨D,ho.kept hg hb,hD⟩
end
theorem lI {w:World}{cs:Array Value}{q:Rat}{K:Nat}(h:RatV w cs q K) (hK:K≤300000000):Calls Tryz.prog 99 #[.agg cs] w fun e w'=>e=.returned (.bool (decide (q<0)))∧Below w.heap.size w w':=
 (sF (R:=fun _ v=>v=.bool (decide (q<0))) h hK (fun _ _=>rfl) w (Up.refl w) w (Sees.refl w)).mono fun _ _ ⟨_,_,e,_,_,hb,hv⟩=>⟨by rw [e,hv],hb⟩
theorem aRk {i:Int}{n1:Nat}(h:i<0):Value.bool false=.bool (decide (0≤i∧i<n1)):=by rw [decide_eq_false oq]
theorem aMv {i:Int}{n1:Nat}(h:0≤i):Value.bool (decide (i<n1))=.bool (decide (0≤i∧i<n1)):=by
 congr 1
 exact decide_eq_decide.2 ⟨fun h'=>⟨h,h'⟩,fun h=>h.2⟩
theorem fS (w:World) (b n1:Nat) (v:Value) (i:Int) (c:Nat) (A1:Option Addr) (r:Bool) (hr:r=decide (0≤i∧i<n1)) (_h0:w.cell? ⟨b,0,none⟩=some v) (h1:w.cell? ⟨b,1,none⟩=some (.slice A1 n1 c)) :
 Calls Tryz.prog 100 #[.int .i64 i,.pointer (some ⟨b,0,none⟩)] w fun e w'=>e=.returned (.bool r)∧w'=w:=by
 have HR:=ou hr;clear hr
 go_enter Tryz.func100,Tryz.ntmps100
 go_wp2
 ·rename_i hi
  go_ret
  refine⟨?_,rfl⟩;rw [HR.out,←aMv hi];rfl
 ·rename_i hi
  go_ret
  refine⟨?_,rfl⟩;rw [HR.out,←aRk hi];rfl
def prS (V:List PLink) (k:Nat) (x y:Int):Bool:=(List.range k).any fun j=>decide (min (at_ V j).a (at_ V j).b=x∧max (at_ V j).a (at_ V j).b=y)
theorem aOk (V:List PLink):prS V 0=fun _ _=>false:=rfl
theorem aOj (V:List PLink) (k:Nat):prS V (k+1)=fun u v=>if u=min (at_ V k).a (at_ V k).b∧v=max (at_ V k).a (at_ V k).b then true else prS V k u v:=by
 funext u v
 unfold prS;rw [List.range_succ,List.any_append]
 by_cases h:u=min (at_ V k).a (at_ V k).b∧v=max (at_ V k).a (at_ V k).b
 ·rw [og h];simp [h.1,h.2]
 ·rw [oh h];have:(min (at_ V k).a (at_ V k).b=u∧max (at_ V k).a (at_ V k).b=v)=False:=by simp;intro h1 h2;exact h ⟨h1.symm,h2.symm⟩
  simp [this]
theorem aOi (V:List PLink) (k:Nat):prS V k (min (at_ V k).a (at_ V k).b) (max (at_ V k).a (at_ V k).b)=(List.range k).any fun j=>pair (at_ V k) (at_ V j):=by
 unfold prS pair
 congr 1
 funext j
 refine decide_eq_decide.2 ⟨fun h=>?_,fun h=>?_⟩ <;> omega
theorem lF {n:Nat}{V:List PLink}{k:Nat}(h:¬ (0≤(at_ V k).a∧(at_ V k).a<n)∨¬ (0≤(at_ V k).b∧(at_ V k).b<n)∨(at_ V k).a=(at_ V k).b∨(at_ V k).v<0):kP n V k=1:=by unfold kP;rw [og h]
theorem wE {n:Nat}{V:List PLink}{k:Nat}(h:¬ (¬ (0≤(at_ V k).a∧(at_ V k).a<n)∨¬ (0≤(at_ V k).b∧(at_ V k).b<n)∨(at_ V k).a=(at_ V k).b∨(at_ V k).v<0)) (r:Bool) (hr:r=prS V k (min (at_ V k).a (at_ V k).b) (max (at_ V k).a (at_ V k).b)):kP n V k=if r=true then 8 else 0:=by
 unfold kP;rw [oh h,←aOi,←hr]
theorem iZ {n:Nat}{V:List PLink}{k:Nat}{e:Int}(hz:∀j,j<k→kP n V j=0) (hk:k<V.length) (he:kP n V k=e) (h0:e≠0):fT n V=e:=jP hz he h0 hk
theorem aDn {n:Nat}{V:List PLink}(hz:∀j,j<V.length→kP n V j=0):fT n V=0:=dN hz
theorem pT {w w':World}(h:Below w.heap.size w w'):w.grownBy w' none:=⟨h.os,h.tape,h.output,h.size,fun k hk _=>h.block k hk⟩
theorem aCu (w:World) (L:List LinkC) (V:List PLink) (K:Nat) (A0 A1 A:Option Addr) (bl ol n0 d n1 d' c:Nat) (hA:0<L.length→A=some ⟨bl,ol,none⟩∧bl<w.heap.size) (hL:L.length≤64) (hn1:n1≤1000) (hV:V.length=L.length) (hK:K≤300000000)
 (hc:∀j,(h:j<L.length)→∀q u,L[j].cells[q]?=some u→w.cell? ⟨bl,ol+j*5+q,none⟩=some u)
 (hw:∀j,(h:j<L.length)→(at_ V j).a=L[j].a∧(at_ V j).b=L[j].b∧RatV w #[.bool L[j].g,.slice L[j].A L[j].n L[j].c,.slice L[j].D L[j].d L[j].e] (at_ V j).v K) :
 Calls Tryz.prog 63 #[.agg #[.slice A0 n0 d,.slice A1 n1 d',.slice A L.length c]] w fun e w'=>
  e=.returned (.int .i64 (fT n1 V))∧Below w.heap.size w w':=by
 have hmm:=@run_makeMap Tryz.prog
 go_enter Tryz.func63,Tryz.ntmps63
 go_wp2
 go_loopw [13] (fun i wr=>∃k:Nat,k≤L.length∧i=.int .i64 k∧(∀j,j<k→kP n1 V j=0)∧PSet wr (w.heap.size+1) k (prS V k)∧Below w.heap.size w wr∧
  Blk wr w.heap.size 30 #[.slice A0 n0 d,.slice A1 n1 d',.slice A L.length c]∧w.heap.size+2≤wr.heap.size)
  (fun i _=>L.length-(intOf i).toNat)
 case atStart=>exact⟨0,jt _,rfl,fun j hj=>oq,by simpa [aOk] using PSet.made (w.alloc _),((Below.refl _ _).alloc (oy _) _).alloc (by simp) _,(Blk.new _ _ _).alloc _,by simp⟩
 case round=>
  obtain⟨k,hk,rfl,hz,hS,hB,hsec,hsz⟩:=hrel
  by_cases hlt:k<L.length
  ·obtain⟨rfl,hbl⟩:=hA oq;obtain⟨l,hl⟩:∃l,l=L[k]:=⟨_,rfl⟩;have hck:=hc k hlt;have hwk:=hw k hlt;rw [←hl]at hck hwk;have cell:∀q u,l.cells[q]?=some u→wr.cell? ⟨bl,ol+k*5+q,none⟩=some u:=fun q u h=>(hB.cell hbl).trans (hck q u h);have d0:wr.cell? ⟨bl,ol+k*5,none⟩=some (.int .i64 l.a):=cell 0 _ rfl;have d1:wr.cell? ⟨bl,ol+k*5+1,none⟩=some (.int .i64 l.b):=cell 1 _ rfl;have d2:wr.cell? ⟨bl,ol+k*5+2,none⟩=some (.bool l.g):=cell 2 _ rfl;have d3:wr.cell? ⟨bl,ol+k*5+3,none⟩=some (.slice l.A l.n l.c):=cell 3 _ rfl;have d4:wr.cell? ⟨bl,ol+k*5+4,none⟩=some (.slice l.D l.d l.e):=cell 4 _ rfl;have HL:=ou hl;have HW:=ou hwk;clear hck cell hc hl hw hwk;have HR:∀W,Below w.heap.size w W→RatV W #[.bool l.g,.slice l.A l.n l.c,.slice l.D l.d l.e] (at_ V k).v K:=fun W h=>HW.out.2.2.up (Up.of_below h);have hB1:Below w.heap.size w ((wr.alloc (.cells #[.int .i64 l.a,.int .i64 l.b,.bool l.g,.slice l.A l.n l.c,.slice l.D l.d l.e] 126)).alloc (.cells #[.int .i64 (min l.a l.b),.int .i64 (max l.a l.b)] 168)):=(hB.alloc hB.size _).alloc (by simp;omega) _;have hS1:=(hS.kept (wr.grownBy_alloc (.cells #[.int .i64 l.a,.int .i64 l.b,.bool l.g,.slice l.A l.n l.c,.slice l.D l.d l.e] 126) none) (by simp)).kept ((wr.alloc (.cells #[.int .i64 l.a,.int .i64 l.b,.bool l.g,.slice l.A l.n l.c,.slice l.D l.d l.e] 126)).grownBy_alloc (.cells #[.int .i64 (min l.a l.b),.int .i64 (max l.a l.b)] 168) none) (by simp);have hP1:Blk ((wr.alloc (.cells #[.int .i64 l.a,.int .i64 l.b,.bool l.g,.slice l.A l.n l.c,.slice l.D l.d l.e] 126)).alloc (.cells #[.int .i64 (min l.a l.b),.int .i64 (max l.a l.b)] 168)) (wr.heap.size+1) 168 #[.int .i64 (min l.a l.b),.int .i64 (max l.a l.b)]:=by simpa using Blk.new (wr.alloc (.cells #[.int .i64 l.a,.int .i64 l.b,.bool l.g,.slice l.A l.n l.c,.slice l.D l.d l.e] 126)) 168 #[.int .i64 (min l.a l.b),.int .i64 (max l.a l.b)]
   have e0:((wr.alloc (.cells #[.int .i64 l.a,.int .i64 l.b,.bool l.g,.slice l.A l.n l.c,.slice l.D l.d l.e] 126)).alloc (.cells #[.int .i64 (min l.a l.b),.int .i64 (max l.a l.b)] 168)).cell? ⟨w.heap.size,0,none⟩=some (.slice A0 n0 d):=((hsec.alloc _).alloc _).cell 0;have e1:((wr.alloc (.cells #[.int .i64 l.a,.int .i64 l.b,.bool l.g,.slice l.A l.n l.c,.slice l.D l.d l.e] 126)).alloc (.cells #[.int .i64 (min l.a l.b),.int .i64 (max l.a l.b)] 168)).cell? ⟨w.heap.size,1,none⟩=some (.slice A1 n1 d'):=((hsec.alloc _).alloc _).cell 1;have hkV:k<V.length:=oq
   obtain⟨ra,hra⟩:∃r,r=decide (0≤l.a∧l.a<n1):=⟨_,rfl⟩;obtain⟨rb,hrb⟩:∃r,r=decide (0≤l.b∧l.b<n1):=⟨_,rfl⟩;obtain⟨rs,hrs⟩:∃r,r=prS V k (min l.a l.b) (max l.a l.b):=⟨_,rfl⟩;have HA:=ou hra;have HB:=ou hrb;have HS:=ou hrs;have hS1':=hS1;clear hB hS hra hrb hrs hS1;cases ra with
   | false=>
    go_wp2_with (first
     | (go_at_call_of 100 (Value.int IntKind.i64 l.a);refine (fS _ w.heap.size n1 _ l.a d' A1 false HA.out e0 e1).mono ?_;rintro e w1 ⟨rfl,rfl⟩)
     | (go_at_call_of 100 (Value.int IntKind.i64 l.b);refine (fS _ w.heap.size n1 _ l.b d' A1 rb HB.out e0 e1).mono ?_;rintro e w1 ⟨rfl,rfl⟩)
     | (go_at_call 99;refine (lI (HR _ hB1) hK).mono ?_;rintro e w1 ⟨rfl,hb1⟩;skip))
    go_ret
    exact⟨by rw [iZ hz hkV (lF (.inl (by rw [HW.out.1];exact ov HA.out.symm))) oz];rfl,hB1⟩
   | true=>
   cases rb with
   | false=>
    go_wp2_with (first
     | (go_at_call_of 100 (Value.int IntKind.i64 l.a);refine (fS _ w.heap.size n1 _ l.a d' A1 true HA.out e0 e1).mono ?_;rintro e w1 ⟨rfl,rfl⟩)
     | (go_at_call_of 100 (Value.int IntKind.i64 l.b);refine (fS _ w.heap.size n1 _ l.b d' A1 false HB.out e0 e1).mono ?_;rintro e w1 ⟨rfl,rfl⟩)
     | (go_at_call 99;refine (lI (HR _ hB1) hK).mono ?_;rintro e w1 ⟨rfl,hb1⟩;skip))
    go_ret
    exact⟨by rw [iZ hz hkV (lF (.inr (.inl (by rw [HW.out.2.1];exact ov HB.out.symm)))) oz];rfl,hB1⟩
   | true=>
   by_cases hab:l.a=l.b
   ·have hab':(l.a == l.b)=true:=by simp [hab]
    have HAB:=ou hab;clear hab
    go_wp2_with (first
     | (go_at_call_of 100 (Value.int IntKind.i64 l.a);refine (fS _ w.heap.size n1 _ l.a d' A1 true HA.out e0 e1).mono ?_;rintro e w1 ⟨rfl,rfl⟩)
     | (go_at_call_of 100 (Value.int IntKind.i64 l.b);refine (fS _ w.heap.size n1 _ l.b d' A1 true HB.out e0 e1).mono ?_;rintro e w1 ⟨rfl,rfl⟩)
     | (go_at_call 99;refine (lI (HR _ hB1) hK).mono ?_;rintro e w1 ⟨rfl,hb1⟩;skip))
    go_ret
    exact⟨by rw [iZ hz hkV (lF (.inr (.inr (.inl (by rw [HW.out.1,HW.out.2.1];exact HAB.out))))) oz];rfl,hB1⟩
   have hab':(l.a == l.b)=false:=by simp [hab]
   have HAB:=ou hab;clear hab
   by_cases hv:(at_ V k).v<0
   ·go_wp2_with (first
     | (go_at_call_of 100 (Value.int IntKind.i64 l.a);refine (fS _ w.heap.size n1 _ l.a d' A1 true HA.out e0 e1).mono ?_;rintro e w1 ⟨rfl,rfl⟩)
     | (go_at_call_of 100 (Value.int IntKind.i64 l.b);refine (fS _ w.heap.size n1 _ l.b d' A1 true HB.out e0 e1).mono ?_;rintro e w1 ⟨rfl,rfl⟩)
     | (go_at_call 99;refine (lI (HR _ hB1) hK).mono ?_;rintro e w1 ⟨rfl,hb1⟩;skip))
    go_ret
    exact⟨by rw [iZ hz hkV (lF (.inr (.inr (.inr hv)))) oz];rfl,hB1.trans (hb1.mono (by simp;omega))⟩
   have hra:=ow HA.out.symm;have hrb:=ow HB.out.symm;have hno:¬ (¬ (0≤(at_ V k).a∧(at_ V k).a<n1)∨¬ (0≤(at_ V k).b∧(at_ V k).b<n1)∨(at_ V k).a=(at_ V k).b∨(at_ V k).v<0):=by
    rw [HW.out.1,HW.out.2.1];rintro (h|h|h|h)
    ·exact h hra
    ·exact h hrb
    ·exact HAB.out h
    ·exact hv h
   have HS2:=ou (show rs=prS V k (min (at_ V k).a (at_ V k).b) (max (at_ V k).a (at_ V k).b) by rw [HW.out.1,HW.out.2.1];exact HS.out);have wa:(Lit.int .i64 (min l.a l.b)).wf=true:=lA oq oq;have wb:(Lit.int .i64 (max l.a l.b)).wf=true:=lA oq oq;clear hra hrb;cases rs with
   | true=>
    go_wp2_with (first
     | (go_at_call_of 100 (Value.int IntKind.i64 l.a);refine (fS _ w.heap.size n1 _ l.a d' A1 true HA.out e0 e1).mono ?_;rintro e w1 ⟨rfl,rfl⟩)
     | (go_at_call_of 100 (Value.int IntKind.i64 l.b);refine (fS _ w.heap.size n1 _ l.b d' A1 true HB.out e0 e1).mono ?_;rintro e w1 ⟨rfl,rfl⟩)
     | (go_at_call 99;refine (lI (HR _ hB1) hK).mono ?_;rintro e w1 ⟨rfl,hb1⟩;have p0:=(hb1.cell (p:=⟨wr.heap.size+1,0,none⟩) (by simp)).trans (hP1.cell 0);have p1:=(hb1.cell (p:=⟨wr.heap.size+1,1,none⟩) (by simp)).trans (hP1.cell 1);have lk:=(hS1'.kept (pT hb1) (by simp)).look wa wb;rw [←HS.out]at lk))
    go_ret
    exact⟨by rw [iZ hz hkV ((wE hno true HS2.out).trans rfl) oz];rfl,hB1.trans (hb1.mono (by simp;omega))⟩
   | false=>
    go_wp2_with (first
     | (go_at_call_of 100 (Value.int IntKind.i64 l.a);refine (fS _ w.heap.size n1 _ l.a d' A1 true HA.out e0 e1).mono ?_;rintro e w1 ⟨rfl,rfl⟩)
     | (go_at_call_of 100 (Value.int IntKind.i64 l.b);refine (fS _ w.heap.size n1 _ l.b d' A1 true HB.out e0 e1).mono ?_;rintro e w1 ⟨rfl,rfl⟩)
     | (go_at_call 99;refine (lI (HR _ hB1) hK).mono ?_;rintro e w1 ⟨rfl,hb1⟩;have p0:=(hb1.cell (p:=⟨wr.heap.size+1,0,none⟩) (by simp)).trans (hP1.cell 0);have p1:=(hb1.cell (p:=⟨wr.heap.size+1,1,none⟩) (by simp)).trans (hP1.cell 1);have hS2:=hS1'.kept (pT hb1) (by simp);have lk:=hS2.look wa wb;rw [←HS.out]at lk;obtain⟨w2,hrun,hS3,hg3⟩:=hS2.store (by unfold maxLen;omega) wa wb))
    refine⟨⟨k+1,oq,by simp,fun j hj=>?_,?_,?_,?_,?_⟩,?_⟩
    ·by_cases e:j=k
     ·rw [e];exact (wE hno false HS2.out).trans rfl
     ·exact hz j oq
    ·rw [aOj,HW.out.1,HW.out.2.1];exact hS3
    ·exact (hB1.trans (hb1.mono (by simp;omega))).grown hg3 (by have:=hb1.size;simp at this;omega) (fun j hj=>by injection hj with hj;omega)
    ·exact (((hsec.alloc _).alloc _).below hb1 (by simp;omega)).grown hg3 (by simp)
    ·have:=hb1.size;have:=hg3.size;simp at *
     omega
    ·simp [intOf];omega
  ·have e:k=L.length:=oq
   subst e;clear hc hA hw
   go_wp2
   go_ret
   exact⟨by rw [aDn (fun j hj=>hz j oq)];rfl,hB⟩
open Sy (Up Sees CallsG Seg RowC LookAt)
theorem aAx {P:Program}{f:FuncId}{args:Array Value}{k:World}{F:World→World→Value→Prop}{G:World→Value→Prop}
 (hF:∀w w' k' v,Sees k w→F w w' v→Up k k'→k'.heap.size=w'.heap.size→(∀g,k.heap.size≤g→k'.heap[g]?=w'.heap[g]?)→G k' v)
 (h:∀w,Sees k w→Calls P f args w fun e w'=>(∃v,e=.returned v∧F w w' v)∧Below w.heap.size w w'):CallsG P f args k G:=by
 classical
 intro w hs;refine (h w hs).mono ?_;rintro e w' ⟨⟨v,rfl,hv⟩,hb⟩
 let k':World:={ w' with heap:=w'.heap.mapIdx fun i o=>if k.heap[i]?=some Sy.dead then Sy.dead else o }
 have hk:∀(g:Nat),k'.heap[g]?=(w'.heap[g]?).map fun o=>if k.heap[g]?=some Sy.dead then Sy.dead else o:=fun g=>by
  show (w'.heap.mapIdx _)[g]?=_;rw [Array.getElem?_mapIdx]
 have hsize:k'.heap.size=w'.heap.size:=by simp [k']
 have hbel:Below k.heap.size k k':=by
  refine⟨hb.os.trans hs.os,hb.tape.trans hs.tape,hb.output.trans hs.output,by rw [hsize,←hs.size];exact hb.size,fun g hg=>?_⟩;rw [hk];have hlt:g<w.heap.size:=by rw [hs.size];exact hg
  rw [hb.block g hlt]
  by_cases hd:k.heap[g]?=some Sy.dead
  ·rw [od hlt];simp [hd]
  ·rw [od hg]at hd ⊢;have:=hs.live g _ (od hg) (fun e=>hd (by rw [e]));rw [this];simp [hd]
 refine⟨v,k',rfl,?_,hbel,hb,hF w w' k' v hs hv (Up.of_below hbel) hsize fun g hg=>?_⟩
 ·refine⟨rfl,rfl,rfl,hsize.symm,fun g o hg hd=>?_,fun g hg=>?_⟩
  ·rw [hk]at hg;cases hw:w'.heap[g]? with
   | none=>rw [hw]at hg;cases hg
   | some o'=>
    rw [hw]at hg;simp only [jj,qh]at hg;split at hg
    ·exact absurd hg.symm hd
    ·rw [hg]
  ·rw [hk]at hg;cases hw:w'.heap[g]? with
   | none=>rw [hw]at hg;cases hg
   | some o'=>
    rw [hw]at hg;simp only [jj,qh]at hg;split at hg
    ·rename_i hd;obtain⟨cs,t,fr,h1,h2⟩:=hs.dark g hd;refine⟨cs,t,fr,?_,h2⟩;rw [←hw,hb.block g (Sy.heap_lt h1)];exact h1
    ·rw [hg];exact⟨#[],0,(1,0),rfl,by simp⟩
 ·have e:k.heap[g]?=none:=qo hg;rw [hk,e];cases w'.heap[g]? <;> simp
theorem qB {α:Type}{p:Nat→α→Prop}:∀n:Nat,(∀j,j<n→∃x,p j x)→∃l:List α,l.length=n∧∀j,(h:j<l.length)→p j l[j]
 | 0,_=>⟨[],rfl,fun j h=>by cases h⟩
 | n+1,h=>by
  obtain⟨l,hl,hp⟩:=qB n fun j hj=>h j oq;obtain⟨x,hx⟩:=h n oq;refine⟨l++[x],by simp [hl],fun j hj=>?_⟩
  by_cases e:j<l.length
  ·rw [List.getElem_append_left e];exact hp j e
  ·have:j=n:=by simp [hl]at hj;omega
   subst this;rw [List.getElem_append_right oq];simpa [hl] using hx
def rX (k:World) (K:Nat) (z:LinkC×PLink):Prop:=z.1.a=z.2.a∧z.1.b=z.2.b∧RatV k #[.bool z.1.g,.slice z.1.A z.1.n z.1.c,.slice z.1.D z.1.d z.1.e] z.2.v K
section
variable {k k' w:World}{R:World→Value→Prop}{A A0 A1:Option Addr}{n n0 n1 d0 d1 c K:Nat}{L:List PLink}
theorem aJq {cs:Array Value}{q:Rat}(h:RatV k cs q K) (hs:Sees k w):RatV w cs q K:=by
 obtain⟨g,A,n,c,D,d,e,e1,h1,h2⟩:=h;exact⟨g,A,n,c,D,d,e,e1,h1.sees hs,h2⟩
theorem qF (hl:Lst k A n 5 (LinkV (NP K) k) L) (hs:Sees k w):∃(Z:List (LinkC×PLink)) (bl ol:Nat),Z.map Prod.snd=L∧n=Z.length∧(∀z∈Z,rX k K z)∧(0<n→A=some ⟨bl,ol,none⟩∧bl<w.heap.size)∧
 ∀j,(h:j<Z.length)→∀q u,Z[j].1.cells[q]?=some u→w.cell? ⟨bl,ol+j*5+q,none⟩=some u:=by
 obtain⟨hn,xs,hin,_,hv⟩:=hl;obtain⟨bl,ol,hA⟩:∃bl ol,0<n→A=some ⟨bl,ol,none⟩∧bl<w.heap.size:=by
  by_cases h0:0<n
  ·have hx:(0:Nat)<xs.size:=by rw [hv.size];omega
   obtain⟨b,o,e,hb,_⟩:=hin 0 xs[0] (od hx);exact⟨b,o,fun _=>⟨e,by rw [hs.size];exact hb⟩⟩
  ·exact⟨0,0,fun h=>absurd h h0⟩
 obtain⟨Z,hZ,hp⟩:=qB (α:=LinkC×PLink) (p:=fun j z=>z.2=at_ L j∧rX k K z∧z.1.cells.toArray=elt xs 5 j) n fun j hj=>by
  obtain⟨c0,e,g,A',m,c',D,d,e',e1,hr⟩:=Arr.el hv j hj;refine⟨(⟨(at_ L j).a,(at_ L j).b,g,A',D,m,c',d,e'⟩,at_ L j),rfl,⟨rfl,rfl,g,A',m,c',D,d,e',rfl,hr⟩,?_⟩;rw [e,e1];rfl
 refine⟨Z,bl,ol,?_,hZ.symm,fun z hz=>?_,hA,fun j h q u hu=>?_⟩
 ·refine List.ext_getElem (by simp [hZ,hn]) fun j h1 h2=>?_;rw [List.getElem_map,(hp j (by simpa using h1)).1,cH h2]
 ·obtain⟨j,hj,rfl⟩:=yz hz;exact (hp j hj).2.1
 ·have hx:=(hp j h).2.2;have hq:q<5:=by
   have:=(oc.1 hu).1;simpa [LinkC.cells] using this
  have hu':(elt xs 5 j)[q]?=some u:=by rw [←hx];simpa using hu
  rw [fJ _ _ _ _ hq (by rw [hv.size];exact ob 5 oq)]at hu';obtain⟨b,o,e,hb,hc⟩:=hin _ _ hu';have hA1:=(hA oq).1;rw [e]at hA1;injection hA1 with hA1;injection hA1 with e1 e2 _;subst e1 e2;have:=hs.cell hc;rw [kw];exact this
def nbz (Z:List (LinkC×PLink)) (i:Int):List (LinkC×PLink):=Z.flatMap fun z=>(if z.2.a=i then [z] else [])++(if z.2.b=i then [z] else [])
theorem aFy (Z:List (LinkC×PLink)) (i:Int):(nbz Z i).map Prod.snd=nbm (Z.map Prod.snd) i:=by
 unfold nbz nbm
 induction Z with
 | nil=>rfl
 | cons z Z ih=>
  rw [xl,wu,ih,zo,xl]
  congr 1
  by_cases h1:z.2.a=i <;> by_cases h2:z.2.b=i <;> simp [h1,h2]
theorem aJa {Z:List (LinkC×PLink)}(hZ:∀z∈Z,rX k K z) (i:Int):(nbz Z i).flatMap (fun z=>z.1.cells)=nbC (Z.map Prod.fst) i:=by
 unfold nbz nbC
 induction Z with
 | nil=>rfl
 | cons z Z ih=>
  obtain⟨e1,e2,_⟩:=hZ z (by simp);rw [xl,yq,ih fun z hz=>hZ z (by simp [hz]),List.map_cons,List.flatMap_cons,e1,e2]
  congr 1
  by_cases h1:z.2.a=i <;> by_cases h2:z.2.b=i <;> simp [h1,h2]
theorem aRz {Z:List (LinkC×PLink)}{i:Int}{z:LinkC×PLink}(h:z∈nbz Z i):z∈Z:=by
 unfold nbz at h;obtain⟨y,hy,hz⟩:=List.mem_flatMap.1 h;rcases qj.1 hz with hz|hz
 ·split at hz
  ·rw [qe.1 hz];exact hy
  ·cases hz
 ·split at hz
  ·rw [qe.1 hz];exact hy
  ·cases hz
theorem aHa {P:Array Value→PLink→Prop}(T:List (LinkC×PLink)) (hP:∀z∈T,P z.1.cells.toArray z.2):ArrV T.length 5 P (T.flatMap fun z=>z.1.cells).toArray (at_ (T.map Prod.snd)):=by
 have key:∀m,m≤T.length→ArrV m 5 P ((T.take m).flatMap fun z=>z.1.cells).toArray (at_ (T.map Prod.snd)):=by
  intro m
  induction m with
  | zero=>intro _;exact ArrV.empty
  | succ m ih=>
   intro hm;have h:=ih oq;have hlt:m<T.length:=oq
   have:=ArrV.push (a:=T[m].1.cells.toArray) h rfl (by rw [cH (by simpa using hlt),List.getElem_map];exact hP _ (ux hlt));rw [jm hlt,yq];simpa using this
 have:=key T.length (oy _)
 rwa [List.take_length]at this
theorem aNf {z:LinkC×PLink}(h:rX k K z):LinkV (NP K) k z.1.cells.toArray z.2:=by
 obtain⟨e1,e2,h3⟩:=h;exact⟨_,by rw [←e1,←e2];rfl,h3⟩
def NbV (N:World→Array Value→Rat→Prop) (k:World) (M:Nat) (L:List PLink):Prop:=∀j:Nat,j<1000000→∃B p q,LookAt Tryz.prog k 97 M (.int .i64 j) (.slice B p q)∧Lst k B p 5 (LinkV N k) (nbm L j)
theorem NbV.up {N:World→Array Value→Rat→Prop}{M:Nat}(hN:Num3 N) (h:NbV N k M L) (u:Up k k'):NbV N k' M L:=fun j hj=>by
 obtain⟨B,p,q,h1,h2⟩:=h j hj;exact⟨B,p,q,h1.up u,h2.up u fun _ _ h=>LinkV.up hN h u⟩
theorem aNe {z:LinkC×PLink}(h:rX k K z) (u:Up k k'):rX k' K z:=⟨h.1,h.2.1,h.2.2.up u⟩
theorem aJx {base m:Nat}{v:Value}{xs:List Value}(h:w.ownsRow base 126 5 v m xs) (hk:∀g,base≤g→k'.heap[g]?=w.heap[g]?) (hsz:k'.heap.size=w.heap.size):∃B q,v=.slice B m q∧InAt k' B xs.toArray:=by
 rcases h.2 with ⟨rfl,rfl⟩|⟨g,cap,cur,rfl,hb,hh,_,_,_,ht⟩
 ·refine⟨none,0,rfl,fun p u hp=>?_⟩;have:=h.1;have e:xs=[]:=zg (by simpa using this);subst e;simp at hp
 ·refine⟨_,cap,rfl,fun p u hp=>⟨g,0,rfl,?_,?_⟩⟩
  ·rw [hsz];exact (oi.1 hh).1
  ·have hp':xs[p]?=some u:=by simpa using hp
   rw [←ht,je]at hp';split at hp'
   ·have e:k'.heap[g]?=some (.cells cur 126 (0,0)):=(hk g hb).trans hh;rw [ql,cell_of_row k' g p cur _ _ e];simpa using hp'
   ·cases hp'
theorem zK (hl:Lst k A n 5 (LinkV (NP K) k) L) (hn:n≤64) (hw:∀z∈L,0≤z.a∧z.a<1000000∧0≤z.b∧z.b<1000000) (C:∀k' M,Up k k'→NbV (NP K) k' M L→R k' (.map (some M))) :
 Cl k 64 #[S3 A0 n0 d0 A1 n1 d1 A n c] R:=by
 intro k0 u0;replace hl:=hl.up u0 fun _ _ h=>LinkV.up (aD K) h u0;replace C:=fun k' M u=>C k' M (u0.trans u);refine aAx (F:=fun w w' v=>∃Z:List (LinkC×PLink),Z.map Prod.snd=L∧(∀z∈Z,rX k0 K z)∧∃M n,v=.map (some M)∧Grp w' Tryz.prog 3 (M+1) 126 5 M n 0 (nbC (Z.map Prod.fst))∧w.heap.size≤M) ?_ fun w hs=>?_
 ·rintro w w' k' v hs ⟨Z,rfl,hZ,M,m,rfl,hG,hM⟩ u hsz hk;refine C k' M u fun j hj=>?_;obtain⟨es,clock,hb,hall⟩:=hG.looks (t:=97) Tryz.underlying3 Tryz.underlying97 mV;obtain⟨v,p,ho,hrun⟩:=hall j (lA oq oq);have hbase:k0.heap.size≤M:=by rw [←hs.size];exact hM
  obtain⟨B,q,rfl,hin⟩:=aJx ho (fun g hg=>hk g oq) hsz;have hcells:=aJa hZ (j:Int);have hlen:=ho.1;rw [←hcells]at hlen hin;have harr:=aHa (P:=LinkV (NP K) k') (nbz Z j) fun z hz=>aNf (aNe (hZ z (aRz hz)) u);have hp:p=(nbz Z j).length:=by
   have:=harr.size;simp only [vg]at this;omega
  subst hp;refine⟨B,_,q,⟨es,clock,(hk M hbase).trans hb,hrun⟩,?_,_,hin,?_,?_⟩
  ·rw [←aFy];simp
  ·exact harr.rowC fun a v h=>LinkV.seg (aD K) h
  ·rw [←aFy];exact harr
 ·obtain⟨Z,bl,ol,rfl,rfl,hZ,hA,hc⟩:=qF hl hs
  have:=aJc w (Z.map Prod.fst) A0 A1 A bl ol n0 d0 n1 d1 c (by simpa using hA) (by simpa using hn) (fun j h q u hu=>hc j (by simpa using h) q u (by simpa using hu)) (fun z hz=>by
   obtain⟨y,hy,rfl⟩:=xm.1 hz;obtain⟨e1,e2,_⟩:=hZ y hy;obtain⟨h1,h2,h3,h4⟩:=hw y.2 (xm.2 ⟨y,hy,rfl⟩);rw [e1,e2]
   omega)
  rw [List.length_map]at this;refine this.mono ?_;rintro e w' ⟨⟨M,m,rfl,hG,hM,_⟩,hb⟩;exact⟨⟨_,rfl,Z,rfl,hZ,M,m,rfl,hG,hM⟩,hb⟩
theorem aLv (hl:Lst k A n 5 (LinkV (NP K) k) L) (hn:n≤64) (hn1:n1≤1000) (hK:K≤300000000) (C:∀k',Up k k'→R k' (.int .i64 (fT n1 L))) :
 Cl k 63 #[S3 A0 n0 d0 A1 n1 d1 A n c] R:=by
 intro k0 u0;replace hl:=hl.up u0 fun _ _ h=>LinkV.up (aD K) h u0;refine aAx (F:=fun _ _ v=>v=.int .i64 (fT n1 L)) (fun w w' k' v _ e u _ _=>by rw [e];exact C k' (u0.trans u)) fun w hs=>?_;obtain⟨Z,bl,ol,rfl,rfl,hZ,hA,hc⟩:=qF hl hs
 have:=aCu w (Z.map Prod.fst) (Z.map Prod.snd) K A0 A1 A bl ol n0 d0 n1 d1 c (by simpa using hA) (by simpa using hn) hn1 (by simp) hK (fun j h q u hu=>hc j (by simpa using h) q u (by simpa using hu)) (fun j h=>by
  have h':j<Z.length:=by simpa using h
  obtain⟨e1,e2,e3⟩:=hZ Z[j] (ux h');rw [cH (by simpa using h'),List.getElem_map,List.getElem_map]
  exact⟨e1.symm,e2.symm,aJq e3 hs⟩)
 rw [List.length_map]at this;refine this.mono ?_;rintro e w' ⟨rfl,hb⟩;exact⟨⟨_,rfl,rfl⟩,hb⟩
end
theorem eA {p:Nat→Prop}{j:Nat}(hz:∀i,i<j→p i) (h:p j):∀i,i<j+1→p i:=fun i hi=>by
 by_cases e:i=j
 ·rw [e];exact h
 ·exact hz i oq
theorem aRy (L:List PLink) (i:Int):(nbm L i).length≤2*L.length:=by
 unfold nbm
 induction L with
 | nil=>simp
 | cons z L ih=>
  rw [xl,qf,qf,vq];have h1:(if z.a=i then [z] else []:List PLink).length≤1:=by split <;> simp
  have h2:(if z.b=i then [z] else []:List PLink).length≤1:=by split <;> simp
  omega
theorem lH {L:List PLink}{i:Int}{z:PLink}(h:z∈nbm L i):z∈L∧(z.a=i∨z.b=i):=by
 unfold nbm at h;obtain⟨y,hy,hz⟩:=List.mem_flatMap.1 h;rcases qj.1 hz with hz|hz
 ·split at hz
  ·rename_i e;rw [qe.1 hz];exact⟨hy,Or.inl e⟩
  ·cases hz
 ·split at hz
  ·rename_i e;rw [qe.1 hz];exact⟨hy,Or.inr e⟩
  ·cases hz
theorem eK {s:PSec}(h:fT s.cells.length s.links=0):∀z∈s.links,(0≤z.a∧z.a<s.cells.length)∧(0≤z.b∧z.b<s.cells.length):=by
 intro z hz;obtain⟨i,hi,e⟩:=yz hz;have:=cY h i hi;rw [←e,←cH hi];unfold kP at this;split at this
 ·cases this
 ·rename_i hn;simp only [not_or,zt]at hn;exact⟨hn.1,hn.2.1⟩
section
variable {k k':World}{R:World→Value→Prop}{cs cs':Array Value}{u v:Rat}{s:PSec}{x:PState}{K T d n0 n1 n2 d0 d1 d2 n3 n4 n5 d3 d4 d5 n6 d6 n7 d7 M:Nat}{A0 A1 A2 A3 A4 A5 A6 A7:Option Addr}
theorem nF (hs:SecV (NP K) k A0 n0 A1 n1 A2 n2 s) (hK1:1≤K) (hK:K≤1000000) (C:∀k',Up k k'→R k' (.int .i64 (aF s))) :
 Cl k 26 #[S3 A0 n0 d0 A1 n1 d1 A2 n2 d2] R:=by
 intro k0 u0;have hN:=aD K;replace hs:=SecV.up hN hs u0;replace C:=fun k' u=>C k' (u0.trans u);have e0:=hs.mats.1;have e1:=hs.cells.1;have e2:=hs.links.1;have big:bW s→∀k',Up k0 k'→R k' (.int .i64 4):=fun h k' u=>by
  have:=C k' u;unfold aF at this
  rwa [og h]at this
 refine aHt ⟨rfl,fun a=>big ?_,fun a1=>⟨rfl,fun a=>big ?_,fun a2=>⟨rfl,fun a=>big ?_,fun a3=>⟨rfl,fun a=>big ?_,fun a4=>⟨rfl,fun a=>big ?_,fun a5=>⟨rfl,fun m k vs=>∃j:Nat,j+m=n0∧vs=[.int .i64 j]∧∀i,i<j→nU (at_ s.mats i)=0,⟨n0,fun k1 u1=>⟨0,oq,rfl,fun i hi=>oq⟩⟩,?_⟩⟩⟩⟩⟩⟩
 ·have:=ow a;unfold bW;omega
 ·have:=ow a;unfold bW;omega
 ·have:=ow a;unfold bW;omega
 ·have:=ow a;unfold bW;omega
 ·have:=ow a;unfold bW;omega
 replace a1:=ov a1;replace a2:=ov a2;replace a3:=ov a3;replace a4:=ov a4;replace a5:=ov a5;have hsz:¬ bW s:=by unfold bW;omega
 clear big;unfold aF at C;rw [oh hsz]at C;rintro m k1 vs u1 ⟨j,hj,rfl,hz⟩;refine⟨j,rfl,fun hlt=>?_,fun hge=>?_⟩
 ·have hlt:=aL hlt;have hs1:=SecV.up hN hs u1;obtain⟨a,_,hm,ha,hb,hr,_⟩:=hs1.mats.el (i:=j) oq oz;obtain⟨B,p,q,D,p',q',c0,c1,rfl,l0,l1,g0,g1⟩:=id hm;refine⟨ha,hb,B,p,q,D,p',q',c0,g0.seg,c1,g1.seg,hr k1 (Up.refl _),aUc hm hK1 oq fun k2 u2=>⟨_,rfl,fun f k3 u3=>?_,fun f k3 u3=>?_⟩⟩
  ·have:=C k3 ((u1.trans u2).trans u3);have e:qI s=nU (at_ s.mats j):=by unfold qI;exact jP hz rfl (dW f) oq
   rwa [og (by rw [e];exact dW f),e]at this
  ·exact⟨m-1,oq,j+1,oq,by rw [aH oq],eA hz (cO f)⟩
 have hge:=aO hge;have hM:qI s=0:=dN fun i hi=>hz i oq;rw [oh (by simp [hM])]at C;replace C:=fun k' u=>C k' (u1.trans u);replace hs:=SecV.up hN hs u1;clear hz hj hge u1;refine⟨rfl,fun m k vs=>∃j:Nat,j+m=n1∧vs=[.int .i64 j]∧∀i,i<j→sD s.mats.length (at_ s.cells i)=0,⟨n1,fun k1 u1=>⟨0,oq,rfl,fun i hi=>oq⟩⟩,?_⟩;rintro m k2 vs u2 ⟨j,hj,rfl,hz⟩;refine⟨j,rfl,fun hlt=>?_,fun hge=>?_⟩
 ·have hlt:=aL hlt;have hs1:=SecV.up hN hs u2;obtain⟨a,_,hm,ha,hb,hr,_⟩:=hs1.cells.el (i:=j) oq oz;obtain⟨c0,c1,c2,rfl,g0,g1,g2⟩:=id hm;refine⟨ha,hb,_,c0,g0.seg,c1,g1.seg,c2,g2.seg,hr k2 (Up.refl _),aQj hm oq fun k3 u3=>⟨_,rfl,fun f k4 u4=>?_,fun f k4 u4=>?_⟩⟩
  ·have:=C k4 ((u2.trans u3).trans u4);have f':sD s.mats.length (at_ s.cells j)≠0:=by rw [←e0];exact dW f
   have e:mI s=sD s.mats.length (at_ s.cells j):=jP hz rfl f' oq
   rwa [og (by rw [e];exact f'),e,←e0]at this
  ·exact⟨m-1,oq,j+1,oq,by rw [aH oq],eA hz (by rw [←e0];exact cO f)⟩
 have hge:=aO hge;have hC:mI s=0:=dN fun i hi=>hz i oq;rw [oh (by simp [hC])]at C;replace C:=fun k' u=>C k' (u2.trans u);replace hs:=SecV.up hN hs u2;clear hz hj hge u2;refine aLv hs.links oq oq oq fun k3 u3=>⟨_,rfl,fun f k4 u4=>?_,fun f=>?_⟩
 ·have:=C k4 (u3.trans u4);rw [e1]at f ⊢
  rwa [og (dW f)]at this
 have hL:fT s.cells.length s.links=0:=by rw [←e1];exact cO f
 rw [oh (by simp [hL])]at C;replace C:=fun k' u=>C k' (u3.trans u);replace hs:=SecV.up hN hs u3;have hin:=eK hL;refine zK hs.links oq (fun z hz=>⟨(hin z hz).1.1,by have:=(hin z hz).1.2;omega,(hin z hz).2.1,by have:=(hin z hz).2.2;omega⟩) fun k4 M u4 hM=>⟨M,rfl,rfl,fun m k vs=>∃j:Nat,j+m=n1∧vs=[.int .i64 j]∧∀i,i<j→qG s i=0,⟨n1,fun k1 u1=>⟨0,oq,rfl,fun i hi=>oq⟩⟩,?_⟩;replace C:=fun k' u=>C k' (u4.trans u);replace hs:=SecV.up hN hs u4;clear u4 u3 f;rintro m k5 vs u5 ⟨j,hj,rfl,hz⟩;refine⟨j,rfl,fun hlt=>?_,fun hge k6 u6=>?_⟩
 ·have hlt:=aL hlt;have hs1:=SecV.up hN hs u5;obtain⟨a,_,⟨c0,c1,c2,rfl,g0,g1,g2⟩,ha,hb,hr,_⟩:=hs1.cells.el (i:=j) oq oz;refine⟨ha,hb,_,c0,g0.seg,c1,g1.seg,c2,g2.seg,hr k5 (Up.refl _),dI g1 g2 hK1 hK1 oq oq fun k6 ds u6 hd=>⟨ds,hd.seg,rfl,?_⟩⟩;obtain⟨B,p,q,hlook,hl⟩:=NbV.up hN hM (u5.trans u6) j oq;have hp:=hl.1;have hle:=aRy s.links j;refine⟨B,p,q,hlook,rfl,fun m k vs=>∃(i:Nat) (ds:Array Value),i+m=p∧vs=[.int .i64 i,.agg ds]∧RatV k ds (((nbm s.links j).take i).foldl (fun t l=>t+l.v) ((at_ s.cells j).steam+(at_ s.cells j).air)) (2*K+1+i*(K+1)),⟨p,fun k1 u1=>⟨0,ds,oq,rfl,(hd.up u1).mono oq⟩⟩,?_⟩;rintro m' k7 vs u7 ⟨i,es,hi,rfl,he⟩;have hmul:i*(K+1)≤128*(K+1):=ob _ oq;refine⟨i,es,he.seg,rfl,fun hlt'=>?_,fun hge'=>?_⟩
  ·have hlt':=aL hlt';obtain⟨a,_,⟨c3,rfl,g3⟩,ha,hb,hr,_⟩:=(hl.up u7 fun _ _ h=>LinkV.up hN h u7).el (i:=i) oq oz;refine⟨ha,hb,_,_,c3,g3.seg,hr k7 (Up.refl _),dI he g3 oq hK1 oq oq fun k8 fs u8 hf=>⟨fs,hf.seg,rfl,fun k9 u9=>⟨m'-1,oq,i+1,fs,oq,by rw [aH oq],?_⟩⟩⟩;rw [pL oq];exact (hf.up u9).mono (by have:(i+1)*(K+1)=i*(K+1)+(K+1):=jr _ _;omega)
  ·have hge':=aO hge';rw [zm oq]at he;refine cN (((g0.up u6).up u7)) he hK1 oq oq fun k8 u8=>⟨_,rfl,fun f k9 u9=>?_,fun f k9 u9=>?_⟩
   ·have:=C k9 ((((u5.trans u6).trans u7).trans u8).trans u9);have e:qG s j=60:=by unfold qG tot;rw [og (ow f)]
    rwa [jP hz e oz oq]at this
   ·refine⟨m-1,oq,j+1,oq,by rw [aH oq],eA hz ?_⟩;unfold qG tot;rw [oh (ov f)]
 ·have hge:=aO hge;have:=C k6 (u5.trans u6)
  rwa [dN fun i hi=>hz i oq]at this
theorem xM (hs:SecV (NP K) k A0 n0 A1 n1 A2 n2 s) (h3:n3=x.temp.length) (h4:n4=x.cure.length) (h5:n5=x.spoil.length) (hK1:1≤K) (hK:K≤1000000) (C:∀k',Up k k'→R k' (.int .i64 (fZ s x))) :
 Cl k 32 #[S3 A0 n0 d0 A1 n1 d1 A2 n2 d2,S3 A3 n3 d3 A4 n4 d4 A5 n5 d5] R:=by
 intro k0 u0;have e1:=hs.cells.1;replace C:=fun k' u=>C k' (u0.trans u);unfold fZ at C;refine aLl (nF (SecV.up (aD K) hs u0) hK1 hK fun k1 u1=>⟨_,rfl,fun f k2 u2=>?_,fun f=>zV fun k2 u2=>⟨_,rfl,fun k3 u3=>?_⟩⟩)
 ·have:=C k2 (u1.trans u2)
  rwa [og (dW f)]at this
 ·have:=C k3 ((u1.trans u2).trans u3);rw [oh (by simp [cO f])]at this;have e:(if ¬ sized s x then (4:Int) else 0)=(if n3=n1∧n4=n1∧n5=n1 then 0 else 4):=by
   have:sized s x↔n3=n1∧n4=n1∧n5=n1:=by unfold sized;rw [h3,h4,h5,e1]
   by_cases h:sized s x
   ·rw [oh (by simp [h]),if_pos (this.1 h)]
   ·rw [og h,oh fun g=>h (this.2 g)]
  rwa [e]at this
theorem xO (hl:Lst k A2 n2 5 (LinkV (NP K) k) s.links) (hn:n2≤64) (hw:∀z∈s.links,0≤z.a∧z.a<1000000∧0≤z.b∧z.b<1000000) (C:∀k' M,Up k k'→NbV (NP K) k' M s.links→R k' (.agg #[.slice A0 n0 d0,.slice A1 n1 d1,.slice A2 n2 d2,.map (some M)])) :
 Cl k 33 #[S3 A0 n0 d0 A1 n1 d1 A2 n2 d2] R:=by
 intro k0 u0;have hN:=aD K;exact aQp (zK (hl.up u0 fun _ _ h=>LinkV.up hN h u0) hn hw fun k1 M u1 hM=>⟨M,rfl,fun k2 u2=>C k2 M ((u0.trans u1).trans u2) (NbV.up hN hM u2)⟩)
end
def aU (K d T:Nat):Nat:=3*T+5*K+4+d*(K+2*T+2)
def aXb (K d T:Nat):Nat→Nat
 | 0=>T
 | j+1=>aU K d (aXb K d T j)
theorem aBv {K d T:Nat}:T≤aU K d T:=by unfold aU;omega
theorem uD {s:PSec}{x:PState}{u v:Rat}:sized s (bT s x u v):=by simp [sized,bT]
theorem wV {s:PSec}{x:PState}{us vs:List Rat}(h:sized s x):∀j,sized s (oB s us vs j x)
 | 0=>h
 | _+1=>uD
theorem eO {k k':World}{A:Option Addr}{xs:Array Value}(h:Sy.RowAt k A xs) (u:Up k k'):Sy.RowAt k' A xs:=fun p v hp=>by
 obtain⟨b,e,hb,hc⟩:=h p v hp;exact⟨b,e,qk hb u.size,u.cell hc⟩
theorem fU {k:World}{A:Option Addr}{n:Nat}{P:Array Value→Rat→Prop}{l:List Rat}{xs:Array Value}(hn:n=l.length) (h:ArrV n 3 P xs (at_ l)) (hP:∀a v,P a v→Seg 3 a) (hr:Sy.RowAt k A xs):Lst k A n 3 P l:=⟨hn,h.els hP hr⟩
theorem aAy {s:PSec}(hv:aF s=0) {i:Nat}(_hi:i<s.cells.length) {z:PLink}(hz:z∈nbm s.links i):∃o:Nat,z.a+z.b-(i:Int)=o∧o<s.cells.length:=by
 obtain⟨h,e⟩:=lH hz;obtain⟨⟨h1,h2⟩,h3,h4⟩:=eK (dP hv) z h;refine⟨(z.a+z.b-(i:Int)).toNat,?_,?_⟩ <;> omega
section
variable {k k':World}{R:World→Value→Prop}{cs cs':Array Value}{u v:Rat}{s:PSec}{x:PState}{K T d n0 n1 n2 d0 d1 d2 n3 n4 n5 d3 d4 d5 n6 d6 n7 d7 M:Nat}{A0 A1 A2 A3 A4 A5 A6 A7:Option Addr}
theorem aFj (hs:SecV (NP K) k A0 n0 A1 n1 A2 n2 s) (hx:StateV (NP T) k A3 n3 A4 n4 A5 n5 x) (hM:NbV (NP K) k M s.links) (hu:RatV k cs u K) (hv:RatV k cs' v K) (hE:aF s=0) (hz:sized s x)
 (hd:∀i,i<s.cells.length→(nbm s.links (i:Nat)).length≤d) (hK1:1≤K) (hT1:1≤T) (hT:aU K d T≤300000000) (hd2:d≤128)
 (C:∀k' B0 m0 e0 B1 m1 e1 B2 m2 e2,Up k k'→StateV (NP (aU K d T)) k' B0 m0 B1 m1 B2 m2 (bT s x u v)→R k' (S3 B0 m0 e0 B1 m1 e1 B2 m2 e2)) :
 Cl k 35 #[.agg #[.slice A0 n0 d0,.slice A1 n1 d1,.slice A2 n2 d2,.map (some M)],S3 A3 n3 d3 A4 n4 d4 A5 n5 d5,.agg cs,.agg cs',.func (.func 36) #[] #[]] R:=by
 intro k0 u0;have hN:=aD K;have hNT:=aD T;replace hs:=SecV.up hN hs u0;replace hx:=StateV.up hNT hx u0;replace hM:=NbV.up hN hM u0;replace hu:=hu.up u0;replace hv:=hv.up u0;replace C:=fun k' B0 m0 e0 B1 m1 e1 B2 m2 e2 u=>C k' B0 m0 e0 B1 m1 e1 B2 m2 e2 (u0.trans u);clear u0;have e1:=hs.cells.1;obtain⟨z3,z4,z5⟩:=hz;have f3:=hx.temp.1;have f4:=hx.cure.1;have f5:=hx.spoil.1;have hn24:n1≤24:=by have:=bF hE;unfold bW at this;omega
 have hW:3*T+5*K+4≤300000000:=by unfold aU at hT;omega
 have hup:∀ {k k':World}{xs:Array Value}{j:Nat}{f:Nat→Rat},Up k k'→ArrV j 3 (NP (aU K d T) k) xs f→ArrV j 3 (NP (aU K d T) k') xs f:=fun u h=>h.mono fun _ _ h=>h.up u;have hseg:∀ {k:World},∀a v,NP (aU K d T) k a v→Seg 3 a:=fun _ _ h=>h.seg
 refine aMh hu.seg hv.seg ⟨rfl,fun m k vs=>∃(j:Nat) (B0 B1 B2:Option Addr) (e0 e1 e2:Nat) (x0 x1 x2:Array Value),j+m=n1∧vs=[.int .i64 j,.tuple #[.slice B0 j e0,.agg x0],.tuple #[.slice B1 j e1,.agg x1],.tuple #[.slice B2 j e2,.agg x2]]∧
  ArrV j 3 (NP (aU K d T) k) x0 (at_ (bT s x u v).temp)∧ArrV j 3 (NP (aU K d T) k) x1 (at_ (bT s x u v).cure)∧ArrV j 3 (NP (aU K d T) k) x2 (at_ (bT s x u v).spoil),
  ⟨n1,fun k1 u1=>⟨0,_,_,_,_,_,_,_,_,_,oq,rfl,ArrV.empty,ArrV.empty,ArrV.empty⟩⟩,?_⟩
 rintro m k1 vs u1 ⟨j,B0,B1,B2,g0,g1,g2,x0,x1,x2,hj,rfl,h0,h1,h2⟩;refine⟨j,B0,j,g0,x0,h0.rowC hseg,B1,j,g1,x1,h1.rowC hseg,B2,j,g2,x2,h2.rowC hseg,rfl,fun hlt=>?_,fun hge k2 u2 r0 k3 u3 r1 k4 u4 r2 k5 u5=>?_⟩
 ·have hlt:=aL hlt;have hjn:j<s.cells.length:=oq
  replace hs:=SecV.up hN hs u1;replace hx:=StateV.up hNT hx u1;replace hM:=NbV.up hN hM u1;replace hu:=hu.up u1;replace hv:=hv.up u1;replace C:=fun k' B0 m0 e0 B1 m1 e1 B2 m2 e2 u=>C k' B0 m0 e0 B1 m1 e1 B2 m2 e2 (u1.trans u);obtain⟨a,_,⟨c0,c1,c2,rfl,q0,q1,q2⟩,ha,hb,hr,_⟩:=hs.cells.el (i:=j) hjn oz;obtain⟨t,_,ht,ta,tb,tr,_⟩:=hx.temp.el (i:=j) oq oz;obtain⟨hm0,hm1,_⟩:=gD hE hjn;have tT1:1≤K+T+1:=oq
  refine⟨ha,hb,_,c0,q0.seg,c1,q1.seg,c2,q2.seg,hr k1 (Up.refl _),ta,tb,t,ht.seg,tr k1 (Up.refl _),?_⟩;refine kE hu ht hK1 hT1 oq oq fun k2 y2 u2 w2=>⟨y2,w2.seg,rfl,?_⟩;refine jI (q1.up u2) w2 hK1 oq oq oq fun k4 y4 u4 w4=>⟨y4,w4.seg,rfl,?_⟩;refine kE ((hv.up u2).up u4) ((ht.up u2).up u4) hK1 hT1 oq oq fun k6 y6 u6 w6=>⟨y6,w6.seg,rfl,?_⟩;refine jI (((q2.up u2).up u4).up u6) w6 hK1 oq oq oq fun k8 y8 u8 w8=>⟨y8,w8.seg,rfl,?_⟩;refine dI ((w4.up u6).up u8) w8 oq oq oq oq fun k10 y10 u10 w10=>⟨y10,w10.seg,rfl,?_⟩;have v10:=(((u2.trans u4).trans u6).trans u8).trans u10;replace hs:=SecV.up hN hs v10;replace hx:=StateV.up hNT hx v10;replace hM:=NbV.up hN hM v10;replace C:=fun k' B0 m0 e0 B1 m1 e1 B2 m2 e2 u=>C k' B0 m0 e0 B1 m1 e1 B2 m2 e2 (v10.trans u);replace ht:=ht.up v10;replace q0:=q0.up v10;replace h0:=hup v10 h0;replace h1:=hup v10 h1;replace h2:=hup v10 h2;clear v10 u2 u4 u6 u8 u10 w2 w4 w6 w8 q1 q2 hr tr hu hv;obtain⟨B,p,q,hlook,hl⟩:=hM j oq;have hp:=hl.1;have hpd:=hd j hjn
  refine⟨B,p,q,hlook,rfl,fun m k vs=>∃(i:Nat) (ds:Array Value),i+m=p∧vs=[.int .i64 i,.agg ds]∧
   RatV k ds (((nbm s.links j).take i).foldl (fun t l=>t+l.v*(at_ x.temp (l.a+l.b-(j:Int)).toNat-at_ x.temp j)) ((at_ s.cells j).steam*(u-at_ x.temp j)+(at_ s.cells j).air*(v-at_ x.temp j))) (4*K+2*T+3+i*(K+2*T+2)),
   ⟨p,fun k1 u1=>⟨0,y10,oq,rfl,(w10.up u1).mono oq⟩⟩,?_⟩
  rintro m' k11 vs u11 ⟨i,es,hi,rfl,he⟩;have hmul:i*(K+2*T+2)≤d*(K+2*T+2):=ob _ oq;have hW2:3*T+5*K+4+i*(K+2*T+2)≤300000000:=by unfold aU at hT;omega
  refine⟨i,es,he.seg,rfl,fun hlt'=>?_,fun hge'=>?_⟩
  ·have hlt':=aL hlt';obtain⟨a,_,hlk,ha,hb,hr,_⟩:=(hl.up u11 fun _ _ h=>LinkV.up hN h u11).el (i:=i) oq oz;obtain⟨c3,rfl,g3⟩:=id hlk;have hmem:at_ (nbm s.links j) i∈nbm s.links j:=aLd oq;obtain⟨o,eo,ho⟩:=aAy hE hjn hmem;obtain⟨⟨l1,l2⟩,l3,l4⟩:=eK (dP hE) _ (lH hmem).1;refine⟨ha,hb,_,_,c3,g3.seg,hr k11 (Up.refl _),zN hlk l1 oq l3 oq oq fun k13 u13=>⟨_,rfl,?_⟩⟩;rw [eo];obtain⟨t',_,ht',ta',tb',tr',_⟩:=hx.temp.el (i:=o) oq oz;refine⟨ta',tb',t',ht'.seg,tr' k13 (u11.trans u13),?_⟩;refine kE ((ht'.up u11).up u13) ((ht.up u11).up u13) hT1 hT1 oq oq fun k15 y15 u15 w15=>⟨y15,w15.seg,rfl,?_⟩;refine jI ((g3.up u13).up u15) w15 hK1 oq oq oq fun k17 y17 u17 w17=>⟨y17,w17.seg,rfl,?_⟩;have hW3:4*K+2*T+3+i*(K+2*T+2)≤300000000:=oq
   refine dI (((he.up u13).up u15).up u17) w17 oq oq hW3 oq fun k19 y19 u19 w19=>⟨y19,w19.seg,rfl,fun k20 u20=>⟨m'-1,oq,i+1,y19,oq,by rw [aH oq],?_⟩⟩;rw [pL oq,eo,xq];exact (w19.up u20).mono (by have:(i+1)*(K+2*T+2)=i*(K+2*T+2)+(K+2*T+2):=jr _ _;omega)
  ·have hge':=aO hge';rw [zm oq]at he;have hflow:RatV k11 es (flow s x u v j) (4*K+2*T+3+i*(K+2*T+2)):=he;clear he hlook hl;replace hs:=SecV.up hN hs u11;replace hx:=StateV.up hNT hx u11;replace C:=fun k' B0 m0 e0 B1 m1 e1 B2 m2 e2 u=>C k' B0 m0 e0 B1 m1 e1 B2 m2 e2 (u11.trans u);replace ht:=ht.up u11;replace q0:=q0.up u11;replace h0:=hup u11 h0;replace h1:=hup u11 h1;replace h2:=hup u11 h2;have hmi:(at_ s.cells j).m=(((at_ s.cells j).m.toNat:Nat):Int):=oq
   obtain⟨a,_,⟨D,p1,r1,F,p2,r2,c4,c5,rfl,l0,l1,s0,s1⟩,ha',hb',hr',_⟩:=hs.mats.el (i:=(at_ s.cells j).m.toNat) oq oz;obtain⟨hr1,hr2⟩:=aNx hE (i:=(at_ s.cells j).m.toNat) oq;rw [←hmi]at hb' hr';refine⟨ha',hb',D,p1,r1,F,p2,r2,c4,s0.seg,c5,s1.seg,hr' k11 (Up.refl _),?_⟩;refine xQ hflow q0 oq hK1 oq oq fun k22 y22 u22 w22=>⟨y22,w22.seg,rfl,?_⟩;refine dI (ht.up u22) w22 hT1 oq oq oq fun k24 y24 u24 w24=>⟨y24,w24.seg,rfl,?_⟩;refine aQw w24 fun k26 u26=>⟨y24,w24.seg,rfl,by simp [w24.seg.1],oz,⟨by simp;omega,by simp;omega⟩,?_⟩;rintro B0' _ g0' _ rfl rfl _;have v26:=(u22.trans u24).trans u26;have w24':=w24.up u26;replace ht:=ht.up v26;replace l0:=bJ hN l0 v26;replace l1:=bJ hN l1 v26;replace hx:=StateV.up hNT hx v26;replace C:=fun k' B0 m0 e0 B1 m1 e1 B2 m2 e2 u=>C k' B0 m0 e0 B1 m1 e1 B2 m2 e2 (v26.trans u);replace h0:=hup v26 h0;replace h1:=hup v26 h1;replace h2:=hup v26 h2;clear v26 u22 u24 u26 w22 w24 hflow;obtain⟨t3,_,ht3,ta3,tb3,tr3,_⟩:=hx.cure.el (i:=j) oq oz;obtain⟨t4,_,ht4,ta4,tb4,tr4,_⟩:=hx.spoil.el (i:=j) oq oz;refine⟨ta3,tb3,t3,ht3.seg,tr3 k26 (Up.refl _),?_⟩;refine nE l0 ht hT1 oq oq (by rw [l0.1];have:=rates16 hr1;omega) fun k28 y28 u28 w28=>⟨y28,w28.seg,rfl,?_⟩;refine dI (ht3.up u28) w28 hT1 hK1 oq oq fun k30 y30 u30 w30=>⟨y30,w30.seg,rfl,by simp [w30.seg.1],oz,⟨by simp;omega,by simp;omega⟩,?_⟩;rintro B1' _ g1' _ rfl rfl _;refine⟨ta4,tb4,t4,ht4.seg,tr4 k30 (u28.trans u30),?_⟩;refine nE (bJ hN (bJ hN l1 u28) u30) ((ht.up u28).up u30) hT1 oq oq (by rw [l1.1];have:=rates16 hr2;omega) fun k32 y32 u32 w32=>⟨y32,w32.seg,rfl,?_⟩;refine dI (((ht4.up u28).up u30).up u32) w32 hT1 hK1 oq oq fun k34 y34 u34 w34=>⟨y34,w34.seg,rfl,by simp [w34.seg.1],oz,⟨by simp;omega,by simp;omega⟩,?_⟩;rintro B2' _ g2' _ rfl rfl _ k35 u35;have v34:=((u28.trans u30).trans u32).trans u34;have hpe:i=d∨i≤d:=Or.inr oq;have hi2:i*(K+2*T+2)≤d*(K+2*T+2):=hmul;refine⟨m-1,oq,j+1,B0',B1',B2',g0',g1',g2',_,_,_,oq,by rw [aH oq];rfl,?_,?_,?_⟩
   ·rw [oa];refine ArrV.push (hup (v34.trans u35) h0) w24'.seg.1 ?_;rw [show at_ (bT s x u v).temp j=fQ s x u v j from aM hjn];exact ((w24'.up v34).up u35).mono (by unfold aU;omega)
   ·rw [oa];refine ArrV.push (hup (v34.trans u35) h1) w30.seg.1 ?_;rw [show at_ (bT s x u v).cure j=pY s x j from aM hjn];exact (((w30.up u32).up u34).up u35).mono (by unfold aU;omega)
   ·rw [oa];refine ArrV.push (hup (v34.trans u35) h2) w34.seg.1 ?_;rw [show at_ (bT s x u v).spoil j=kY s x j from aM hjn];exact (w34.up u35).mono (by unfold aU;omega)
 ·have hge:=aO hge;have ej:j=n1:=oq
  refine C k5 _ _ _ _ _ _ _ _ _ ((((u1.trans u2).trans u3).trans u4).trans u5) ⟨?_,?_,?_⟩
  ·exact fU (by simp [bT];omega) (hup (((u2.trans u3).trans u4).trans u5) h0) hseg (eO r0 ((u3.trans u4).trans u5))
  ·exact fU (by simp [bT];omega) (hup (((u2.trans u3).trans u4).trans u5) h1) hseg (eO r1 (u4.trans u5))
  ·exact fU (by simp [bT];omega) (hup (((u2.trans u3).trans u4).trans u5) h2) hseg (eO r2 u5)
end
def rW (w w':World) (n s:Nat) (e:TypeId) (xs:List Value) (v:Value):Prop:=∃B q,v=.slice B n q∧w'.ownsRow w.heap.size e s v n xs
theorem oW {w:World}{n s:Nat}{xs:List Value}(hl:xs.length=n*s) (hs:0<s) (hc:∀(j:Nat) u,xs[j]?=some u→∃b o,(none:Option Addr)=some ⟨b,o,none⟩∧b<w.heap.size∧w.cell? ⟨b,o+j,none⟩=some u):n=0∧xs=[]:=by
 cases xs with
 | nil=>
  refine⟨?_,rfl⟩;rcases qi n with h|h
  ·exact h
  ·have:=kf h hs;simp at hl;omega
 | cons x xs=>obtain⟨b,o,e,_⟩:=hc 0 x rfl;cases e
theorem vK {w w':World}{n s:Nat}{e:TypeId}{xs:List Value}{v:Value}(h:w'.ownsRow w.heap.size e s v n xs):rW w w' n s e xs v:=by
 rcases id h.2 with ⟨rfl,rfl⟩|⟨g,cap,cur,rfl,_⟩
 ·exact⟨none,0,rfl,h⟩
 ·exact⟨_,cap,rfl,h⟩
theorem aMt:(Tryz.prog.info? 40).map (fun i=>(i.zero,i.size,i.bytes))=some (some (.agg #[.bool false,.slice none 0 0,.slice none 0 0]),3,56):=by kernel_rfl
theorem oX (w:World) (A:Option Addr) (n c:Nat) (xs:List Value) (hl:xs.length=n*3) (hx:∀u∈xs,u.oneCell'=true) (hc:∀(j:Nat) u,xs[j]?=some u→∃b o,A=some ⟨b,o,none⟩∧b<w.heap.size∧w.cell? ⟨b,o+j,none⟩=some u) (hn:n≤1000000) :
 Calls Tryz.prog 68 #[.slice A n c] w fun e w'=>(∃v,e=.returned v∧rW w w' n 3 40 xs v)∧Below w.heap.size w w':=by
 have qT:∀(w:World) (a:Option Addr) (l c:Nat),(binOp .eql 49 (.slice a l c) (.slice none 0 0)).run Tryz.prog w=.ok (.bool a.isNone) w:=fun w a l c=>Lib.run_eql_slice_nil w _ _ a l c 0 0 Tryz.underlying49;obtain⟨i0,hi,hz0,hz1,hz2⟩:=info_parts aMt;cases A with
 | none=>
  obtain⟨rfl,rfl⟩:=oW hl oz hc
  go_enter Tryz.func68,Tryz.ntmps68
  go_wp2
  go_ret
  exact⟨⟨_,rfl,none,0,rfl,World.ownsRow_nil _ _ _ _⟩,Below.refl _ _⟩
 | some ad=>
  have hnews:∀j u,xs[j]?=some u→(w.alloc (.cells #[] 40)).cell? (ad.add j)=some u:=fun j u hu=>by
   obtain⟨b,o,e,hb,h⟩:=hc j u hu;injection e with e;subst e;have hadd:(⟨b,o,none⟩:Addr).add j=⟨b,o+j,none⟩:=by unfold Addr.add;split <;> simp_all
   rw [hadd];exact (((Below.refl _ w).alloc (oy _) _).cell hb).trans h
  clear hc
  go_enter Tryz.func68,Tryz.ntmps68
  go_wp2_with (at_builtin;refine wpList_append_own _ rfl (.tmp 5) (.tmp 6) 49 rfl w.heap.size 40 i0 _ 3 56 Tryz.underlying49 hi hz0 hz1 hz2 rfl oz _ 0 [] rfl (World.ownsRow_made w #[] 0 (oy _) (jt _) (by simp)) ad n c xs rfl hl hnews hx (by unfold maxLen;omega) oq (by simp) ?_;intro v' w1 hown hgrow _)
  go_wp2
  go_ret
  rw [ql,vk]at hown;exact⟨⟨_,rfl,vK hown⟩,((Below.refl _ w).alloc (oy _) _).grown hgrow (by simp) (fun k hk=>by have h2:some w.heap.size=some k:=hk;injection h2 with h2;omega)⟩
section
variable {k k' w:World}{R:World→Value→Prop}{A:Option Addr}{n c s:Nat}{e:TypeId}
theorem aEg {base m:Nat}{v:Value}{xs:List Value}(h:w.ownsRow base e s v m xs) (_hs:0<s) (hk:∀g,base≤g→k'.heap[g]?=w.heap[g]?) (hsz:k'.heap.size=w.heap.size):∃B q,v=.slice B m q∧InAt k' B xs.toArray:=by
 rcases h.2 with ⟨rfl,rfl⟩|⟨g,cap,cur,rfl,hb,hh,_,_,_,ht⟩
 ·refine⟨none,0,rfl,fun p u hp=>?_⟩;have:=h.1;have e:xs=[]:=zg (by simpa using this);subst e;simp at hp
 ·refine⟨_,cap,rfl,fun p u hp=>⟨g,0,rfl,?_,?_⟩⟩
  ·rw [hsz];exact (oi.1 hh).1
  ·have hp':xs[p]?=some u:=by simpa using hp
   rw [←ht,je]at hp';split at hp'
   ·have e:k'.heap[g]?=some (.cells cur e (0,0)):=(hk g hb).trans hh;rw [ql,cell_of_row k' g p cur _ _ e];simpa using hp'
   ·cases hp'
theorem aOs {xs:Array Value}(h:RowC xs):∀u∈xs.toList,u.oneCell'=true:=fun u hu=>by
 have:=(h u hu).1;cases u <;> first|rfl|cases this
theorem nD {α:Type}[Inhabited α] {f:FuncId}{P:World→Array Value→α→Prop}{l:List α}(hP:∀k k' a v,Up k k'→P k a v→P k' a v) (hs:0<s)
 (hf:∀(w:World) (A:Option Addr) (n c:Nat) (xs:List Value) (_:xs.length=n*s) (_:∀u∈xs,u.oneCell'=true) (_:∀(j:Nat) u,xs[j]?=some u→∃b o,A=some ⟨b,o,none⟩∧b<w.heap.size∧w.cell? ⟨b,o+j,none⟩=some u) (_:n≤1000000),Calls Tryz.prog f #[.slice A n c] w fun e' w'=>(∃v,e'=.returned v∧rW w w' n s e xs v)∧Below w.heap.size w w')
 (hl:Lst k A n s (P k) l) (hn:n≤1000000) (C:∀k' B q,Up k k'→Lst k' B n s (P k') l→R k' (.slice B n q)):∀k0,Up k k0→CallsG Tryz.prog f #[.slice A n c] k0 R:=by
 intro k0 u0;obtain⟨hnl,xs,hin,hrc,hv⟩:=hl.up u0 fun a v h=>hP _ _ a v u0 h;refine aAx (F:=fun w w' v=>rW w w' n s e xs.toList v) ?_ fun w hw=>?_
 ·rintro w w' k' v hw ⟨B,q,rfl,ho⟩ u hsz hk;obtain⟨B',q',e1,hin'⟩:=aEg ho hs (fun g hg=>hk g (by rw [←hw.size];exact hg)) hsz;injection e1 with e1 e2 e3;subst e1;refine C k' B q (u0.trans u) ⟨hnl,xs,?_,hrc,hv.mono fun a v h=>hP _ _ a v u h⟩
  rwa [zv]at hin'
 ·refine (hf w A n c xs.toList (by rw [zq];exact hv.size) (aOs hrc) (fun j u hu=>?_) hn).mono fun e' w' h=>h;obtain⟨b,o,e1,hb,hc⟩:=hin j u (by simpa using hu);exact⟨b,o,e1,by rw [hw.size];exact hb,hw.cell hc⟩
end
def aEe (e:Int) (x:PState):PState:=if e≠0 then ⟨[],[],[]⟩ else x
def aXm (s:PSec) (x:PState) (us vs:List Rat):Int:=if fZ s x≠0 then fZ s x else if us.length≠vs.length∨2000<us.length then 4 else 0
def aQ (s:PSec) (t:Rat):PState:=⟨List.replicate s.cells.length t,List.replicate s.cells.length 0,List.replicate s.cells.length 0⟩
def aXg (s:PSec) (x:PState):Rat:=if fZ s x≠0 then 0 else aTh s x s.cells.length
theorem bQ {n i:Nat}{q:Rat}(h:i<n):at_ (List.replicate n q) i=q:=by rw [cH (by simpa using h)];simp
theorem wW {N:World→Array Value→Rat→Prop}{k:World}:StateV N k none 0 none 0 none 0 ⟨[],[],[]⟩:=⟨.nil,.nil,.nil⟩
theorem StateV.mono {N N':World→Array Value→Rat→Prop}{k:World}{A B C:Option Addr}{n n' n'':Nat}{x:PState}(h:StateV N k A n B n' C n'' x) (hN:∀cs q,N k cs q→N' k cs q):StateV N' k A n B n' C n'' x:=⟨h.temp.mono hN,h.cure.mono hN,h.spoil.mono hN⟩
theorem xL {s:PSec}{x:PState}(h:fZ s x=0):aF s=0∧sized s x:=by
 unfold fZ at h
 by_cases h1:aF s=0
 ·refine⟨h1,wv fun h2=>?_⟩;rw [oh (by simp [h1]),if_pos h2]at h;cases h
 ·rw [og h1]at h;exact absurd h h1
section
variable {k k':World}{R:World→Value→Prop}{cs cs':Array Value}{u v t:Rat}{us vs:List Rat}{s:PSec}{x:PState}{K T d n0 n1 n2 d0 d1 d2 n3 n4 n5 d3 d4 d5 n6 d6 n7 d7 M:Nat}{A0 A1 A2 A3 A4 A5 A6 A7:Option Addr}
theorem oR (hx:StateV (NP T) k A3 n3 A4 n4 A5 n5 x) (h3:n3≤1000000) (h4:n4≤1000000) (h5:n5≤1000000) (C:∀k' B0 e0 B1 e1 B2 e2,Up k k'→StateV (NP T) k' B0 n3 B1 n4 B2 n5 x→R k' (S3 B0 n3 e0 B1 n4 e1 B2 n5 e2)) :
 Cl k 34 #[S3 A3 n3 d3 A4 n4 d4 A5 n5 d5] R:=by
 intro k0 u0;have hP:∀(k k':World) a (v:Rat),Up k k'→NP T k a v→NP T k' a v:=fun _ _ _ _ u h=>h.up u;have hx0:=StateV.up (aD T) hx u0;refine aCo (nD hP oz oX hx0.temp h3 fun k1 B0 q0 u1 g0=>⟨_,_,_,rfl,?_⟩);have hx1:=StateV.up (aD T) hx0 u1;refine nD hP oz oX hx1.cure h4 fun k2 B1 q1 u2 g1=>⟨_,_,_,rfl,?_⟩;have hx2:=StateV.up (aD T) hx1 u2;refine nD hP oz oX hx2.spoil h5 fun k3 B2 q2 u3 g2=>⟨_,_,_,rfl,fun k4 u4=>?_⟩;refine C k4 B0 q0 B1 q1 B2 q2 ((((u0.trans u1).trans u2).trans u3).trans u4) ⟨?_,?_,?_⟩
 ·exact g0.up (((u2.trans u3).trans u4)) fun _ _ h=>h.up ((u2.trans u3).trans u4)
 ·exact g1.up (u3.trans u4) fun _ _ h=>h.up (u3.trans u4)
 ·exact g2.up u4 fun _ _ h=>h.up u4
theorem aGy (hs:SecV (NP K) k A0 n0 A1 n1 A2 n2 s) (hx:StateV (NP T) k A3 n3 A4 n4 A5 n5 x) (hu:RatV k cs u K) (hv:RatV k cs' v K)
 (hd:aF s=0→∀i,i<s.cells.length→(nbm s.links (i:Nat)).length≤d) (hK1:1≤K) (hT1:1≤T) (hK:K≤1000000) (hT:aU K d T≤300000000) (hd2:d≤128)
 (C:∀k' B0 m0 e0 B1 m1 e1 B2 m2 e2,Up k k'→StateV (NP (aU K d T)) k' B0 m0 B1 m1 B2 m2 (aEe (fZ s x) (bT s x u v))→R k' (.tuple #[S3 B0 m0 e0 B1 m1 e1 B2 m2 e2,.int .i64 (fZ s x)])) :
 Cl k 23 #[S3 A0 n0 d0 A1 n1 d1 A2 n2 d2,S3 A3 n3 d3 A4 n4 d4 A5 n5 d5,.agg cs,.agg cs'] R:=by
 intro k0 u0;have hN:=aD K;replace hs:=SecV.up hN hs u0;replace hx:=StateV.up (aD T) hx u0;replace hu:=hu.up u0;replace hv:=hv.up u0;replace C:=fun k' B0 m0 e0 B1 m1 e1 B2 m2 e2 u=>C k' B0 m0 e0 B1 m1 e1 B2 m2 e2 (u0.trans u);refine aCq hu.seg hv.seg (xM hs hx.temp.1 hx.cure.1 hx.spoil.1 hK1 hK fun k1 u1=>⟨_,rfl,fun f k2 u2=>?_,fun f=>?_⟩)
 ·have:=C k2 _ _ 0 _ _ 0 _ _ 0 (u1.trans u2) (by unfold aEe;rw [og (dW f)];exact wW);exact this
 ·have f:=cO f;obtain⟨hE,hz⟩:=xL f;replace hs:=SecV.up hN hs u1
  refine xO hs.links (by have:=bF hE;unfold bW at this;have:=hs.links.1;omega) (fun z hz=>by
   obtain⟨h1,h2⟩:=eK (dP hE) z hz
   have:=bF hE;unfold bW at this;omega) fun k4 M u4 hM=>⟨_,_,_,_,_,_,_,_,_,_,rfl,?_⟩
  refine aFj (SecV.up hN hs u4) (StateV.up (aD T) (StateV.up (aD T) hx u1) u4) hM ((hu.up u1).up u4) ((hv.up u1).up u4) hE hz (hd hE) hK1 hT1 hT hd2 fun k6 B0 m0 e0 B1 m1 e1 B2 m2 e2 u6 hr=>⟨_,_,_,_,_,_,_,_,_,rfl,fun k7 u7=>?_⟩;have:=C k7 B0 m0 e0 B1 m1 e1 B2 m2 e2 (((u1.trans u4).trans u6).trans u7) (by unfold aEe;rw [oh (by simp [f])];exact StateV.up (aD _) hr u7)
  rwa [f]at this
theorem sJ (hn:n1=s.cells.length) (hn2:n1≤1000000) (ht:RatV k cs t K) (C:∀k' B0 m0 e0 B1 m1 e1 B2 m2 e2,Up k k'→StateV (NP K) k' B0 m0 B1 m1 B2 m2 (aQ s t)→R k' (S3 B0 m0 e0 B1 m1 e1 B2 m2 e2)) :
 Cl k 28 #[S3 A0 n0 d0 A1 n1 d1 A2 n2 d2,.agg cs] R:=by
 intro k0 u0;replace ht:=ht.up u0;replace C:=fun k' B0 m0 e0 B1 m1 e1 B2 m2 e2 u=>C k' B0 m0 e0 B1 m1 e1 B2 m2 e2 (u0.trans u);have hup:∀ {k k':World}{xs:Array Value}{j:Nat}{f:Nat→Rat},Up k k'→ArrV j 3 (NP K k) xs f→ArrV j 3 (NP K k') xs f:=fun u h=>h.mono fun _ _ h=>h.up u;have hseg:∀ {k:World},∀a v,NP K k a v→Seg 3 a:=fun _ _ h=>h.seg
 refine aHo ht.seg ⟨rfl,fun m k vs=>∃(j:Nat) (B0 B1 B2:Option Addr) (e0 e1 e2:Nat) (x0 x1 x2:Array Value),j+m=n1∧vs=[.int .i64 j,.tuple #[.slice B0 j e0,.agg x0],.tuple #[.slice B1 j e1,.agg x1],.tuple #[.slice B2 j e2,.agg x2]]∧
  ArrV j 3 (NP K k) x0 (at_ (aQ s t).temp)∧ArrV j 3 (NP K k) x1 (at_ (aQ s t).cure)∧ArrV j 3 (NP K k) x2 (at_ (aQ s t).spoil),
  ⟨n1,fun k1 u1=>⟨0,_,_,_,_,_,_,_,_,_,oq,rfl,ArrV.empty,ArrV.empty,ArrV.empty⟩⟩,?_⟩
 rintro m k1 vs u1 ⟨j,B0,B1,B2,g0,g1,g2,x0,x1,x2,hj,rfl,h0,h1,h2⟩;refine⟨j,B0,j,g0,x0,h0.rowC hseg,B1,j,g1,x1,h1.rowC hseg,B2,j,g2,x2,h2.rowC hseg,rfl,fun hlt=>?_,fun hge k2 u2 r0 k3 u3 r1 k4 u4 r2 k5 u5=>?_⟩
 ·have hlt:=aL hlt;have hjn:j<s.cells.length:=oq
  refine⟨by simp [ht.seg.1],oz,⟨by simp;omega,by simp;omega⟩,?_⟩;rintro B0' _ g0' _ rfl rfl _;refine⟨oz,oz,⟨by simp;omega,by simp;omega⟩,?_⟩;rintro B1' _ g1' _ rfl rfl _;refine⟨oz,oz,⟨by simp;omega,by simp;omega⟩,?_⟩;rintro B2' _ g2' _ rfl rfl _ k3 u3;refine⟨m-1,oq,j+1,B0',B1',B2',g0',g1',g2',_,_,_,oq,by rw [aH oq];rfl,?_,?_,?_⟩
  ·rw [oa];exact ArrV.push (hup u3 h0) ht.seg.1 (by show NP K k3 cs (at_ (List.replicate _ t) j);rw [bQ hjn];exact (ht.up u1).up u3)
  ·exact ArrV.push (a:=#[.bool false,.slice none 0 0,.slice none 0 0]) (hup u3 h1) rfl (by show NP K k3 _ (at_ (List.replicate _ 0) j);rw [bQ hjn];exact nZ K)
  ·exact ArrV.push (a:=#[.bool false,.slice none 0 0,.slice none 0 0]) (hup u3 h2) rfl (by show NP K k3 _ (at_ (List.replicate _ 0) j);rw [bQ hjn];exact nZ K)
 ·have hge:=aO hge;refine C k5 _ _ _ _ _ _ _ _ _ ((((u1.trans u2).trans u3).trans u4).trans u5) ⟨?_,?_,?_⟩
  ·exact fU (by simp [aQ];omega) (hup (((u2.trans u3).trans u4).trans u5) h0) hseg (eO r0 ((u3.trans u4).trans u5))
  ·exact fU (by simp [aQ];omega) (hup (((u2.trans u3).trans u4).trans u5) h1) hseg (eO r1 (u4.trans u5))
  ·exact fU (by simp [aQ];omega) (hup (((u2.trans u3).trans u4).trans u5) h2) hseg (eO r2 u5)
end
