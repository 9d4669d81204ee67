/- Several texts in one. (Printed by prep.py.) -/
import Derived.Test.YtlejfhljdmbcmaaGreatMwMB
namespace Go.Proofs.YtlejfhljdmbcmaaGreat
set_option maxHeartbeats 4000000
open Go.RowKit
open Sy (Seg Up RowAt ReadAt ReadIn cellAt flat RowC)
section
variable {α:Type}{k k':World}{A:Option Addr}{n s i j m p:Nat}{P Q:Array Value→α→Prop}{xs cs:Array Value}{f g:Nat→α}{x:Value}
def InAt (k:World) (A:Option Addr) (xs:Array Value):Prop:=∀(p:Nat) u,xs[p]?=some u→∃b o,A=some ⟨b,o,none⟩∧b<k.heap.size∧k.cell? ⟨b,o+p,none⟩=some u
theorem InAt.up (h:InAt k A xs) (u:Up k k'):InAt k' A xs:=fun p v hp=>by
 obtain⟨b,o,e,hb,hc⟩:=h p v hp;exact⟨b,o,e,qk hb u.size,u.cell hc⟩
theorem InAt.of (h:RowAt k A xs):InAt k A xs:=fun p v hp=>by
 obtain⟨b,e,hb,hc⟩:=h p v hp;exact⟨b,0,e,hb,by rw [qe];exact hc⟩
theorem yM {u:Value}(h:u.scalar=true):flat (some u)=some u:=by
 cases u <;> first|rfl|cases h
theorem InAt.at (h:InAt k A xs) (hc:RowC xs) {u:Value}(hx:xs[p]?=some u):cellAt k.cell? A p=some u:=by
 obtain⟨b,o,rfl,_,hb⟩:=h _ _ hx;show flat (k.cell? ⟨b,o+p,none⟩)=some u;rw [hb];exact yM (hc u (zj (by rw [qn];exact hx))).1
theorem InAt.read (h:InAt k A xs) (hc:RowC xs) (hm:x.cells.size=m) (hq:∀(q:Nat) u,x.cells[q]?=some u→xs[p+q]?=some u):ReadAt k.cell? A p m x:=
 ⟨hm,fun q u hu=>h.at hc (hq q u hu)⟩
def Els (k:World) (A:Option Addr) (n s:Nat) (P:Array Value→α→Prop) (f:Nat→α):Prop:=∃xs,InAt k A xs∧RowC xs∧ArrV n s P xs f
theorem Els.up (h:Els k A n s P f) (u:Up k k'):Els k' A n s P f:=by
 obtain⟨xs,h1,h2,h3⟩:=h;exact⟨xs,h1.up u,h2,h3⟩
theorem Els.mono (h:Els k A n s P f) (hP:∀a v,P a v→Q a v):Els k A n s Q f:=by
 obtain⟨xs,h1,h2,h3⟩:=h;exact⟨xs,h1,h2,h3.mono hP⟩
theorem ArrV.el (h:ArrV n s P xs f) (hi:i<n):∃a:Array Value,a.size=s∧P a (f i)∧∀(q:Nat) u,a[q]?=some u→xs[i*s+q]?=some u:=by
 refine⟨elt xs s i,kF _ _ _,Arr.el h i hi,fun q u hu=>?_⟩;have hq:q<s:=by have:=(jc.1 hu).1;rwa [kF]at this
 rw [←hu,gI _ _ _ _ hq (by rw [h.size];exact oi s hi)]
theorem ArrV.read (h:ArrV n s P xs f) (hi:i<n):∃a:Array Value,a.size=s∧P a (f i)∧∀(j m:Nat) x,x.cells.size=m→(∀(q:Nat) u,x.cells[q]?=some u→a[j+q]?=some u)→ReadIn xs (Int.toNat (i:Int)*s+j) m x:=by
 obtain⟨a,h1,h2,h3⟩:=h.el hi;refine⟨a,h1,h2,fun j m x hm hx=>⟨hm,fun q u hu=>?_⟩⟩;rw [xl];exact h3 _ _ (hx q u hu)
theorem Els.el (h:Els k A n s P f) (hi:i<n) (hs:0<s):∃a:Array Value,a.size=s∧P a (f i)∧(∃b o,A=some ⟨b,o,none⟩)∧
 ∀k',Up k k'→∀(j m:Nat) x,x.cells.size=m→(∀(q:Nat) u,x.cells[q]?=some u→a[j+q]?=some u)→ReadAt k'.cell? A (Int.toNat (i:Int)*s+j) m x:=by
 obtain⟨xs,h1,hc,h2⟩:=h;obtain⟨a,ha,hp,hx⟩:=h2.el hi;refine⟨a,ha,hp,?_,fun k' u j m x hm hq=>(h1.up u).read hc hm fun q v hv=>?_⟩
 ·obtain⟨b,o,e,_⟩:=h1 (i*s+0) a[0] (hx 0 _ (oo oq));exact⟨b,o,e⟩
 ·rw [xl];exact hx _ _ (hq q v hv)
theorem ArrV.rowC (h:ArrV n s P xs f) (hP:∀a v,P a v→Seg s a):RowC xs:=(ArrV.seg h hP).2
theorem ArrV.els (h:ArrV n s P xs f) (hP:∀a v,P a v→Seg s a) (hr:RowAt k A xs):Els k A n s P f:=⟨xs,.of hr,h.rowC hP,h⟩
theorem ArrV.push {a:Array Value}(h:ArrV n s P xs f) (ha:a.size=s) (hp:P a (f n)):ArrV (n+1) s P (xs++a.toList.toArray) f:=by
 have hz:=h.size;have h3:(n+1)*s=n*s+s:=zh _ _;refine⟨by simp [hz,ha,h3],fun i hi=>?_⟩;have h4:(i+1)*s≤(n+1)*s:=Nat.mul_le_mul_right s hi;have hsz:(xs++a.toList.toArray).size=(n+1)*s:=by simp [hz,ha,h3]
 by_cases e:i=n
 ·subst e;have:elt (xs++a.toList.toArray) s i=a:=nC ha fun q hq=>by
   rw [gI _ _ _ _ hq (by rw [hsz];exact h4),Array.getElem?_append_right oq];rw [hz,Nat.add_sub_cancel_left]
  show P (elt _ s i) (f i);rw [this];exact hp
 ·have hlt:i<n:=oq
  have h5:(i+1)*s≤n*s:=oi s hlt;have h6:(i+1)*s=i*s+s:=zh _ _;have:elt (xs++a.toList.toArray) s i=elt xs s i:=nC (kF _ _ _) fun q hq=>by
   rw [gI _ _ _ _ hq (by rw [hsz];exact h4),gI _ _ _ _ hq oq,xi oq]
  show P (elt _ s i) (f i);rw [this];exact Arr.el h i hlt
theorem ArrV.empty:ArrV 0 s P #[] f:=⟨by simp,fun i hi=>absurd hi (xx _)⟩
theorem aFt (z:List Value):∀n,madeCells z.toArray (n*z.length)=aTa n z:=by
 intro n
 by_cases hz:z.length=0
 ·have:z=[]:=xh hz;subst this;apply zx;intro i;simp [madeCells,aTa]
 apply zx;intro i;have hl:∀m,(List.replicate m z).flatten.length=m*z.length:=fun m=>by simp
 have hg:∀m i,i<m*z.length→(List.replicate m z).flatten[i]?=z[i % z.length]?:=by
  intro m
  induction m with
  | zero=>intro i hi;omega
  | succ m ih=>
   intro i hi;rw [List.replicate_succ,List.flatten_cons,jh]
   by_cases h:i<z.length
   ·rw [od h,qj h]
   ·rw [oh h,ih _ (by rw [zh]at hi;omega),←Nat.mod_eq_sub_mod oq]
 unfold aTa;have e:((List.replicate n z).flatten.toArray)[i]?=(List.replicate n z).flatten[i]?:=kz ..;rw [e]
 by_cases hi:i<n*z.length
 ·rw [hg n i hi];have:i % z.length<z.length:=qp _ oq;simp [madeCells,hi,this]
 ·rw [ot (by rw [hl];omega),qa (by simp [madeCells];omega)]
theorem ArrV.made {z:List Value}(hz:z.length=s) (v:α) (h:P z.toArray v):ArrV n s P (madeCells z.toArray (n*s)) fun _=>v:=by
 subst hz;rw [aFt];exact ArrV.zero rfl v h
end
open Go.RowKit Num W32
structure PRate where
 (f v:Rat)
 deriving Inhabited
structure PMat where
 (cure spoil:List PRate) (done limit:Rat)
 deriving Inhabited
structure PCell where
 (m:Int) (cap steam air:Rat)
 deriving Inhabited
structure PLink where
 (a b:Int) (v:Rat)
 deriving Inhabited
structure PSec where
 (mats:List PMat) (cells:List PCell) (links:List PLink)
structure PState where
 (temp cure spoil:List Rat)
def at_ {α:Type}[Inhabited α] (l:List α) (i:Nat):α:=l.getD i default
theorem aIs {α:Type}[Inhabited α] {l:List α}{i:Nat}(h:i<l.length):at_ l i=l[i]:=by unfold at_;simp [List.getD_eq_getElem?_getD,List.getElem?_eq_getElem h]
section
variable {c a:Array Value}{l:List Value}{d q:Nat}{u v:Value}
theorem aTe (h:c[q]?=some u):(c.toList++l).toArray[q]?=some u:=by
 rw [kz,zb (by have:=(jc.1 h).1;simpa using this),qn];exact h
theorem aTf (hc:c.size=d) (h:l.toArray[q]?=some u):(c.toList++l).toArray[d+q]?=some u:=by
 rw [kz]at h ⊢;rw [vr (by simp;omega)];simpa [hc] using h
end
def Lst {α:Type}[Inhabited α] (k:World) (A:Option Addr) (n s:Nat) (P:Array Value→α→Prop) (l:List α):Prop:=n=l.length∧Els k A n s P (at_ l)
section
variable {α:Type}[Inhabited α] {k k':World}{A:Option Addr}{n s i j m:Nat}{P Q:Array Value→α→Prop}{l:List α}{xs:Array Value}
theorem Lst.up (h:Lst k A n s P l) (u:Up k k') (hP:∀a v,P a v→Q a v):Lst k' A n s Q l:=⟨h.1,(h.2.up u).mono hP⟩
theorem Lst.el (h:Lst k A n s P l) (hi:i<l.length) (hs:0<s):∃a:Array Value,a.size=s∧P a (at_ l i)∧(∃b o,A=some ⟨b,o,none⟩)∧((0:Int)≤(i:Int)∧((i:Int):Int)<(n:Nat))∧
 (∀k',Up k k'→ReadAt k'.cell? A (Int.toNat (i:Int)*s+0) s (.agg a))∧
 ∀k' (c:Array Value) j m,Up k k'→c.size=m→(∀(q:Nat) u,c[q]?=some u→a[j+q]?=some u)→ReadAt k'.cell? A (Int.toNat (i:Int)*s+j) m (.agg c):=by
 obtain⟨a,h1,h2,h3,h4⟩:=h.2.el (i:=i) (by rw [h.1];exact hi) hs;refine⟨a,h1,h2,h3,⟨oq,by have:=h.1;omega⟩,fun k' u=>h4 k' u 0 s (.agg a) h1 fun q v hv=>by rw [qe];exact hv,fun k' c j m u hc hq=>h4 k' u j m (.agg c) hc hq⟩
theorem Lst.nil:Lst k A 0 s P ([]:List α):=⟨rfl,#[],fun p u h=>(by simp at h),fun u h=>(by cases h),ArrV.empty⟩
end
structure Num3 (N:World→Array Value→Rat→Prop):Prop where
 up:∀ {k k' cs q},N k cs q→Up k k'→N k' cs q
 seg:∀ {k cs q},N k cs q→Seg 3 cs
theorem nL (K:Nat):Num3 (fun k cs q=>RatV k cs q K):=⟨fun h u=>h.up u,fun h=>h.seg⟩
theorem aXw (K:Nat):Num3 (fun k cs q=>QV k cs q K):=⟨fun h u=>h.up u,fun h=>h.seg⟩
section
variable {N:World→Array Value→Rat→Prop}{k k':World}{cs:Array Value}{A B C:Option Addr}{n n' n'' c c' c'':Nat}
def aTd (N:World→Array Value→Rat→Prop) (k:World) (cs:Array Value) (r:PRate):Prop:=∃c0 c1,cs=(c0.toList++(c1.toList++([]))).toArray∧N k c0 r.f∧N k c1 r.v
def aYk (N:World→Array Value→Rat→Prop) (k:World) (cs:Array Value) (m:PMat):Prop:=∃A n c B n' c' c0 c1,cs=((Value.slice A n c) :: ((Value.slice B n' c') :: (c0.toList++(c1.toList++([]))))).toArray∧
 Lst k A n 6 (aTd N k) m.cure∧Lst k B n' 6 (aTd N k) m.spoil∧N k c0 m.done∧N k c1 m.limit
def aWt (N:World→Array Value→Rat→Prop) (k:World) (cs:Array Value) (x:PCell):Prop:=∃c0 c1 c2,cs=((Value.int .i64 x.m) :: (c0.toList++(c1.toList++(c2.toList++([]))))).toArray∧N k c0 x.cap∧N k c1 x.steam∧N k c2 x.air
def aWx (N:World→Array Value→Rat→Prop) (k:World) (cs:Array Value) (x:PLink):Prop:=∃c0,cs=((Value.int .i64 x.a) :: ((Value.int .i64 x.b) :: (c0.toList++([])))).toArray∧N k c0 x.v
structure SecV (N:World→Array Value→Rat→Prop) (k:World) (A:Option Addr) (n:Nat) (B:Option Addr) (n':Nat) (C:Option Addr) (n'':Nat) (s:PSec):Prop where
 mats:Lst k A n 8 (aYk N k) s.mats
 cells:Lst k B n' 10 (aWt N k) s.cells
 links:Lst k C n'' 5 (aWx N k) s.links
structure StateV (N:World→Array Value→Rat→Prop) (k:World) (A:Option Addr) (n:Nat) (B:Option Addr) (n':Nat) (C:Option Addr) (n'':Nat) (x:PState):Prop where
 temp:Lst k A n 3 (N k) x.temp
 cure:Lst k B n' 3 (N k) x.cure
 spoil:Lst k C n'' 3 (N k) x.spoil
variable (hN:Num3 N)
include hN
end
open Go.RowKit Num Plain W32
open Sy (Up Sees CallsG Seg)
structure PWt where
 (g:Rat) (c:Int)
 deriving Inhabited
structure PPl where
 (w p:Int)
 deriving Inhabited
def qL (x:PWt):Prop:=¬ 0<x.g∨x.c<0
instance (x:PWt):Decidable (qL x):=by unfold qL;exact inferInstance
def fL (n:Nat) (x:PPl):Prop:=x.w<0∨(n:Int)≤x.w∨x.p<0∨24≤x.p
instance (n:Nat) (x:PPl):Decidable (fL n x):=by unfold fL;exact inferInstance
def vQ {α:Type}[Inhabited α] (b:α→Prop) (l:List α):Prop:=∃i,i<l.length∧b (at_ l i)
instance {α:Type}[Inhabited α] (b:α→Prop) [DecidablePred b] (l:List α):Decidable (vQ b l):=
 decidable_of_iff (¬ ∀i,i<l.length→¬ b (at_ l i)) ⟨fun h=>Classical.byContradiction fun c=>h fun i hi hb=>c ⟨i,hi,hb⟩,fun ⟨i,hi,hb⟩ c=>c i hi hb⟩
def cC (st:List PWt):Int:=if 4<st.length then 4 else if vQ qL st then 1 else 0
def plE (n:Nat) (l:List PPl):Int:=if vQ (fL n) l then 1 else 0
def qQ (st:List PWt) (l:List PPl):Int:=if cC st≠0 then cC st else if 64<l.length then 4 else plE st.length l
def aYn (x:W4) (st:List PWt) (p:PPl):W4:=x.add ((W4.real (at_ st p.w.toNat).g).mul (qH (plc p.p)))
def aEd (x:W4) (st:List PWt) (l:List PPl):Nat→W4
 | 0=>x
 | j+1=>aYn (aEd x st l j) st (at_ l j)
def zR (x:W4) (st:List PWt) (l:List PPl):W4:=aEd x st l l.length
def tN (x:W4) (st:List PWt) (l:List PPl):W4:=if qQ st l≠0 then W4.zero else zR x st l
def fH (st:List PWt) (most:Int):Int:=if cC st≠0 then cC st else if most<0∨2<most then 1 else if most=2∧2<st.length then 4 else 0
def dD (l:List PPl) (i:Nat):Nat→Nat
 | 0=>0
 | j+1=>dD l i j+if (at_ l j).w=i then 1 else 0
theorem rJ {l:List PPl}{i:Nat}:∀j,dD l i j≤j
 | 0=>oy _
 | j+1=>by
  have:=rJ (l:=l) (i:=i) j;unfold dD;split <;> omega
def xH (l0 l1:List PPl) (i:Nat):Nat:=dD l0 i l0.length+dD l1 i l1.length
def qM (st:List PWt) (most:Int) (l0 l1:List PPl):Int:=
 if fH st most≠0 then fH st most else if most<l0.length then 4 else if plE st.length l0≠0 then plE st.length l0 else if most<l1.length then 4 else if plE st.length l1≠0 then plE st.length l1
 else if ∃i,i<st.length∧(at_ st i).c<xH l0 l1 i then 9 else 0
def qN (e:Int) (v:Q4):Q4:=if e≠0 then Q4.zero else v
theorem aAk {st:List PWt}(h:cC st=0):st.length≤4∧∀i,i<st.length→¬ qL (at_ st i):=by
 unfold cC at h;split at h
 ·cases h
 ·split at h
  ·cases h
  ·rename_i h1 h2;exact⟨oq,fun i hi hb=>h2 ⟨i,hi,hb⟩⟩
theorem zN {n:Nat}{l:List PPl}(h:plE n l=0):∀i,i<l.length→¬ fL n (at_ l i):=by
 unfold plE at h;split at h
 ·cases h
 ·rename_i h2;exact fun i hi hb=>h2 ⟨i,hi,hb⟩
theorem oY {p:Nat→Prop}{j:Nat}(hz:∀i,i<j→p i) (h:p j):∀i,i<j+1→p i:=fun i hi=>by
 by_cases e:i=j
 ·rw [e];exact h
 ·exact hz i oq
theorem mW {a:Array Value}{v:Value}{j:Nat}(hv:v.cells=#[v]) (ha:a[j]?=some v):v.cells.size=1∧∀(q:Nat) u,v.cells[q]?=some u→a[j+q]?=some u:=by
 rw [hv];refine⟨rfl,fun q u hq=>?_⟩
 match q with
 | 0=>simp at hq;subst hq;exact ha
 | q+1=>simp at hq
theorem ixD {j n:Nat}(h:j<n):decide ((0:Int)≤(j:Int)∧((j:Int):Int)<(n:Nat))=true:=decide_eq_true ⟨oq,oq⟩
section
variable {N:World→Array Value→Rat→Prop}{k k':World}{cs:Array Value}
def WtV (N:World→Array Value→Rat→Prop) (k:World) (cs:Array Value) (x:PWt):Prop:=∃c0,cs=(c0.toList++((Value.int .i64 x.c) :: ([]))).toArray∧N k c0 x.g
def PlV (cs:Array Value) (x:PPl):Prop:=cs=#[.int .i64 x.w,.int .i64 x.p]
theorem WtV.up (hN:Num3 N) {x:PWt}(h:WtV N k cs x) (u:Up k k'):WtV N k' cs x:=by
 obtain⟨c0,e,h0⟩:=h;exact⟨c0,e,hN.up h0 u⟩
theorem WtV.seg (hN:Num3 N) {x:PWt}(h:WtV N k cs x):Seg 4 cs:=by
 obtain⟨c0,rfl,h0⟩:=h;have s0:=hN.seg h0;refine⟨by simp [s0.1],fun u hu=>?_⟩;simp only [List.mem_append,List.mem_singleton]at hu;rcases hu with hu|rfl
 ·exact s0.2 u hu
 ·exact⟨rfl,rfl⟩
theorem PlV.seg {x:PPl}(h:PlV cs x):Seg 2 cs:=by
 unfold PlV at h;subst h;exact⟨rfl,by simp [Value.scalar,Value.noWord]⟩
end
open IntKind (wrap)
open Value (agg slice int bool tuple)
open Sy (Up Sees CallsG Seg execFn_use)
set_option maxRecDepth 100000
variable {k:World}{R:World→Value→Prop}{A0 A1 A2 A4 A5 A12 A14 A15:Option Addr}{c0 c1 c2 c4 c5 c12 c14 c15 l0 l1 l2 l4 l5 l12 l14 l15 p1 p3:Nat}{n0 n1 n2 n3 n4 n5 n6 n7 n8 n9 n10 n11 n13 n16:Int}{cs0 cs1:Array Value}
theorem aQf 
 (h:Tt∧(∃I0:Nat→World→List Value→Prop,(∃m0,∀k0,Up k k0→I0 m0 k0 [int .i64 0])∧
 ∀m0 k0 vs0,Up k k0→I0 m0 k0 vs0→∃n2,some [int .i64 n2]=some vs0∧
 Br (decide ((n2:Int)<(l0:Nat))) (Ad A0∧Ix n2 l0∧
 ∃n3,∃n4,Sy.ReadAt k0.cell? A0 (Int.toNat n2*2+0) 2 (agg #[int .i64 n3,int .i64 n4])∧
 Cl k0 114 #[agg #[int .i64 n3,int .i64 n4],(Value.pointer (some ⟨p1,0,none⟩))] fun k2 r1=>Gb r1 fun b5=>
 Br b5 (Rt R k2 (int .i64 n2)) (∀k4,Up k2 k4→∃m,m<m0∧I0 m k4 [int .i64 (wrap .i64 (n2+1))])) (Rt R k0 (int .i64 (-1))))) :
  CallsG Tryz.prog 177 #[slice A0 l0 c0,Value.func (.func 114) #[] #[(Value.pointer (some ⟨p1,0,none⟩))]] k R:=
  Sy.execFn_use_heap (cfg:={ opq:=[],loops:=[(0,[.tmp 8 false [.int .i64]])] }) (args:=[.one (.var 0),.one (.fn 114 [1])]) (vals:=[slice A0 l0 c0,(Value.pointer (some ⟨p1,0,none⟩))]) (kinds:=[.slice,.any]) (blks:=[]) (heap:=[]) ox ⟨qS,⟨rfl,rfl⟩,trivial⟩ ox trivial ox h
theorem aPr 
 (h:Cl k 177 #[slice A0 l0 c0,Value.func (.func 114) #[] #[(Value.pointer (some ⟨p1,0,none⟩))]] fun k1 r0=>Gi r0 fun n2=>
 Rt R k1 (bool (decide ((n2:Int) ≥ 0)))) :
  CallsG Tryz.prog 115 #[slice A0 l0 c0,Value.func (.func 114) #[] #[(Value.pointer (some ⟨p1,0,none⟩))]] k R:=
  Sy.execFn_use_heap (cfg:={ opq:=[] }) (args:=[.one (.var 0),.one (.fn 114 [1])]) (vals:=[slice A0 l0 c0,(Value.pointer (some ⟨p1,0,none⟩))]) (kinds:=[.slice,.any]) (blks:=[]) (heap:=[]) ox ⟨qS,⟨rfl,rfl⟩,trivial⟩ ox trivial ox h
theorem aQv (hB3:Sy.Blk k p3 42 #[slice A2 l2 c2])
 (h:Br (decide ((n0:Int)<0)) (Rt R k (bool true)) (Tt∧(Br (decide ((n0:Int) ≥ (l2:Nat))) (Rt R k (bool true)) (Br (decide ((n1:Int)<0)) (Rt R k (bool true)) (Rt R k (bool (decide ((n1:Int) ≥ 24)))))))) :
 CallsG Tryz.prog 114 #[agg #[int .i64 n0,int .i64 n1],Value.pointer (some ⟨p3,0,none⟩)] k R:=
 Sy.execFn_use_heap (cfg:={ opq:=[38] }) (args:=[.agg (qV 0 2),.one (.ptr 0 0)]) (vals:=[int .i64 n0,int .i64 n1,slice A2 l2 c2,(Value.pointer (some ⟨p3,0,none⟩))]) (kinds:=[.int .i64,.int .i64,.slice,.any]) (blks:=[p3]) (heap:=[{ ty:=42,cells:=[.var 2],pub:=true,pv:=3 }]) ox ⟨⟨_,rfl⟩,⟨_,rfl⟩,qS,⟨rfl,rfl⟩,trivial⟩ ox ⟨⟨rfl,⟨[slice A2 l2 c2],by kernel_rfl,hB3⟩,by kernel_rfl⟩,trivial⟩ ox h
theorem aVh 
 (h:∀p2 k0,Up k k0→Sy.Blk k0 p2 42 #[slice A0 l0 c0]→
 Cl k0 115 #[slice A1 l1 c1,Value.func (.func 114) #[] #[(Value.pointer (some ⟨p2,0,none⟩))]] fun k2 r1=>Gb r1 fun b3=>
 Br b3 (Rt R k2 (int .i64 1)) (Rt R k2 (int .i64 0))) :
  CallsG Tryz.prog 57 #[slice A0 l0 c0,slice A1 l1 c1] k R:=
  qY { opq:=[38] } h
theorem aQg 
 (h:Tt∧(∃I0:Nat→World→List Value→Prop,(∃m0,∀k0,Up k k0→I0 m0 k0 [int .i64 0])∧
 ∀m0 k0 vs0,Up k k0→I0 m0 k0 vs0→∃n1,some [int .i64 n1]=some vs0∧
 Br (decide ((n1:Int)<(l0:Nat))) (Ad A0∧Ix n1 l0∧
 ∃cs2,Seg 3 cs2∧∃n3,Sy.ReadAt k0.cell? A0 (Int.toNat n1*4+0) 4 (agg (cs2.toList++((int .i64 n3) :: ([]))).toArray)∧
 Cl k0 136 #[agg (cs2.toList++((int .i64 n3) :: ([]))).toArray] fun k2 r1=>Gb r1 fun b4=>
 Br b4 (Rt R k2 (int .i64 n1)) (∀k4,Up k2 k4→∃m,m<m0∧I0 m k4 [int .i64 (wrap .i64 (n1+1))])) (Rt R k0 (int .i64 (-1))))) :
  CallsG Tryz.prog 186 #[slice A0 l0 c0,Value.func (.func 136) #[] #[]] k R:=
  Sy.execFn_use_heap (cfg:={ opq:=[38],loops:=[(0,[.tmp 8 false [.int .i64]])] }) (args:=[.one (.var 0),.one (.fn 136 [])]) (vals:=[slice A0 l0 c0]) (kinds:=[.slice]) (blks:=[]) (heap:=[]) ox ⟨qS,trivial⟩ ox trivial ox h
theorem aPs 
 (h:Cl k 186 #[slice A0 l0 c0,Value.func (.func 136) #[] #[]] fun k1 r0=>Gi r0 fun n1=>
 Rt R k1 (bool (decide ((n1:Int) ≥ 0)))) :
  CallsG Tryz.prog 135 #[slice A0 l0 c0,Value.func (.func 136) #[] #[]] k R:=
  Sy.execFn_use_heap (cfg:={ opq:=[38] }) (args:=[.one (.var 0),.one (.fn 136 [])]) (vals:=[slice A0 l0 c0]) (kinds:=[.slice]) (blks:=[]) (heap:=[]) ox ⟨qS,trivial⟩ ox trivial ox h
theorem aQz (hcs0:Seg 3 cs0)
 (h:Cl k 107 #[agg cs0] fun k1 r0=>Gi r0 fun n2=>
 Br (decide ((n2:Int)≤0)) (Rt R k1 (bool true)) (Rt R k1 (bool (decide ((n1:Int)<0))))) :
  CallsG Tryz.prog 136 #[agg (cs0.toList++((int .i64 n1) :: ([]))).toArray] k R:=
  qX { opq:=[38] } [.agg [.seg 0 3,.var 1]] [agg cs0,int .i64 n1] [.seg 3,.int .i64] ⟨⟨cs0,rfl,hcs0⟩,⟨_,rfl⟩,trivial⟩ h
theorem aVj 
 (h:Tt∧(Br (decide (((l0:Nat):Int) > 4)) (Rt R k (int .i64 4)) (Cl k 135 #[slice A0 l0 c0,Value.func (.func 136) #[] #[]] fun k2 r1=>Gb r1 fun b1=>
 Br b1 (Rt R k2 (int .i64 1)) (Rt R k2 (int .i64 0))))) :
  CallsG Tryz.prog 70 #[slice A0 l0 c0] k R:=
  qY { opq:=[38] } h
theorem aQw (hcs0:Seg 18 cs0)
 (h:Tt∧(∃I0:Nat→World→List Value→Prop,(∃m0,∀k0,Up k k0→I0 m0 k0 [int .i64 0,agg cs0])∧
 ∀m0 k0 vs0,Up k k0→I0 m0 k0 vs0→∃n3,∃cs4,Seg 18 cs4∧some [int .i64 n3,agg cs4]=some vs0∧
 Br (decide ((n3:Int)<(l2:Nat))) (Ad A2∧Ix n3 l2∧
 ∃n5,∃n6,Sy.ReadAt k0.cell? A2 (Int.toNat n3*2+0) 2 (agg #[int .i64 n5,int .i64 n6])∧
 Ad A1∧Ix n5 l1∧
 Ad A1∧Ix n5 l1∧
 ∃cs7,Seg 3 cs7∧Sy.ReadAt k0.cell? A1 (Int.toNat n5*4+0) 3 (agg cs7)∧
 Cl k0 25 #[agg cs4,agg cs7] fun k2 r1=>Gt 18 r1 fun cs8=>
 Cl k2 113 #[int .i64 n6] fun k4 r3=>Gt 18 r3 fun cs9=>
 Cl k4 24 #[agg cs8,agg cs9] fun k6 r5=>Gt 18 r5 fun cs10=>
 Cl k6 23 #[agg cs4,agg cs10] fun k8 r7=>Gt 18 r7 fun cs11=>
 ∀k9,Up k8 k9→∃m,m<m0∧I0 m k9 [int .i64 (wrap .i64 (n3+1)),agg cs11]) (Rt R k0 (agg cs4)))) :
  CallsG Tryz.prog 58 #[agg cs0,slice A1 l1 c1,slice A2 l2 c2] k R:=
  qX { opq:=[38,34],loops:=[(0,[.tmp 11 false [.int .i64],.blk 0 [.seg 18]])] } [.agg [.seg 0 18],.one (.var 1),.one (.var 2)] [agg cs0,slice A1 l1 c1,slice A2 l2 c2] [.seg 18,.slice,.slice] ⟨⟨cs0,rfl,hcs0⟩,qS,qS,trivial⟩ h
theorem aQm (hcs0:Seg 18 cs0)
 (h:Cl k 70 #[slice A1 l1 c1] fun k1 r0=>Gi r0 fun n3=>
 Br ((n3:Int) != 0) (Rt R k1 (tuple #[agg #[bool false,slice none 0 0,bool false,slice none 0 0,bool false,slice none 0 0,bool false,slice none 0 0,slice none 0 0,bool false,slice none 0 0,bool false,slice none 0 0,bool false,slice none 0 0,bool false,slice none 0 0,slice none 0 0],int .i64 n3])) (Tt∧(Br (decide (((l2:Nat):Int) > 64)) (Rt R k1 (tuple #[agg #[bool false,slice none 0 0,bool false,slice none 0 0,bool false,slice none 0 0,bool false,slice none 0 0,slice none 0 0,bool false,slice none 0 0,bool false,slice none 0 0,bool false,slice none 0 0,bool false,slice none 0 0,slice none 0 0],int .i64 4])) (Cl k1 57 #[slice A1 l1 c1,slice A2 l2 c2] fun k5 r4=>Gi r4 fun n4=>
 Br ((n4:Int) != 0) (Rt R k5 (tuple #[agg #[bool false,slice none 0 0,bool false,slice none 0 0,bool false,slice none 0 0,bool false,slice none 0 0,slice none 0 0,bool false,slice none 0 0,bool false,slice none 0 0,bool false,slice none 0 0,bool false,slice none 0 0,slice none 0 0],int .i64 n4])) (Cl k5 58 #[agg cs0,slice A1 l1 c1,slice A2 l2 c2] fun k8 r7=>Gt 18 r7 fun cs5=>
 Rt R k8 (tuple #[agg cs5,int .i64 0])))))) :
  CallsG Tryz.prog 21 #[agg cs0,slice A1 l1 c1,slice A2 l2 c2] k R:=
  qX { opq:=[38,34] } [.agg [.seg 0 18],.one (.var 1),.one (.var 2)] [agg cs0,slice A1 l1 c1,slice A2 l2 c2] [.seg 18,.slice,.slice] ⟨⟨cs0,rfl,hcs0⟩,qS,qS,trivial⟩ h
theorem aKc 
 (h:Cl k 70 #[slice A0 l0 c0] fun k1 r0=>Gi r0 fun n2=>
 Br ((n2:Int) != 0) (Rt R k1 (int .i64 n2)) (Br (decide ((n1:Int)<0)) (Rt R k1 (int .i64 1)) (Br (decide ((n1:Int) > 2)) (Rt R k1 (int .i64 1)) (Br ((n1:Int) == 2) (Tt∧(Br (decide (((l0:Nat):Int) > 2)) (Rt R k1 (int .i64 4)) (Rt R k1 (int .i64 0)))) (Rt R k1 (int .i64 0)))))) :
  CallsG Tryz.prog 53 #[slice A0 l0 c0,int .i64 n1] k R:=
  qY { opq:=[38] } h
theorem aQo (hcs0:Seg 18 cs0) (hcs1:Seg 18 cs1)
 (h:Cl k 53 #[slice A2 l2 c2,int .i64 n3] fun k1 r0=>Gi r0 fun n6=>
 Br ((n6:Int) != 0) (Rt R k1 (tuple #[agg #[bool false,slice none 0 0,bool false,slice none 0 0,bool false,slice none 0 0,bool false,slice none 0 0,slice none 0 0,bool false,slice none 0 0,bool false,slice none 0 0,bool false,slice none 0 0,bool false,slice none 0 0,slice none 0 0],int .i64 n6])) (Tt∧((0:Int)≤(l2:Nat)∧Sy.sizeOk 8 (Int.toNat (l2:Nat))∧∀(A7:Option Addr) (l7 c7:Nat) (cs8:Array Value),l7=Int.toNat (l2:Nat)→cs8=madeCells [int .i64 0].toArray (Int.toNat (l2:Nat)*1)→l7≤c7→
 Tt∧(Br (decide (((l4:Nat):Int) > n3)) (Rt R k1 (tuple #[agg #[bool false,slice none 0 0,bool false,slice none 0 0,bool false,slice none 0 0,bool false,slice none 0 0,slice none 0 0,bool false,slice none 0 0,bool false,slice none 0 0,bool false,slice none 0 0,bool false,slice none 0 0,slice none 0 0],int .i64 4])) (Cl k1 57 #[slice A2 l2 c2,slice A4 l4 c4] fun k5 r4=>Gi r4 fun n9=>
 Br ((n9:Int) != 0) (Rt R k5 (tuple #[agg #[bool false,slice none 0 0,bool false,slice none 0 0,bool false,slice none 0 0,bool false,slice none 0 0,slice none 0 0,bool false,slice none 0 0,bool false,slice none 0 0,bool false,slice none 0 0,bool false,slice none 0 0,slice none 0 0],int .i64 n9])) (Tt∧(∃I7:Nat→World→List Value→Prop,(∃m7,∀k7,Up k5 k7→I7 m7 k7 [int .i64 0,tuple #[slice A7 l7 c7,agg cs8]])∧
 ∀m7 k7 vs7,Up k5 k7→I7 m7 k7 vs7→∃n10,∃A11 l11 c11,∃cs12,Sy.RowC cs12∧some [int .i64 n10,tuple #[slice A11 l11 c11,agg cs12]]=some vs7∧
 Br (decide ((n10:Int)<(l4:Nat))) (Ad A4∧Ix n10 l4∧
 ∃n13,∃n14,Sy.ReadAt k7.cell? A4 (Int.toNat n10*2+0) 2 (agg #[int .i64 n13,int .i64 n14])∧
 (decide ((0:Int)≤n13∧(n13:Int)<(l11:Nat)))=true∧
 (∃n15,Sy.ReadIn cs12 (Int.toNat n13*1+0) 1 (int .i64 n15)∧
 (decide ((0:Int)≤n13∧(n13:Int)<(l11:Nat)))=true∧
 (Ix n13 l11∧∀cs16:Array Value,cs16=Sy.over cs12 (Int.toNat n13*1+0) ([int .i64 (wrap .i64 (n15+1))])→
 ∀k8,Up k7 k8→∃m,m<m7∧I7 m k8 [int .i64 (wrap .i64 (n10+1)),tuple #[slice A11 l11 c11,agg cs16]]))) (Cl k7 58 #[agg cs0,slice A2 l2 c2,slice A4 l4 c4] fun k10 r9=>Gt 18 r9 fun cs13=>
 Cl k10 43 #[agg cs13] fun k12 r11=>Gt 9 r11 fun cs14=>
 Tt∧(Br (decide (((l5:Nat):Int) > n3)) (Rt R k12 (tuple #[agg #[bool false,slice none 0 0,bool false,slice none 0 0,bool false,slice none 0 0,bool false,slice none 0 0,slice none 0 0,bool false,slice none 0 0,bool false,slice none 0 0,bool false,slice none 0 0,bool false,slice none 0 0,slice none 0 0],int .i64 4])) (Cl k12 57 #[slice A2 l2 c2,slice A5 l5 c5] fun k15 r14=>Gi r14 fun n15=>
 Br ((n15:Int) != 0) (Rt R k15 (tuple #[agg #[bool false,slice none 0 0,bool false,slice none 0 0,bool false,slice none 0 0,bool false,slice none 0 0,slice none 0 0,bool false,slice none 0 0,bool false,slice none 0 0,bool false,slice none 0 0,bool false,slice none 0 0,slice none 0 0],int .i64 n15])) (Tt∧(∃I17:Nat→World→List Value→Prop,(∃m17,∀k17,Up k15 k17→I17 m17 k17 [int .i64 0,tuple #[slice A11 l11 c11,agg cs12]])∧
 ∀m17 k17 vs17,Up k15 k17→I17 m17 k17 vs17→∃n16,∃A17 l17 c17,∃cs18,Sy.RowC cs18∧some [int .i64 n16,tuple #[slice A17 l17 c17,agg cs18]]=some vs17∧
 Br (decide ((n16:Int)<(l5:Nat))) (Ad A5∧Ix n16 l5∧
 ∃n19,∃n20,Sy.ReadAt k17.cell? A5 (Int.toNat n16*2+0) 2 (agg #[int .i64 n19,int .i64 n20])∧
 (decide ((0:Int)≤n19∧(n19:Int)<(l17:Nat)))=true∧
 (∃n21,Sy.ReadIn cs18 (Int.toNat n19*1+0) 1 (int .i64 n21)∧
 (decide ((0:Int)≤n19∧(n19:Int)<(l17:Nat)))=true∧
 (Ix n19 l17∧∀cs22:Array Value,cs22=Sy.over cs18 (Int.toNat n19*1+0) ([int .i64 (wrap .i64 (n21+1))])→
 ∀k18,Up k17 k18→∃m,m<m17∧I17 m k18 [int .i64 (wrap .i64 (n16+1)),tuple #[slice A17 l17 c17,agg cs22]]))) (Cl k17 58 #[agg cs1,slice A2 l2 c2,slice A5 l5 c5] fun k20 r19=>Gt 18 r19 fun cs19=>
 Cl k20 43 #[agg cs19] fun k22 r21=>Gt 9 r21 fun cs20=>
 Tt∧(∃I23:Nat→World→List Value→Prop,(∃m23,∀k23,Up k22 k23→I23 m23 k23 [int .i64 0])∧
 ∀m23 k23 vs23,Up k22 k23→I23 m23 k23 vs23→∃n21,some [int .i64 n21]=some vs23∧
 Br (decide ((n21:Int)<(l17:Nat))) ((decide ((0:Int)≤n21∧(n21:Int)<(l17:Nat)))=true∧
 (∃n22,Sy.ReadIn cs18 (Int.toNat n21*1+0) 1 (int .i64 n22)∧
 Ad A2∧Ix n21 l2∧
 Ad A2∧Ix n21 l2∧
 ∃n23,Sy.ReadAt k23.cell? A2 (Int.toNat n21*4+3) 1 (int .i64 n23)∧
 Br (decide ((n22:Int) > n23)) (Rt R k23 (tuple #[agg #[bool false,slice none 0 0,bool false,slice none 0 0,bool false,slice none 0 0,bool false,slice none 0 0,slice none 0 0,bool false,slice none 0 0,bool false,slice none 0 0,bool false,slice none 0 0,bool false,slice none 0 0,slice none 0 0],int .i64 9])) (∀k25,Up k23 k25→∃m,m<m23∧I23 m k25 [int .i64 (wrap .i64 (n21+1))]))) (Rt R k23 (tuple #[agg (cs14.toList++(cs20.toList++([]))).toArray,int .i64 0])))))))))))))))) :
  CallsG Tryz.prog 12 #[agg (cs0.toList++(cs1.toList++([]))).toArray,slice A2 l2 c2,int .i64 n3,agg #[slice A4 l4 c4,slice A5 l5 c5]] k R:=
  qX { opq:=[38,34,32],loops:=[(2,[.tmp 49 false [.int .i64],.rw 12 3 1]),(4,[.tmp 73 false [.int .i64]])] } [.agg [.seg 0 18,.seg 1 18],.one (.var 2),.one (.var 3),.agg (qV 4 2)] [agg cs0,agg cs1,slice A2 l2 c2,int .i64 n3,slice A4 l4 c4,slice A5 l5 c5] [.seg 18,.seg 18,.slice,.int .i64,.slice,.slice] ⟨⟨cs0,rfl,hcs0⟩,⟨cs1,rfl,hcs1⟩,qS,⟨_,rfl⟩,qS,qS,trivial⟩ h
theorem aVy 
 (h:Tt∧(Br (decide (((l0:Nat):Int) > 4)) (Rt R k (int .i64 4)) (∃I1:Nat→World→List Value→Prop,(∃m1,∀k1,Up k k1→I1 m1 k1 [int .i64 0])∧
 ∀m1 k1 vs1,Up k k1→I1 m1 k1 vs1→∃n1,some [int .i64 n1]=some vs1∧
 Tt∧(Br (decide ((n1:Int)<(l0:Nat))) (Ad A0∧Ix n1 l0∧
 Ad A0∧Ix n1 l0∧
 ∃cs2,Seg 3 cs2∧Sy.ReadAt k1.cell? A0 (Int.toNat n1*4+0) 3 (agg cs2)∧
 Cl k1 143 #[agg cs2] fun k3 r2=>Gi r2 fun n3=>
 Br (decide ((n3:Int)≤0)) (Rt R k3 (int .i64 1)) (Ad A0∧Ix n1 l0∧
 Ad A0∧Ix n1 l0∧
 ∃n4,Sy.ReadAt k3.cell? A0 (Int.toNat n1*4+3) 1 (int .i64 n4)∧
 Br (decide ((n4:Int)<0)) (Rt R k3 (int .i64 1)) (∀k6,Up k3 k6→∃m,m<m1∧I1 m k6 [int .i64 (wrap .i64 (n1+1))]))) (Rt R k1 (int .i64 0)))))) :
  CallsG Tryz.prog 83 #[slice A0 l0 c0] k R:=
  qY { opq:=[89],loops:=[(0,[.tmp 3 false [.int .i64]])] } h
theorem aHp 
 (h:Br (decide ((n1:Int) ≥ 0)) (Tt∧(Br (decide ((n1:Int)<(l0:Nat))) (Br (decide ((n2:Int) ≥ 0)) (Rt R k (bool (decide ((n2:Int)<24)))) (Rt R k (bool false))) (Rt R k (bool false)))) (Rt R k (bool false))) :
 CallsG Tryz.prog 84 #[slice A0 l0 c0,agg #[int .i64 n1,int .i64 n2]] k R:=
 qY { opq:=[89] } h
theorem aRx (hcs0:Seg 24 cs0)
 (h:Cl k 82 #[int .i64 0] fun k1 r0=>Gt 3 r0 fun cs3=>
 Cl k1 81 #[agg cs3] fun k3 r2=>Gt 24 r2 fun cs4=>
 Cl k3 83 #[slice A1 l1 c1] fun k5 r4=>Gi r4 fun n5=>
 Br ((n5:Int) != 0) (Rt R k5 (tuple #[agg cs4,int .i64 n5])) (Tt∧(Br (decide (((l2:Nat):Int) > 64)) (Rt R k5 (tuple #[agg cs4,int .i64 4])) (∃I8:Nat→World→List Value→Prop,(∃m8,∀k8,Up k5 k8→I8 m8 k8 [int .i64 0,agg cs0])∧
 ∀m8 k8 vs8,Up k5 k8→I8 m8 k8 vs8→∃n6,∃cs7,Seg 24 cs7∧some [int .i64 n6,agg cs7]=some vs8∧
 Tt∧(Br (decide ((n6:Int)<(l2:Nat))) (Ad A2∧Ix n6 l2∧
 ∃n8,∃n9,Sy.ReadAt k8.cell? A2 (Int.toNat n6*2+0) 2 (agg #[int .i64 n8,int .i64 n9])∧
 Cl k8 84 #[slice A1 l1 c1,agg #[int .i64 n8,int .i64 n9]] fun k10 r9=>Gb r9 fun b10=>
 Br (!b10) (Rt R k10 (tuple #[agg cs4,int .i64 1])) (Ad A2∧Ix n6 l2∧
 Ad A2∧Ix n6 l2∧
 ∃n11,Sy.ReadAt k10.cell? A2 (Int.toNat n6*2+0) 1 (int .i64 n11)∧
 Ad A1∧Ix n11 l1∧
 Ad A1∧Ix n11 l1∧
 ∃cs12,Seg 3 cs12∧Sy.ReadAt k10.cell? A1 (Int.toNat n11*4+0) 3 (agg cs12)∧
 Ad A2∧Ix n6 l2∧
 Ad A2∧Ix n6 l2∧
 ∃n13,Sy.ReadAt k10.cell? A2 (Int.toNat n6*2+1) 1 (int .i64 n13)∧
 Cl k10 81 #[agg cs12] fun k13 r12=>Gt 24 r12 fun cs14=>
 Cl k13 87 #[int .i64 n13] fun k15 r14=>Gt 24 r14 fun cs15=>
 Cl k15 86 #[agg cs14,agg cs15] fun k17 r16=>Gt 24 r16 fun cs16=>
 Cl k17 85 #[agg cs7,agg cs16] fun k19 r18=>Gt 24 r18 fun cs17=>
 ∀k20,Up k19 k20→∃m,m<m8∧I8 m k20 [int .i64 (wrap .i64 (n6+1)),agg cs17])) (Rt R k8 (tuple #[agg cs7,int .i64 0]))))))) :
  CallsG Tryz.prog 36 #[agg cs0,slice A1 l1 c1,slice A2 l2 c2] k R:=
  qX { opq:=[89,104],loops:=[(0,[.tmp 11 false [.int .i64],.blk 3 [.seg 24]])] } [.agg [.seg 0 24],.one (.var 1),.one (.var 2)] [agg cs0,slice A1 l1 c1,slice A2 l2 c2] [.seg 24,.slice,.slice] ⟨⟨cs0,rfl,hcs0⟩,qS,qS,trivial⟩ h
theorem aGu 
 (h:Cl k 83 #[slice A0 l0 c0] fun k1 r0=>Gi r0 fun n2=>
 Br ((n2:Int) != 0) (Rt R k1 (int .i64 n2)) (Br (decide ((n1:Int)<0)) (Rt R k1 (int .i64 1)) (Br (decide ((n1:Int) > 2)) (Rt R k1 (int .i64 1)) (Br ((n1:Int) == 2) (Tt∧(Br (decide (((l0:Nat):Int) > 2)) (Rt R k1 (int .i64 4)) (Rt R k1 (int .i64 0)))) (Rt R k1 (int .i64 0)))))) :
  CallsG Tryz.prog 39 #[slice A0 l0 c0,int .i64 n1] k R:=
  qY { opq:=[89] } h
theorem aRp (hcs0:Seg 24 cs0) (hcs1:Seg 24 cs1)
 (h:Cl k 82 #[int .i64 0] fun k1 r0=>Gt 3 r0 fun cs6=>
 Cl k1 90 #[agg cs6] fun k3 r2=>Gt 12 r2 fun cs7=>
 Cl k3 82 #[int .i64 0] fun k5 r4=>Gt 3 r4 fun cs8=>
 Cl k5 90 #[agg cs8] fun k7 r6=>Gt 12 r6 fun cs9=>
 Cl k7 39 #[slice A2 l2 c2,int .i64 n3] fun k9 r8=>Gi r8 fun n10=>
 Br ((n10:Int) != 0) (Rt R k9 (tuple #[agg (cs7.toList++(cs9.toList++([]))).toArray,int .i64 n10])) (Tt∧((0:Int)≤(l2:Nat)∧Sy.sizeOk 8 (Int.toNat (l2:Nat))∧∀(A11:Option Addr) (l11 c11:Nat) (cs12:Array Value),l11=Int.toNat (l2:Nat)→cs12=madeCells [int .i64 0].toArray (Int.toNat (l2:Nat)*1)→l11≤c11→
 Tt∧(Br (decide (((l4:Nat):Int) > n3)) (Rt R k9 (tuple #[agg (cs7.toList++(cs9.toList++([]))).toArray,int .i64 4])) (Cl k9 36 #[agg cs0,slice A2 l2 c2,slice A4 l4 c4] fun k13 r12=>∃cs13,Seg 24 cs13∧∃n14,some (tuple #[agg cs13,int .i64 n14])=some r12∧
 Br ((n14:Int) != 0) (Rt R k13 (tuple #[agg (cs7.toList++(cs9.toList++([]))).toArray,int .i64 n14])) (∃I15:Nat→World→List Value→Prop,(∃m15,∀k15,Up k13 k15→I15 m15 k15 [int .i64 0,tuple #[slice A11 l11 c11,agg cs12]])∧
 ∀m15 k15 vs15,Up k13 k15→I15 m15 k15 vs15→∃n15,∃A16 l16 c16,∃cs17,Sy.RowC cs17∧some [int .i64 n15,tuple #[slice A16 l16 c16,agg cs17]]=some vs15∧
 Tt∧(Br (decide ((n15:Int)<(l4:Nat))) (Ad A4∧Ix n15 l4∧
 Ad A4∧Ix n15 l4∧
 ∃n18,Sy.ReadAt k15.cell? A4 (Int.toNat n15*2+0) 1 (int .i64 n18)∧
 (decide ((0:Int)≤n18∧(n18:Int)<(l16:Nat)))=true∧
 (∃n19,Sy.ReadIn cs17 (Int.toNat n18*1+0) 1 (int .i64 n19)∧
 (decide ((0:Int)≤n18∧(n18:Int)<(l16:Nat)))=true∧
 (Ix n18 l16∧∀cs20:Array Value,cs20=Sy.over cs17 (Int.toNat n18*1+0) ([int .i64 (wrap .i64 (n19+1))])→
 ∀k16,Up k15 k16→∃m,m<m15∧I15 m k16 [int .i64 (wrap .i64 (n15+1)),tuple #[slice A16 l16 c16,agg cs20]]))) (Cl k15 91 #[agg cs13] fun k18 r17=>Gt 12 r17 fun cs18=>
 Tt∧(Br (decide (((l5:Nat):Int) > n3)) (Rt R k18 (tuple #[agg (cs7.toList++(cs9.toList++([]))).toArray,int .i64 4])) (Cl k18 36 #[agg cs1,slice A2 l2 c2,slice A5 l5 c5] fun k21 r20=>∃cs19,Seg 24 cs19∧∃n20,some (tuple #[agg cs19,int .i64 n20])=some r20∧
 Br ((n20:Int) != 0) (Rt R k21 (tuple #[agg (cs7.toList++(cs9.toList++([]))).toArray,int .i64 n20])) (∃I23:Nat→World→List Value→Prop,(∃m23,∀k23,Up k21 k23→I23 m23 k23 [int .i64 0,tuple #[slice A16 l16 c16,agg cs17]])∧
 ∀m23 k23 vs23,Up k21 k23→I23 m23 k23 vs23→∃n21,∃A22 l22 c22,∃cs23,Sy.RowC cs23∧some [int .i64 n21,tuple #[slice A22 l22 c22,agg cs23]]=some vs23∧
 Tt∧(Br (decide ((n21:Int)<(l5:Nat))) (Ad A5∧Ix n21 l5∧
 Ad A5∧Ix n21 l5∧
 ∃n24,Sy.ReadAt k23.cell? A5 (Int.toNat n21*2+0) 1 (int .i64 n24)∧
 (decide ((0:Int)≤n24∧(n24:Int)<(l22:Nat)))=true∧
 (∃n25,Sy.ReadIn cs23 (Int.toNat n24*1+0) 1 (int .i64 n25)∧
 (decide ((0:Int)≤n24∧(n24:Int)<(l22:Nat)))=true∧
 (Ix n24 l22∧∀cs26:Array Value,cs26=Sy.over cs23 (Int.toNat n24*1+0) ([int .i64 (wrap .i64 (n25+1))])→
 ∀k24,Up k23 k24→∃m,m<m23∧I23 m k24 [int .i64 (wrap .i64 (n21+1)),tuple #[slice A22 l22 c22,agg cs26]]))) (Cl k23 91 #[agg cs19] fun k26 r25=>Gt 12 r25 fun cs24=>
 ∃I27:Nat→World→List Value→Prop,(∃m27,∀k27,Up k26 k27→I27 m27 k27 [int .i64 0])∧
 ∀m27 k27 vs27,Up k26 k27→I27 m27 k27 vs27→∃n25,some [int .i64 n25]=some vs27∧
 Tt∧(Br (decide ((n25:Int)<(l2:Nat))) ((decide ((0:Int)≤n25∧(n25:Int)<(l22:Nat)))=true∧
 (∃n26,Sy.ReadIn cs23 (Int.toNat n25*1+0) 1 (int .i64 n26)∧
 Ad A2∧Ix n25 l2∧
 Ad A2∧Ix n25 l2∧
 ∃n27,Sy.ReadAt k27.cell? A2 (Int.toNat n25*4+3) 1 (int .i64 n27)∧
 Br (decide ((n26:Int) > n27)) (Rt R k27 (tuple #[agg (cs7.toList++(cs9.toList++([]))).toArray,int .i64 9])) (∀k29,Up k27 k29→∃m,m<m27∧I27 m k29 [int .i64 (wrap .i64 (n25+1))]))) (Rt R k27 (tuple #[agg (cs18.toList++(cs24.toList++([]))).toArray,int .i64 0])))))))))))))))) :
  CallsG Tryz.prog 38 #[agg (cs0.toList++(cs1.toList++([]))).toArray,slice A2 l2 c2,int .i64 n3,agg #[slice A4 l4 c4,slice A5 l5 c5]] k R:=
  qX { opq:=[89,104,91],loops:=[(2,[.tmp 17 false [.int .i64],.rw 12 3 1]),(4,[.tmp 18 false [.int .i64]])] } [.agg [.seg 0 24,.seg 1 24],.one (.var 2),.one (.var 3),.agg (qV 4 2)] [agg cs0,agg cs1,slice A2 l2 c2,int .i64 n3,slice A4 l4 c4,slice A5 l5 c5] [.seg 24,.seg 24,.slice,.int .i64,.slice,.slice] ⟨⟨cs0,rfl,hcs0⟩,⟨cs1,rfl,hcs1⟩,qS,⟨_,rfl⟩,qS,qS,trivial⟩ h
theorem aBh 
 (h:Tt∧(Tt∧(((0:Int)≤(l0:Nat)∧Sy.sizeOk 64 (Int.toNat (l0:Nat))∧∀(A1:Option Addr) (l1 c1:Nat) (cs2:Array Value),l1=Int.toNat (l0:Nat)→cs2=madeCells [bool false,slice none 0 0,slice none 0 0,int .i64 0].toArray (Int.toNat (l0:Nat)*4)→l1≤c1→
 (0:Int)≤(l0:Nat)∧Sy.sizeOk 64 (Int.toNat (l0:Nat))∧∀(A3:Option Addr) (l3 c3:Nat) (cs4:Array Value),l3=Int.toNat (l0:Nat)→cs4=madeCells [bool false,slice none 0 0,slice none 0 0,int .i64 0].toArray (Int.toNat (l0:Nat)*4)→l3≤c3→
 Tt∧(∃I0:Nat→World→List Value→Prop,(∃m0,∀k0,Up k k0→I0 m0 k0 [int .i64 0,tuple #[slice A1 l1 c1,agg cs2],tuple #[slice A3 l3 c3,agg cs4]])∧
 ∀m0 k0 vs0,Up k k0→I0 m0 k0 vs0→∃n5,∃A6 l6 c6,∃cs7,Sy.RowC cs7∧∃A8 l8 c8,∃cs9,Sy.RowC cs9∧some [int .i64 n5,tuple #[slice A6 l6 c6,agg cs7],tuple #[slice A8 l8 c8,agg cs9]]=some vs0∧
 Br (decide ((n5:Int)<(l0:Nat))) (Ad A0∧Ix n5 l0∧
 ∃n10,∃n11,∃n12,Sy.ReadAt k0.cell? A0 (Int.toNat n5*3+0) 3 (agg #[int .i64 n10,int .i64 n11,int .i64 n12])∧
 Cl k0 42 #[agg #[int .i64 n10,int .i64 n11]] fun k2 r1=>Gt 3 r1 fun cs13=>
 (decide ((0:Int)≤n5∧(n5:Int)<(l6:Nat)))=true∧
 (Ix n5 l6∧∀cs14:Array Value,cs14=Sy.over cs7 (Int.toNat n5*4+0) (cs13.toList++((int .i64 n12) :: ([])))→
 Cl k2 80 #[agg #[int .i64 n10,int .i64 n11]] fun k4 r3=>Gt 3 r3 fun cs15=>
 (decide ((0:Int)≤n5∧(n5:Int)<(l8:Nat)))=true∧
 (Ix n5 l8∧∀cs16:Array Value,cs16=Sy.over cs9 (Int.toNat n5*4+0) (cs15.toList++((int .i64 n12) :: ([])))→
 ∀k5,Up k4 k5→∃m,m<m0∧I0 m k5 [int .i64 (wrap .i64 (n5+1)),tuple #[slice A6 l6 c6,agg cs14],tuple #[slice A8 l8 c8,agg cs16]]))) (∀k6,Up k0 k6→Sy.RowAt k6 A6 cs7→
 ∀k7,Up k6 k7→Sy.RowAt k7 A8 cs9→
 Rt R k7 (tuple #[slice A6 l6 c6,slice A8 l8 c8]))))∧
 ((0:Int)≤(l0:Nat)∧Sy.sizeOk 64 (Int.toNat (l0:Nat))∧∀(A1:Option Addr) (l1 c1:Nat) (cs2:Array Value),l1=Int.toNat (l0:Nat)→cs2=madeCells [bool false,slice none 0 0,slice none 0 0,int .i64 0].toArray (Int.toNat (l0:Nat)*4)→l1≤c1→
 (0:Int)≤(l0:Nat)∧Sy.sizeOk 64 (Int.toNat (l0:Nat))∧∀(A3:Option Addr) (l3 c3:Nat) (cs4:Array Value),l3=Int.toNat (l0:Nat)→cs4=madeCells [bool false,slice none 0 0,slice none 0 0,int .i64 0].toArray (Int.toNat (l0:Nat)*4)→l3≤c3→
 Tt∧(∃I9:Nat→World→List Value→Prop,(∃m9,∀k9,Up k k9→I9 m9 k9 [int .i64 0,tuple #[slice A3 l3 c3,agg cs4],tuple #[slice A1 l1 c1,agg cs2]])∧
 ∀m9 k9 vs9,Up k k9→I9 m9 k9 vs9→∃n5,∃A6 l6 c6,∃cs7,Sy.RowC cs7∧∃A8 l8 c8,∃cs9,Sy.RowC cs9∧some [int .i64 n5,tuple #[slice A6 l6 c6,agg cs7],tuple #[slice A8 l8 c8,agg cs9]]=some vs9∧
 Br (decide ((n5:Int)<(l0:Nat))) (Ad A0∧Ix n5 l0∧
 ∃n10,∃n11,∃n12,Sy.ReadAt k9.cell? A0 (Int.toNat n5*3+0) 3 (agg #[int .i64 n10,int .i64 n11,int .i64 n12])∧
 Cl k9 42 #[agg #[int .i64 n10,int .i64 n11]] fun k11 r10=>Gt 3 r10 fun cs13=>
 (decide ((0:Int)≤n5∧(n5:Int)<(l6:Nat)))=true∧
 (Ix n5 l6∧∀cs14:Array Value,cs14=Sy.over cs7 (Int.toNat n5*4+0) (cs13.toList++((int .i64 n12) :: ([])))→
 Cl k11 80 #[agg #[int .i64 n10,int .i64 n11]] fun k13 r12=>Gt 3 r12 fun cs15=>
 (decide ((0:Int)≤n5∧(n5:Int)<(l8:Nat)))=true∧
 (Ix n5 l8∧∀cs16:Array Value,cs16=Sy.over cs9 (Int.toNat n5*4+0) (cs15.toList++((int .i64 n12) :: ([])))→
 ∀k14,Up k13 k14→∃m,m<m9∧I9 m k14 [int .i64 (wrap .i64 (n5+1)),tuple #[slice A6 l6 c6,agg cs14],tuple #[slice A8 l8 c8,agg cs16]]))) (∀k15,Up k9 k15→Sy.RowAt k15 A6 cs7→
 ∀k16,Up k15 k16→Sy.RowAt k16 A8 cs9→
 Rt R k16 (tuple #[slice A6 l6 c6,slice A8 l8 c8]))))))) :
  CallsG Tryz.prog 34 #[slice A0 l0 c0] k R:=
  qY { opq:=[38,89],loops:=[(0,[.tmp 16 false [.int .i64],.rw 4 41 4,.rw 5 184 4])] } h
theorem aBg 
 (h:Tt∧(Tt∧(((0:Int)≤(l0:Nat)∧Sy.sizeOk 16 (Int.toNat (l0:Nat))∧∀(A1:Option Addr) (l1 c1:Nat) (cs2:Array Value),l1=Int.toNat (l0:Nat)→cs2=madeCells [int .i64 0,int .i64 0].toArray (Int.toNat (l0:Nat)*2)→l1≤c1→
 (0:Int)≤(l0:Nat)∧Sy.sizeOk 16 (Int.toNat (l0:Nat))∧∀(A3:Option Addr) (l3 c3:Nat) (cs4:Array Value),l3=Int.toNat (l0:Nat)→cs4=madeCells [int .i64 0,int .i64 0].toArray (Int.toNat (l0:Nat)*2)→l3≤c3→
 Tt∧(∃I0:Nat→World→List Value→Prop,(∃m0,∀k0,Up k k0→I0 m0 k0 [int .i64 0,tuple #[slice A1 l1 c1,agg cs2],tuple #[slice A3 l3 c3,agg cs4]])∧
 ∀m0 k0 vs0,Up k k0→I0 m0 k0 vs0→∃n5,∃A6 l6 c6,∃cs7,Sy.RowC cs7∧∃A8 l8 c8,∃cs9,Sy.RowC cs9∧some [int .i64 n5,tuple #[slice A6 l6 c6,agg cs7],tuple #[slice A8 l8 c8,agg cs9]]=some vs0∧
 Br (decide ((n5:Int)<(l0:Nat))) (Ad A0∧Ix n5 l0∧
 ∃n10,∃n11,Sy.ReadAt k0.cell? A0 (Int.toNat n5*2+0) 2 (agg #[int .i64 n10,int .i64 n11])∧
 (decide ((0:Int)≤n5∧(n5:Int)<(l6:Nat)))=true∧
 (Ix n5 l6∧∀cs12:Array Value,cs12=Sy.over cs7 (Int.toNat n5*2+0) ([int .i64 n10,int .i64 n11])→
 (decide ((0:Int)≤n5∧(n5:Int)<(l8:Nat)))=true∧
 (Ix n5 l8∧∀cs13:Array Value,cs13=Sy.over cs9 (Int.toNat n5*2+0) ([int .i64 n10,int .i64 n11])→
 ∀k1,Up k0 k1→∃m,m<m0∧I0 m k1 [int .i64 (wrap .i64 (n5+1)),tuple #[slice A6 l6 c6,agg cs12],tuple #[slice A8 l8 c8,agg cs13]]))) (∀k2,Up k0 k2→Sy.RowAt k2 A6 cs7→
 ∀k3,Up k2 k3→Sy.RowAt k3 A8 cs9→
 Rt R k3 (tuple #[slice A6 l6 c6,slice A8 l8 c8]))))∧
 ((0:Int)≤(l0:Nat)∧Sy.sizeOk 16 (Int.toNat (l0:Nat))∧∀(A1:Option Addr) (l1 c1:Nat) (cs2:Array Value),l1=Int.toNat (l0:Nat)→cs2=madeCells [int .i64 0,int .i64 0].toArray (Int.toNat (l0:Nat)*2)→l1≤c1→
 (0:Int)≤(l0:Nat)∧Sy.sizeOk 16 (Int.toNat (l0:Nat))∧∀(A3:Option Addr) (l3 c3:Nat) (cs4:Array Value),l3=Int.toNat (l0:Nat)→cs4=madeCells [int .i64 0,int .i64 0].toArray (Int.toNat (l0:Nat)*2)→l3≤c3→
 Tt∧(∃I5:Nat→World→List Value→Prop,(∃m5,∀k5,Up k k5→I5 m5 k5 [int .i64 0,tuple #[slice A3 l3 c3,agg cs4],tuple #[slice A1 l1 c1,agg cs2]])∧
 ∀m5 k5 vs5,Up k k5→I5 m5 k5 vs5→∃n5,∃A6 l6 c6,∃cs7,Sy.RowC cs7∧∃A8 l8 c8,∃cs9,Sy.RowC cs9∧some [int .i64 n5,tuple #[slice A6 l6 c6,agg cs7],tuple #[slice A8 l8 c8,agg cs9]]=some vs5∧
 Br (decide ((n5:Int)<(l0:Nat))) (Ad A0∧Ix n5 l0∧
 ∃n10,∃n11,Sy.ReadAt k5.cell? A0 (Int.toNat n5*2+0) 2 (agg #[int .i64 n10,int .i64 n11])∧
 (decide ((0:Int)≤n5∧(n5:Int)<(l6:Nat)))=true∧
 (Ix n5 l6∧∀cs12:Array Value,cs12=Sy.over cs7 (Int.toNat n5*2+0) ([int .i64 n10,int .i64 n11])→
 (decide ((0:Int)≤n5∧(n5:Int)<(l8:Nat)))=true∧
 (Ix n5 l8∧∀cs13:Array Value,cs13=Sy.over cs9 (Int.toNat n5*2+0) ([int .i64 n10,int .i64 n11])→
 ∀k6,Up k5 k6→∃m,m<m5∧I5 m k6 [int .i64 (wrap .i64 (n5+1)),tuple #[slice A6 l6 c6,agg cs12],tuple #[slice A8 l8 c8,agg cs13]]))) (∀k7,Up k5 k7→Sy.RowAt k7 A6 cs7→
 ∀k8,Up k7 k8→Sy.RowAt k8 A8 cs9→
 Rt R k8 (tuple #[slice A6 l6 c6,slice A8 l8 c8]))))))) :
  CallsG Tryz.prog 35 #[slice A0 l0 c0] k R:=
  qY { opq:=[],loops:=[(0,[.tmp 16 false [.int .i64],.rw 4 53 2,.rw 5 185 2])] } h
theorem yV 
 (h:Tt∧(Br (decide (((l12:Nat):Int) > 5)) (Cl k 27 #[] fun k1 r0=>Gb r0 fun b17=>
 Rt R k1 (bool b17)) (Tt∧(Br (decide (((l14:Nat):Int) > 5)) (Cl k 27 #[] fun k4 r3=>Gb r3 fun b17=>
 Rt R k4 (bool b17)) (Tt∧(Br (decide (((l15:Nat):Int) > 5)) (Cl k 27 #[] fun k7 r6=>Gb r6 fun b17=>
 Rt R k7 (bool b17)) (Cl k 33 #[agg #[int .i8 n0,int .i8 n1,int .i8 n2,int .i8 n3,int .i8 n4,int .i8 n5]] fun k10 r9=>∃cs17,Seg 18 cs17∧∃cs18,Seg 24 cs18∧some (tuple #[agg cs17,agg cs18])=some r9∧
 Cl k10 33 #[agg #[int .i8 n6,int .i8 n7,int .i8 n8,int .i8 n9,int .i8 n10,int .i8 n11]] fun k12 r11=>∃cs19,Seg 18 cs19∧∃cs20,Seg 24 cs20∧some (tuple #[agg cs19,agg cs20])=some r11∧
 Cl k12 34 #[slice A12 l12 c12] fun k14 r13=>∃A21 l21 c21,∃A22 l22 c22,some (tuple #[slice A21 l21 c21,slice A22 l22 c22])=some r13∧
 Cl k14 35 #[slice A14 l14 c14] fun k16 r15=>∃A23 l23 c23,∃A24 l24 c24,some (tuple #[slice A23 l23 c23,slice A24 l24 c24])=some r15∧
 Cl k16 35 #[slice A15 l15 c15] fun k18 r17=>∃A25 l25 c25,∃A26 l26 c26,some (tuple #[slice A25 l25 c25,slice A26 l26 c26])=some r17∧
 ∃I19:Nat→World→List Value→Prop,(∃m19,∀k19,Up k18 k19→I19 m19 k19 [int .i64 0,tuple #[slice none 0 0,agg #[]]])∧
 ∀m19 k19 vs19,Up k18 k19→I19 m19 k19 vs19→∃n27,∃A28 l28 c28,∃cs29,Sy.RowC cs29∧some [int .i64 n27,tuple #[slice A28 l28 c28,agg cs29]]=some vs19∧
 Br (decide ((n27:Int)<(Int.tmod (wrap .i64 n16) 71))) (Tt∧(Br (decide (((l14:Nat):Int) > 0)) (Tt∧((decide (((l14:Nat):Int)≠0))=true∧
 (Ad A14∧((0:Int)≤(Int.tmod n27 (l14:Nat))∧((Int.tmod n27 (l14:Nat)):Int)<(l14:Nat))∧
 ∃n30,∃n31,Sy.ReadAt k19.cell? A14 (Int.toNat (Int.tmod n27 (l14:Nat))*2+0) 2 (agg #[int .i64 n30,int .i64 n31])∧
 ∀(_A32:Option Addr) (l32 c32:Nat) (cs33:Array Value),l32=0→cs33=([]:List Value).toArray→l32≤c32→
 (cs29.toList:List Value).length=Int.toNat (l28:Nat)*2∧(0:Int)≤(l28:Nat)∧Sy.sizeOk 16 (l32+Int.toNat (l28:Nat))∧∀(_A34:Option Addr) (l34 c34:Nat) (cs35:Array Value),l34=l32+Int.toNat (l28:Nat)→cs35=cs33++(cs29.toList:List Value).toArray→l34≤c34→
 ([int .i64 n30,int .i64 n31]:List Value).length=Int.toNat 1*2∧(0:Int)≤1∧Sy.sizeOk 16 (l34+Int.toNat 1)∧∀(A36:Option Addr) (l36 c36:Nat) (cs37:Array Value),l36=l34+Int.toNat 1→cs37=cs35++([int .i64 n30,int .i64 n31]:List Value).toArray→l36≤c36→
 ∀k20,Up k19 k20→∃m,m<m19∧I19 m k20 [int .i64 (wrap .i64 (n27+1)),tuple #[slice A36 l36 c36,agg cs37]]))) (∀k21,Up k19 k21→∃m,m<m19∧I19 m k21 [int .i64 (wrap .i64 (n27+1)),tuple #[slice A28 l28 c28,agg cs29]]))) (∀k22,Up k19 k22→Sy.RowAt k22 A28 cs29→
 Cl k22 35 #[slice A28 l28 c28] fun k24 r23=>∃A30 l30 c30,∃A31 l31 c31,some (tuple #[slice A30 l30 c30,slice A31 l31 c31])=some r23∧
 Cl k24 21 #[agg cs17,slice A21 l21 c21,slice A30 l30 c30] fun k26 r25=>∃cs32,Seg 18 cs32∧∃n33,some (tuple #[agg cs32,int .i64 n33])=some r25∧
 Cl k26 36 #[agg cs18,slice A22 l22 c22,slice A31 l31 c31] fun k28 r27=>∃cs34,Seg 24 cs34∧∃n35,some (tuple #[agg cs34,int .i64 n35])=some r27∧
 Br ((n33:Int) != n35) (Rt R k28 (bool false)) (Cl k28 37 #[agg cs32,agg cs34] fun k31 r30=>Gb r30 fun b36=>
 Br (!b36) (Rt R k31 (bool false)) (Cl k31 12 #[agg (cs17.toList++(cs19.toList++([]))).toArray,slice A21 l21 c21,int .i64 n13,agg #[slice A23 l23 c23,slice A25 l25 c25]] fun k34 r33=>∃cs37,Seg 9 cs37∧∃cs38,Seg 9 cs38∧∃n39,some (tuple #[agg (cs37.toList++(cs38.toList++([]))).toArray,int .i64 n39])=some r33∧
 Cl k34 38 #[agg (cs18.toList++(cs20.toList++([]))).toArray,slice A22 l22 c22,int .i64 n13,agg #[slice A24 l24 c24,slice A26 l26 c26]] fun k36 r35=>∃cs40,Seg 12 cs40∧∃cs41,Seg 12 cs41∧∃n42,some (tuple #[agg (cs40.toList++(cs41.toList++([]))).toArray,int .i64 n42])=some r35∧
 Br ((n39:Int) == n42) (Cl k36 32 #[agg cs37,agg cs40] fun k38 r37=>Gb r37 fun b43=>
 Br b43 (Cl k38 32 #[agg cs38,agg cs41] fun k40 r39=>Gb r39 fun b44=>
 Br b44 (Cl k40 27 #[] fun k42 r41=>Gb r41 fun b45=>
 Rt R k42 (bool b45)) (Rt R k40 (bool false))) (Rt R k38 (bool false))) (Rt R k36 (bool false)))))))))))) :
  CallsG Tryz.prog 5 #[agg #[int .i8 n0,int .i8 n1,int .i8 n2,int .i8 n3,int .i8 n4,int .i8 n5,int .i8 n6,int .i8 n7,int .i8 n8,int .i8 n9,int .i8 n10,int .i8 n11],slice A12 l12 c12,int .i64 n13,agg #[slice A14 l14 c14,slice A15 l15 c15],int .u8 n16] k R:=
  qY { opq:=[38,34,32,89,104,91],loops:=[(0,[.tmp 81 false [.int .i64],.rw 21 113 2])] } h
end Go.Proofs.YtlejfhljdmbcmaaGreat

namespace Go.Proofs.YtlejfhljdmbcmaaGreat
open Go.RowKit Num
open Sy (Up Sees CallsG Seg)
def Bel (v:Q4) (b:Nat):Prop:=∃(y0 y1 y2 y3:Int) (m:Nat),0<m∧v=mkQ y0 y1 y2 y3 m∧y0.natAbs<b∧y1.natAbs<b∧y2.natAbs<b∧y3.natAbs<b∧m<b
section
variable {k k':World}{cs cs':Array Value}{R:World→Value→Prop}{v v':Q4}{x y:W4}{K L M b c:Nat}
theorem Bel.mono (h:Bel v b) (hb:b≤c):Bel v c:=by
 obtain⟨y0,y1,y2,y3,m,hm,e,h0,h1,h2,h3,h4⟩:=h;exact⟨y0,y1,y2,y3,m,hm,e,oq,oq,oq,oq,oq⟩
theorem IntV.lt {z:Int}(h:IntV k cs z K):z.natAbs<B64^K:=by
 obtain⟨s,A,n,c,e,h1,h2⟩:=h;refine qk (dA _) (qg aH ?_);rw [←h1.lim.len];exact h2
theorem SurdV.bel (h:SurdV k cs v K) (hK:1≤K):Bel v (B64^K):=by
 obtain⟨c0,c1,c2,c3,D,d,e,y0,y1,y2,y3,m,h1,hm,hg,hv,i0,i1,i2,i3,l,hd⟩:=h;refine⟨y0,y1,y2,y3,m,hm,hv,i0.lt,i1.lt,i2.lt,i3.lt,?_⟩
 by_cases e:m=1
 ·subst e;exact qk (show 1<B64^1 by decide) (qg aH hK)
 ·rw [oh e]at l;refine qk (dA _) (qg aH ?_);rw [←l.len];exact hd
theorem IntV.cutW {z:Int}(h:IntV k cs z K) (hz:z.natAbs<B64^L):IntV k cs z L:=by
 obtain⟨b,A,n,c,e,h1,h2⟩:=h;refine⟨b,A,n,c,e,h1,?_⟩;rw [h1.lim.len];exact aO hz
theorem iE {x y:Int}{m n:Nat}(hm:0<m) (hn:0<n) (h:mkRat x m=mkRat y n):x*n=y*m:=(Rat.mkRat_eq_iff oq oq).1 h
theorem SurdV.cutB (h:SurdV k cs v K) (hb:Bel v (B64^L)):SurdV k cs v L:=by
 obtain⟨c0,c1,c2,c3,D,d,e,y0,y1,y2,y3,m,h1,hm,hg,rfl,i0,i1,i2,i3,l,hd⟩:=h;obtain⟨z0,z1,z2,z3,n,hn,e,b0,b1,b2,b3,b4⟩:=hb;have e0:=iE hm hn (congrArg Q4.a e);have e1:=iE hm hn (congrArg Q4.b e);have e2:=iE hm hn (congrArg Q4.c e);have e3:=iE hm hn (congrArg Q4.d e);have dv:∀ {y z:Int},y*n=z*m→m ∣ n*y.natAbs:=by
  intro y z h;have:=congrArg Int.natAbs h;rw [wz,wz,zi,zi]at this;exact⟨z.natAbs,by rw [qx,this,qx]⟩
 have hmn:m ∣ n:=by
  have dm:m ∣ n*m:=Nat.dvd_mul_left m n;have:=xc (xc (xc (xc dm (dv e0)) (dv e1)) (dv e2)) (dv e3);rw [xk,xk,xk,xk]at this;unfold gcd5 at hg;rw [hg,zf]at this;exact this
 have le:∀ {y z:Int},y*n=z*m→y.natAbs≤z.natAbs:=by
  intro y z h;obtain⟨t,rfl⟩:=hmn;have:=congrArg Int.natAbs h;rw [wz,wz,zi,zi]at this;have ht:0<t:=Nat.pos_of_mul_pos_left hn |> fun _=>zz fun e=>by subst e;simp at hn
  have h3:y.natAbs*t*m=z.natAbs*m:=by rw [←this,jf,qx t]
  have h4:=Nat.eq_of_mul_eq_mul_right hm h3;have:=zo y.natAbs ht;omega
 have hmle:=Nat.le_of_dvd hn hmn;refine⟨c0,c1,c2,c3,D,d,_,y0,y1,y2,y3,m,h1,hm,hg,rfl,i0.cutW (jp (le e0) b0),i1.cutW (jp (le e1) b1),i2.cutW (jp (le e2) b2),i3.cutW (jp (le e3) b3),l,?_⟩;rw [l.len];refine aO ?_;split <;> omega
theorem cO {a b:Nat}{x y:Int}(hx:x.natAbs<a) (hy:y.natAbs<b):(x*y).natAbs<a*b:=by
 rw [wz];exact xr hx hy
theorem aQs (x0 x1 x2 x3 y0 y1 y2 y3:Int) {m n:Nat}(hm:0<m) (hn:0<n):mkQ (x0*n+y0*m) (x1*n+y1*m) (x2*n+y2*m) (x3*n+y3*m) (m*n)=(mkQ x0 x1 x2 x3 m).add (mkQ y0 y1 y2 y3 n):=by
 unfold mkQ Q4.add;simp only [mB _ _ hm hn]
theorem Bel.add (h:Bel v b) (h':Bel v' c):Bel (v.add v') (2*(b*c)):=by
 obtain⟨x0,x1,x2,x3,m,hm,rfl,a0,a1,a2,a3,a4⟩:=h;obtain⟨y0,y1,y2,y3,n,hn,rfl,b0,b1,b2,b3,b4⟩:=h';have p:∀ {x y:Int},x.natAbs<b→y.natAbs<c→(x*n+y*m).natAbs<2*(b*c):=by
  intro x y hx hy;have h1:=cO (x:=x) (y:=(n:Int)) hx (by rw [zi];exact b4);have h2:=cO (x:=y) (y:=(m:Int)) hy (by rw [zi];exact a4);rw [qx c b]at h2;have:=Int.natAbs_add_le (x*n) (y*m);omega
 have q:=xr a4 b4;exact⟨_,_,_,_,m*n,zw hm hn,(aQs _ _ _ _ _ _ _ _ hm hn).symm,p a0 b0,p a1 b1,p a2 b2,p a3 b3,oq⟩
theorem Bel.neg (h:Bel v b):Bel v.neg b:=by
 obtain⟨x0,x1,x2,x3,m,hm,rfl,a0,a1,a2,a3,a4⟩:=h;refine⟨-x0,-x1,-x2,-x3,m,hm,?_,oq,oq,oq,oq,a4⟩;unfold mkQ Q4.neg;simp only [mC]
theorem Bel.mul (h:Bel v b) (h':Bel v' c):Bel (v.mul v') (12*(b*c)):=by
 obtain⟨x0,x1,x2,x3,m,hm,rfl,a0,a1,a2,a3,a4⟩:=h;obtain⟨y0,y1,y2,y3,n,hn,rfl,b0,b1,b2,b3,b4⟩:=h';have q:=xr a4 b4;refine⟨_,_,_,_,m*n,zw hm hn,(aDs _ _ _ _ _ _ _ _ hm hn).symm,?_,?_,?_,?_,oq⟩
 ·have h1:=cO a0 b0;have h2:=cO a1 b1;have h3:=cO a2 b2;have h4:=cO a3 b3;omega
 ·have h1:=cO a0 b1;have h2:=cO a1 b0;have h3:=cO a2 b3;have h4:=cO a3 b2;omega
 ·have h1:=cO a0 b2;have h2:=cO a2 b0;have h3:=cO a1 b3;have h4:=cO a3 b1;omega
 ·have h1:=cO a0 b3;have h2:=cO a3 b0;have h3:=cO a1 b2;have h4:=cO a2 b1;omega
theorem pow3 (K L:Nat):12*(B64^K*B64^L)≤B64^(K+L+1):=by
 have e:B64^(K+L+1)=B64^K*B64^L*B64:=by rw [qr,jb]
 rw [e,qx 12];exact qc _ oz
theorem pow2 (K L:Nat):2*(B64^K*B64^L)≤B64^(K+L+1):=qi (oi _ oz) (pow3 K L)
theorem WaveV.cutB (h:WaveV k cs x K) (h0:Bel x.re (B64^L)) (h1:Bel x.im (B64^L)):WaveV k cs x L:=by
 obtain⟨c0,c1,e,a,b⟩:=h;exact⟨c0,c1,e,a.cutB h0,b.cutB h1⟩
theorem WaveV.bel (h:WaveV k cs x K) (hK:1≤K):Bel x.re (B64^K)∧Bel x.im (B64^K):=by
 obtain⟨c0,c1,e,a,b⟩:=h;exact⟨a.bel hK,b.bel hK⟩
theorem aTv (hx:WaveV k cs x K) (hy:WaveV k cs' y L) (hK1:1≤K) (hL1:1≤L) (hK:K≤30000000) (hL:L≤30000000) (C:∀k' ds,Up k k'→WaveV k' ds (x.add y) (K+L+1)→R k' (.agg ds)) :
 Cl k 23 #[.agg cs,.agg cs'] R:=
 aIo (hx.mono (Nat.le_max_left K L)) (hy.mono (Nat.le_max_right K L)) oq oq fun k' ds u h=>C k' ds u (h.cutB (((hx.bel hK1).1.add (hy.bel hL1).1).mono (pow2 K L)) (((hx.bel hK1).2.add (hy.bel hL1).2).mono (pow2 K L)))
theorem pow4 (K L:Nat):2*(12*(B64^K*B64^L)*(12*(B64^K*B64^L)))≤B64^(2*K+2*L+3):=
 qi (qc 2 (xa (pow3 K L) (pow3 K L))) (qi (pow2 _ _) (qg aH oq))
theorem aTw (hx:WaveV k cs x K) (hy:WaveV k cs' y L) (hK1:1≤K) (hL1:1≤L) (hK:K≤30000000) (hL:L≤30000000) (C:∀k' ds,Up k k'→WaveV k' ds (x.mul y) (2*K+2*L+3)→R k' (.agg ds)) :
 Cl k 24 #[.agg cs,.agg cs'] R:=
 vM (hx.mono (Nat.le_max_left K L)) (hy.mono (Nat.le_max_right K L)) oq oq fun k' ds u h=>C k' ds u (h.cutB ((((hx.bel hK1).1.mul (hy.bel hL1).1).add ((hx.bel hK1).2.mul (hy.bel hL1).2).neg).mono (pow4 K L)) ((((hx.bel hK1).1.mul (hy.bel hL1).2).add ((hx.bel hK1).2.mul (hy.bel hL1).1)).mono (pow4 K L)))
end
open Value (agg slice int bool tuple)
open Sy (Up Sees CallsG Seg execFn_use)
set_option maxRecDepth 100000
variable {k:World}{R:World→Value→Prop}
end Go.Proofs.YtlejfhljdmbcmaaGreat

namespace Go.Proofs.YtlejfhljdmbcmaaGreat
def aBd (f:Nat→Int):Nat→Int
 | 0=>0
 | n+1=>if aBd f n=0 then f n else aBd f n
def aXy (l:List PRate) (i:Nat):Int:=
 if 0<i∧¬ (at_ l (i-1)).f<(at_ l i).f then 7 else if (at_ l i).v<0 then 1 else if 0<i∧(at_ l i).v<(at_ l (i-1)).v then 7 else 0
def wP (l:List PRate):Int:=if l.length<1∨16<l.length then 4 else aBd (aXy l) l.length
def aYw (m:PMat):Int:=if wP m.cure≠0 then wP m.cure else if wP m.spoil≠0 then wP m.spoil else if ¬ 0<m.done∨¬ 0<m.limit then 1 else 0
def aXi (n:Nat) (c:PCell):Int:=if c.m<0∨(n:Int)≤c.m∨¬ 0<c.cap∨c.steam<0∨c.air<0 then 1 else 0
def pair (x y:PLink):Bool:=decide (y.a=x.a∧y.b=x.b∨y.a=x.b∧y.b=x.a)
def aXs (n:Nat) (L:List PLink) (i:Nat):Int:=
 if ¬ (0≤(at_ L i).a∧(at_ L i).a<n)∨¬ (0≤(at_ L i).b∧(at_ L i).b<n)∨(at_ L i).a=(at_ L i).b∨(at_ L i).v<0 then 1
 else if (List.range i).any (fun k=>pair (at_ L i) (at_ L k))=true then 8 else 0
def aJp (n:Nat) (L:List PLink):Int:=aBd (aXs n L) L.length
def nbm (L:List PLink) (i:Int):List PLink:=L.flatMap fun l=>(if l.a=i then [l] else [])++(if l.b=i then [l] else [])
def tot (L:List PLink) (i:Int) (t:Rat):Rat:=(nbm L i).foldl (fun t l=>t+l.v) t
def aXt (s:PSec) (i:Nat):Int:=if (at_ s.cells i).cap<tot s.links i ((at_ s.cells i).steam+(at_ s.cells i).air) then 60 else 0
def aNf (s:PSec):Prop:=s.mats.length<1∨8<s.mats.length∨s.cells.length<1∨24<s.cells.length∨64<s.links.length
instance (s:PSec):Decidable (aNf s):=by unfold aNf;exact inferInstance
def aTk (s:PSec):Int:=aBd (fun i=>aYw (at_ s.mats i)) s.mats.length
def aIw (s:PSec):Int:=aBd (fun i=>aXi s.mats.length (at_ s.cells i)) s.cells.length
def aDa (s:PSec):Int:=
 if aNf s then 4 else if aTk s≠0 then aTk s else if aIw s≠0 then aIw s else if aJp s.cells.length s.links≠0 then aJp s.cells.length s.links else aBd (aXt s) s.cells.length
def upto (l:List PRate) (t:Rat):Nat:=(l.takeWhile fun r=>decide (r.f≤t)).length
def spd (l:List PRate) (t:Rat):Rat:=if upto l t=0 then 0 else (at_ l (upto l t-1)).v
def flow (s:PSec) (x:PState) (u v:Rat) (i:Nat):Rat:=
 (nbm s.links i).foldl (fun t l=>t+l.v*(at_ x.temp (l.a+l.b-(i:Int)).toNat-at_ x.temp i)) ((at_ s.cells i).steam*(u-at_ x.temp i)+(at_ s.cells i).air*(v-at_ x.temp i))
def aYf (s:PSec) (x:PState) (u v:Rat) (i:Nat):Rat:=at_ x.temp i+flow s x u v i/(at_ s.cells i).cap
def aXm (s:PSec) (x:PState) (i:Nat):Rat:=at_ x.cure i+spd (at_ s.mats (at_ s.cells i).m.toNat).cure (at_ x.temp i)
def aWf (s:PSec) (x:PState) (i:Nat):Rat:=at_ x.spoil i+spd (at_ s.mats (at_ s.cells i).m.toNat).spoil (at_ x.temp i)
def aYd (s:PSec) (x:PState) (u v:Rat):PState where
 temp:=(List.range s.cells.length).map (aYf s x u v)
 cure:=(List.range s.cells.length).map (aXm s x)
 spoil:=(List.range s.cells.length).map (aWf s x)
def sized (s:PSec) (x:PState):Prop:=x.temp.length=s.cells.length∧x.cure.length=s.cells.length∧x.spoil.length=s.cells.length
instance (s:PSec) (x:PState):Decidable (sized s x):=by unfold sized;exact inferInstance
def aZg (s:PSec) (x:PState):Int:=if aDa s≠0 then aDa s else if ¬ sized s x then 4 else 0
def aZb (s:PSec) (us vs:List Rat):Nat→PState→PState
 | 0,x=>x
 | j+1,x=>aYd s (aZb s us vs j x) (at_ us j) (at_ vs j)
def aXq (s:PSec) (x:PState):Nat→Rat
 | 0=>0
 | j+1=>aXq s x j+(at_ s.cells j).cap*at_ x.temp j
section
variable {s:PSec}(h:aDa s=0)
include h
end
open Go.RowKit Num W32
open Sy (Up Sees CallsG Seg)
def Wd (q:Rat) (L:Nat):Prop:=∃(a:Int) (m:Nat),0<m∧q=mkRat a m∧a.natAbs<B64^L∧m<B64^L
section
variable {k k':World}{cs cs':Array Value}{R:World→Value→Prop}{x y:Rat}{K L M:Nat}
end
open IntKind (wrap)
theorem aVk {q:Rat}:0<q.num↔0<q:=by
 constructor
 ·intro h;refine Rat.not_le.1 fun h1=>?_;have h0:0≤q:=Rat.num_nonneg.1 oq;have h2:q=0:=Rat.le_antisymm h1 h0;rw [h2]at h;exact absurd h oz
 ·intro h;have h1:0≤q.num:=Rat.num_nonneg.2 (Rat.le_of_lt h);rcases Int.lt_or_eq_of_le h1 with h2|h2
  ·exact h2
  ·have:=wm.1 h2.symm;rw [this]at h;exact absurd h oz
theorem nY {q:Rat}:decide ((q.num.sign:Int) > 0)=decide (0<q):=by
 refine decide_eq_decide.2 ?_;rw [←aVk];rcases Int.lt_trichotomy q.num 0 with h|h|h
 ·rw [vd h];omega
 ·rw [h];decide
 ·rw [xt h];omega
theorem bT {j:Nat}(h2:j<1000000):wrap .i64 ((j:Int)+1)=((j+1:Nat):Int):=by rw [zt];omega
theorem bW {j n:Nat}(h:decide ((j:Int)<(n:Nat))=true):j<n:=by have:=ow h;omega
theorem cH {j n:Nat}(h:decide ((j:Int)<(n:Nat))=false):n≤j:=by have:=ov h;omega
abbrev NP (K:Nat):World→Array Value→Rat→Prop:=fun k cs q=>RatV k cs q K
section
variable {k k':World}{R:World→Value→Prop}{cs cs':Array Value}{x y:Rat}{K L n c:Nat}{A:Option Addr}
end
open Go.RowKit Num Plain W32
open Sy (Up Sees CallsG Seg ReadAt)
section
variable {k:World}{R:World→Value→Prop}{n0 n1 n2 c0 c1 c2 p K:Nat}{A0 A1 A2:Option Addr}{x:PPl}{l:List PPl}{st:List PWt}{y:PWt}{cs:Array Value}{w:W4}
theorem aVg (hB:Sy.Blk k p 42 #[.slice A0 n0 c0]) (C:∀k',Up k k'→R k' (.bool (decide (fL n0 x)))) :
 Cl k 114 #[.agg #[.int .i64 x.w,.int .i64 x.p],.pointer (some ⟨p,0,none⟩)] R:=by
 intro k0 u0;have tt:fL n0 x→∀k1,Up k0 k1→R k1 (.bool true):=fun h k1 u1=>by
  have:=C k1 (u0.trans u1)
  rwa [decide_eq_true h]at this
 refine aQv (hB.up u0) ⟨fun h=>tt (.inl (ow h)),fun h1=>⟨rfl,fun h=>tt (.inr (.inl (ow h))),fun h2=>⟨fun h=>tt (.inr (.inr (.inl (ow h)))),fun h3 k4 u4=>?_⟩⟩⟩;have:=C k4 (u0.trans u4);have h1:=ov h1;have h2:=ov h2;have h3:=ov h3
 rwa [show decide (fL n0 x)=decide (x.p ≥ 24) from decide_eq_decide.2 ⟨fun g=>by unfold fL at g;omega,fun g=>.inr (.inr (.inr g))⟩]at this
theorem aVa (hl:Lst k A1 n1 2 PlV l) (hn:n1≤100000) (hB:Sy.Blk k p 42 #[.slice A0 n0 c0]) (C:∀k' (z:Int),Up k k'→(0≤z↔vQ (fL n0) l)→R k' (.int .i64 z)) :
 Cl k 177 #[.slice A1 n1 c1,.func (.func 114) #[] #[.pointer (some ⟨p,0,none⟩)]] R:=by
 intro k0 u0;have en:=hl.1;refine aQf ⟨rfl,fun m k vs=>∃j:Nat,j+m=n1∧vs=[.int .i64 j]∧∀i,i<j→¬ fL n0 (at_ l i),⟨n1,fun k1 u1=>⟨0,oq,rfl,fun i hi=>absurd hi (xx _)⟩⟩,?_⟩;rintro m k1 _ u1 ⟨j,hj,rfl,hno⟩;refine⟨_,rfl,fun hlt=>?_,fun hge k5 u5=>?_⟩
 ·have hlt:=bW hlt;have v1:=u0.trans u1;obtain⟨a,_,e,ha,hb,hr,_⟩:=(hl.up v1 fun _ _ h=>h).el (i:=j) oq oz;unfold PlV at e;subst e
  exact⟨ha,hb,_,_,hr k1 (Up.refl _),aVg (x:=at_ l j) (hB.up v1) fun k2 u2=>⟨_,rfl,fun b k3 u3=>C k3 _ (v1.trans (u2.trans u3)) ⟨fun _=>⟨j,oq,ow b⟩,fun _=>oq⟩,
   fun b k4 u4=>⟨m-1,oq,j+1,oq,by rw [bT oq],oY hno (ov b)⟩⟩⟩
 ·have hge:=cH hge;exact C k5 _ (u0.trans (u1.trans u5)) ⟨fun h=>absurd h oz,fun ⟨i,hi,hb⟩=>absurd hb (hno i oq)⟩
theorem aUt (hl:Lst k A1 n1 2 PlV l) (hn:n1≤100000) (hB:Sy.Blk k p 42 #[.slice A0 n0 c0]) (C:∀k',Up k k'→R k' (.bool (decide (vQ (fL n0) l)))) :
 Cl k 115 #[.slice A1 n1 c1,.func (.func 114) #[] #[.pointer (some ⟨p,0,none⟩)]] R:=fun k0 u0=>
 aPr (aVa (hl.up u0 fun _ _ h=>h) hn (hB.up u0) fun k1 z u1 h=>⟨z,rfl,fun k2 u2=>by
  have:=C k2 (u0.trans (u1.trans u2))
  rwa [show decide (vQ (fL n0) l)=decide (z ≥ 0) from decide_eq_decide.2 h.symm]at this⟩)
theorem oO (hl:Lst k A1 n1 2 PlV l) (hn:n1≤100000) (C:∀k',Up k k'→R k' (.int .i64 (plE n0 l))) :
 Cl k 57 #[.slice A0 n0 c0,.slice A1 n1 c1] R:=fun k0 u0=>
 aVh fun p k1 u1 hB=>aUt (hl.up (u0.trans u1) fun _ _ h=>h) hn hB fun k2 u2=>⟨_,rfl,fun h k3 u3=>by
  have:=C k3 (u0.trans (u1.trans (u2.trans u3)))
  rwa [show plE n0 l=1 from od (ow h)]at this,fun h k4 u4=>by
  have:=C k4 (u0.trans (u1.trans (u2.trans u4)))
  rwa [show plE n0 l=0 from oh (ov h)]at this⟩
theorem aVi (hy:WtV (NP K) k cs y) (hK:K≤100000000) (C:∀k',Up k k'→R k' (.bool (decide (qL y)))) :
 Cl k 136 #[.agg cs] R:=by
 intro k0 u0;obtain⟨c0,rfl,h0⟩:=hy;refine aQz h0.seg (mP (h0.up u0) oq fun k1 u1=>⟨_,rfl,fun h k2 u2=>?_,fun h k3 u3=>?_⟩)
 ·have:=C k2 (u0.trans (u1.trans u2));have h:=ow h;have hp:¬ 0<y.g:=fun g=>by
   have:y.g.num.sign > 0:=(decide_eq_decide.1 nY).2 g;omega
  rwa [decide_eq_true (show qL y from .inl hp)]at this
 ·have:=C k3 (u0.trans (u1.trans u3));have h:=ov h;have hp:0<y.g:=(decide_eq_decide.1 nY).1 oq
  rwa [show decide (qL y)=decide (y.c<0) from decide_eq_decide.2 ⟨fun g=>g.resolve_left fun c=>c hp,.inr⟩]at this
theorem aVb (hl:Lst k A0 n0 4 (WtV (NP K) k) st) (hn:n0≤100000) (hK:K≤100000000) (C:∀k' (z:Int),Up k k'→(0≤z↔vQ qL st)→R k' (.int .i64 z)) :
 Cl k 186 #[.slice A0 n0 c0,.func (.func 136) #[] #[]] R:=by
 intro k0 u0;have en:=hl.1;have hN:=nL K;refine aQg ⟨rfl,fun m k vs=>∃j:Nat,j+m=n0∧vs=[.int .i64 j]∧∀i,i<j→¬ qL (at_ st i),⟨n0,fun k1 u1=>⟨0,oq,rfl,fun i hi=>absurd hi (xx _)⟩⟩,?_⟩;rintro m k1 _ u1 ⟨j,hj,rfl,hno⟩;refine⟨_,rfl,fun hlt=>?_,fun hge k5 u5=>?_⟩
 ·have hlt:=bW hlt;have v1:=u0.trans u1;obtain⟨a,_,e,ha,hb,hr,_⟩:=(hl.up v1 fun _ _ h=>WtV.up hN h v1).el (i:=j) oq oz;have e':=e;obtain⟨b0,rfl,h0⟩:=e
  exact⟨ha,hb,b0,h0.seg,_,hr k1 (Up.refl _),aVi e' hK fun k2 u2=>⟨_,rfl,fun b k3 u3=>C k3 _ (v1.trans (u2.trans u3)) ⟨fun _=>⟨j,oq,ow b⟩,fun _=>oq⟩,
   fun b k4 u4=>⟨m-1,oq,j+1,oq,by rw [bT oq],oY hno (ov b)⟩⟩⟩
 ·have hge:=cH hge;exact C k5 _ (u0.trans (u1.trans u5)) ⟨fun h=>absurd h oz,fun ⟨i,hi,hb⟩=>absurd hb (hno i oq)⟩
theorem aUu (hl:Lst k A0 n0 4 (WtV (NP K) k) st) (hn:n0≤100000) (hK:K≤100000000) (C:∀k',Up k k'→R k' (.bool (decide (vQ qL st)))) :
 Cl k 135 #[.slice A0 n0 c0,.func (.func 136) #[] #[]] R:=fun k0 u0=>
 aPs (aVb (hl.up u0 fun _ _ h=>WtV.up (nL K) h u0) hn hK fun k1 z u1 h=>⟨z,rfl,fun k2 u2=>by
  have:=C k2 (u0.trans (u1.trans u2))
  rwa [show decide (vQ qL st)=decide (z ≥ 0) from decide_eq_decide.2 h.symm]at this⟩)
theorem sF (hl:Lst k A0 n0 4 (WtV (NP K) k) st) (hK:K≤100000000) (C:∀k',Up k k'→R k' (.int .i64 (cC st))) :
 Cl k 70 #[.slice A0 n0 c0] R:=by
 intro k0 u0;have en:=hl.1;have go:∀e:Int,cC st=e→∀k1,Up k0 k1→R k1 (.int .i64 e):=fun e he k1 u1=>by rw [←he];exact C k1 (u0.trans u1)
 unfold cC at go;refine aVj ⟨rfl,fun h=>go 4 (od (by have:=ow h;omega)),fun h=>?_⟩;have h:=ov h;rw [oh oq]at go;exact aUu (hl.up u0 fun _ _ h=>WtV.up (nL K) h u0) oq hK fun k1 u1=>⟨_,rfl,fun b k3 u3=>go 1 (od (ow b)) k3 (u1.trans u3),fun b k4 u4=>go 0 (oh (ov b)) k4 (u1.trans u4)⟩
theorem aRa {z:Int}(hl:Lst k A0 n0 4 (WtV (NP K) k) st) (hK:K≤100000000) (C:∀k',Up k k'→R k' (.int .i64 (fH st z))) :
 Cl k 53 #[.slice A0 n0 c0,.int .i64 z] R:=by
 intro k0 u0;have en:=hl.1;have go:∀e:Int,fH st z=e→∀k1,Up k0 k1→R k1 (.int .i64 e):=fun e he k1 u1=>by rw [←he];exact C k1 (u0.trans u1)
 unfold fH at go;refine aKc (sF (hl.up u0 fun _ _ h=>WtV.up (nL K) h u0) hK fun k1 u1=>⟨_,rfl,fun h k2 u2=>go _ (od (by simpa using h)) k2 (u1.trans u2),fun h=>?_⟩);have h:cC st=0:=by simpa using h
 rw [oh (by simp [h])]at go;refine⟨fun h k3 u3=>go 1 (od (.inl (ow h))) k3 (u1.trans u3),fun h1=>⟨fun h k4 u4=>go 1 (od (.inr (ow h))) k4 (u1.trans u4),fun h2=>?_⟩⟩;have h1:=ov h1;have h2:=ov h2;rw [oh oq]at go;refine⟨fun h3=>⟨rfl,fun h4 k5 u5=>go 4 (od ⟨eq_of_beq h3,by have:=ow h4;omega⟩) k5 (u1.trans u5),fun h4 k6 u6=>go 0 (oh fun g=>by have:=ov h4;omega) k6 (u1.trans u6)⟩,fun h3 k7 u7=>go 0 (oh fun g=>by rw [g.1]at h3;cases h3) k7 (u1.trans u7)⟩
theorem aZf {a:Array Value}(h:WtV (NP K) k a y):∃c0,RatV k c0 y.g K∧∀(q:Nat) u,c0[q]?=some u→a[0+q]?=some u:=by
 obtain⟨c0,rfl,h0⟩:=h;exact⟨c0,h0,fun q u hq=>by rw [qe];exact aTe hq⟩
theorem jE (hx:WaveV k cs w K) (hst:Lst k A1 n1 4 (WtV (NP 1) k) st) (hl:Lst k A2 n2 2 PlV l) (hok:∀i,i<l.length→¬ fL st.length (at_ l i)) (hn:n2≤64) (hK1:1≤K) (hK:K≤1000000)
 (C:∀k' ds,Up k k'→WaveV k' ds (zR w st l) (K+512)→R k' (.agg ds)) :
 Cl k 58 #[.agg cs,.slice A1 n1 c1,.slice A2 n2 c2] R:=by
 intro k0 u0;have e1:=hst.1;have e2:=hl.1;have hN:=nL 1;refine aQw hx.seg ⟨rfl,fun m k vs=>∃(j:Nat) (c:Array Value),j+m=n2∧vs=[.int .i64 j,.agg c]∧WaveV k c (aEd w st l j) (K+8*j),⟨n2,fun k1 u1=>⟨0,cs,oq,rfl,hx.up (u0.trans u1)⟩⟩,?_⟩;rintro m k1 _ u1 ⟨j,c,hj,rfl,hc⟩;have v1:=u0.trans u1;refine⟨_,c,hc.seg,rfl,fun hlt=>?_,fun hge k10 u10=>?_⟩
 ·have hlt:=bW hlt;have hb:=hok j oq;unfold fL at hb;obtain⟨a,_,e,ha,hb2,hr,_⟩:=(hl.up v1 fun _ _ h=>h).el (i:=j) oq oz;unfold PlV at e;subst e;have hmi:(at_ l j).w=(((at_ l j).w.toNat:Nat):Int):=oq
  obtain⟨b,_,hw,ha',hb',_,hr'⟩:=(hst.up v1 fun _ _ h=>WtV.up hN h v1).el (i:=(at_ l j).w.toNat) oq oz;rw [←hmi]at hb' hr';obtain⟨g0,hg,hcut⟩:=aZf hw;refine⟨ha,hb2,_,_,hr k1 (Up.refl _),ha',hb',ha',hb',g0,hg.seg,hr' k1 g0 0 3 (Up.refl _) hg.seg.1 hcut,?_⟩;refine aXb hc hg fun k2 d2 u2 h2=>⟨d2,h2.seg,rfl,?_⟩;refine rL fun k4 d4 u4 h4=>⟨d4,h4.seg,rfl,?_⟩;refine aTw (h2.up u4) h4 oz oz oz oz fun k6 d6 u6 h6=>⟨d6,h6.seg,rfl,?_⟩;refine aTv (hc.up (u2.trans (u4.trans u6))) h6 oq oz oq oz fun k8 d8 u8 h8=>⟨d8,h8.seg,rfl,fun k9 u9=>?_⟩;exact⟨m-1,oq,j+1,d8,oq,by rw [bT oq],(h8.up u9).mono oq⟩
 ·have hge:=cH hge;obtain rfl:j=l.length:=oq
  exact C k10 c (v1.trans u10) ((hc.up u10).mono oq)
theorem wE (hx:WaveV k cs w K) (hst:Lst k A1 n1 4 (WtV (NP 1) k) st) (hl:Lst k A2 n2 2 PlV l) (hn:n2≤100000) (hK1:1≤K) (hK:K≤1000000)
 (C:∀k' ds,Up k k'→WaveV k' ds (tN w st l) (K+512)→R k' (.tuple #[.agg ds,.int .i64 (qQ st l)])) :
 Cl k 21 #[.agg cs,.slice A1 n1 c1,.slice A2 n2 c2] R:=by
 intro k0 u0;have e2:=hl.1;have hN:=nL 1;have bad:∀e:Int,qQ st l=e→e≠0→∀k1,Up k0 k1→R k1 (.tuple #[.agg #[Value.bool false,Value.slice none 0 0,Value.bool false,Value.slice none 0 0,Value.bool false,Value.slice none 0 0,Value.bool false,Value.slice none 0 0,Value.slice none 0 0,Value.bool false,Value.slice none 0 0,Value.bool false,Value.slice none 0 0,Value.bool false,Value.slice none 0 0,Value.bool false,Value.slice none 0 0,Value.slice none 0 0],.int .i64 e]):=fun e he h0 k1 u1=>by
  rw [←he];exact C k1 _ (u0.trans u1) (by unfold tN;rw [od (by rw [he];exact h0)];exact WaveV.nil)
 have er:qQ st l=if cC st≠0 then cC st else if 64<l.length then 4 else plE st.length l:=rfl;refine aQm hx.seg (sF (hst.up u0 fun _ _ h=>WtV.up hN h u0) oz fun k1 u1=>⟨_,rfl,fun h k2 u2=>?_,fun h=>⟨rfl,fun h2 k3 u3=>?_,fun h2=>?_⟩⟩)
 ·have h:cC st≠0:=by simpa using h
  exact bad _ (by rw [er,od h]) h k2 (u1.trans u2)
 ·have h:cC st=0:=by simpa using h
  exact bad 4 (by rw [er,oh (by simp [h]),if_pos (by have:=ow h2;omega)]) oz k3 (u1.trans u3)
 ·have h:cC st=0:=by simpa using h
  have h2:=ov h2;have es:=hst.1;have er:qQ st l=plE st.length l:=by rw [er,oh (by simp [h]),if_neg oq]
  refine oO (hl.up (u0.trans u1) fun _ _ h=>h) hn fun k5 u5=>⟨_,rfl,fun h3 k6 u6=>?_,fun h3=>?_⟩
  ·have h3:plE n1 l≠0:=by simpa using h3
   exact bad _ (by rw [er,es]) h3 k6 (u1.trans (u5.trans u6))
  ·have h3:plE st.length l=0:=by rw [←es];simpa using h3
   have v5:=u0.trans (u1.trans u5);refine jE (hx.up v5) (hst.up v5 fun _ _ h=>WtV.up hN h v5) (hl.up v5 fun _ _ h=>h) (zN h3) oq hK1 hK fun k8 d8 u8 h8=>⟨d8,h8.seg,rfl,fun k9 u9=>?_⟩;have:=C k9 d8 (v5.trans (u8.trans u9)) (by unfold tN;rw [oh (by rw [er,h3];simp)];exact h8.up u9)
   rwa [er,h3]at this
def lJ (a:Array Value) (z:Int):Prop:=a=#[.int .i64 z]
theorem nG:∀a z,lJ a z→Seg 1 a:=fun a z h=>by
 unfold lJ at h;subst h;exact⟨rfl,by simp [Value.scalar,Value.noWord]⟩
theorem aZe {a:Array Value}(h:WtV (NP K) k a y):a[3]?=some (.int .i64 y.c):=by
 obtain⟨c0,rfl,h0⟩:=h;exact aTf (d:=3) (q:=0) h0.seg.1 rfl
theorem aNq {i j:Nat}:dD l i (j+1)=dD l i j+if (at_ l j).w=i then 1 else 0:=rfl
theorem mX {n j i:Nat}{cs:Array Value}{f:Nat→Nat}{l:List PPl}(hA:ArrV n 1 lJ cs fun i=>((f i+dD l i j:Nat):Int)) (hi:i<n) (hw:(at_ l j).w=(i:Int)) (hf:f i≤1000) (hj:j≤1000) :
 Sy.ReadIn cs (Int.toNat (i:Int)*1+0) 1 (Value.int .i64 ((f i+dD l i j:Nat):Int))∧ArrV n 1 lJ (Sy.over cs (Int.toNat (i:Int)*1+0) ([Value.int .i64 (wrap .i64 (((f i+dD l i j:Nat):Int)+1))])) fun i=>((f i+dD l i (j+1):Nat):Int):=by
 have hle:=rJ (l:=l) (i:=i) j;refine⟨?_,?_⟩
 ·obtain⟨a,_,e,hr⟩:=hA.read hi;unfold lJ at e;subst e;have:=mW (a:=#[Value.int .i64 ((f i+dD l i j:Nat):Int)]) (v:=Value.int .i64 ((f i+dD l i j:Nat):Int)) (j:=0) rfl rfl;exact hr 0 1 _ this.1 this.2
 ·have hs:=hA.set (i:=i) (ys:=#[Value.int .i64 (wrap .i64 (((f i+dD l i j:Nat):Int)+1))]) (g:=fun i=>((f i+dD l i (j+1):Nat):Int)) hi rfl ?_ fun q _ hne=>?_
  ·exact hs
  ·unfold lJ;rw [aNq,od hw,bT oq];rfl
  ·rw [aNq,oh (fun e=>hne (by rw [hw]at e;omega)),jj]
theorem aJu {z:Int}{cs':Array Value}{w':W4}{l':List PPl}{n3 c3:Nat}{A3:Option Addr}(hx:WaveV k cs w K) (hy:WaveV k cs' w' K) (hst:Lst k A1 n1 4 (WtV (NP 1) k) st) (hl:Lst k A2 n2 2 PlV l) (hl':Lst k A3 n3 2 PlV l') (hn:n2≤60) (hn':n3≤60) (hK1:1≤K) (hK:K≤100000)
 (C:∀k' d0 d1,Up k k'→SurdV k' d0 (qN (qM st z l l') (zR w st l).norm) (4*K+2057)→SurdV k' d1 (qN (qM st z l l') (zR w' st l').norm) (4*K+2057)→R k' (.tuple #[.agg (d0.toList++(d1.toList++([]))).toArray,.int .i64 (qM st z l l')])) :
 Cl k 12 #[.agg (cs.toList++(cs'.toList++([]))).toArray,.slice A1 n1 c1,.int .i64 z,.agg #[.slice A2 n2 c2,.slice A3 n3 c3]] R:=by
 intro k0 u0;have e1:=hst.1;have e2:=hl.1;have e3:=hl'.1;have hN:=nL 1;have bad:∀e:Int,qM st z l l'=e→e≠0→∀k1,Up k0 k1→R k1 (.tuple #[.agg #[Value.bool false,Value.slice none 0 0,Value.bool false,Value.slice none 0 0,Value.bool false,Value.slice none 0 0,Value.bool false,Value.slice none 0 0,Value.slice none 0 0,Value.bool false,Value.slice none 0 0,Value.bool false,Value.slice none 0 0,Value.bool false,Value.slice none 0 0,Value.bool false,Value.slice none 0 0,Value.slice none 0 0],.int .i64 e]):=fun e he h0 k1 u1=>by
  have:=C k1 #[Value.bool false,Value.slice none 0 0,Value.bool false,Value.slice none 0 0,Value.bool false,Value.slice none 0 0,Value.bool false,Value.slice none 0 0,Value.slice none 0 0] #[Value.bool false,Value.slice none 0 0,Value.bool false,Value.slice none 0 0,Value.bool false,Value.slice none 0 0,Value.bool false,Value.slice none 0 0,Value.slice none 0 0] (u0.trans u1) (by unfold qN;rw [od (by rw [he];exact h0)];exact SurdV.nil oq) (by unfold qN;rw [od (by rw [he];exact h0)];exact SurdV.nil oq)
  rwa [he]at this
 have er:qM st z l l'=if fH st z≠0 then fH st z else if z<l.length then 4 else if plE st.length l≠0 then plE st.length l else if z<l'.length then 4 else if plE st.length l'≠0 then plE st.length l'
  else if ∃i,i<st.length∧(at_ st i).c<xH l l' i then 9 else 0:=rfl
 refine aQo hx.seg hy.seg (aRa (hst.up u0 fun _ _ h=>WtV.up hN h u0) oz fun k1 u1=>⟨_,rfl,fun h k2 u2=>?_,fun h=>⟨rfl,?_⟩⟩)
 ·have h:fH st z≠0:=by simpa using h
  exact bad _ (by rw [er,od h]) h k2 (u1.trans u2)
 have h:fH st z=0:=by simpa using h
 rw [oh (by simp [h])]at er;have hs4:st.length≤4:=by
  unfold fH at h;split at h
  ·rename_i g;exact absurd h g
  ·rename_i g;exact (aAk (by simpa using g)).1
 refine⟨oq,⟨by simp;omega,by simp;omega⟩,?_⟩;rintro A7 n1 c7 _ rfl rfl _;have hz:ArrV n1 1 lJ (madeCells [Value.int .i64 0].toArray (Int.toNat ((n1:Nat):Int)*1)) fun i=>(((fun _=>0:Nat→Nat) i+dD l i 0:Nat):Int):=by
  rw [ol];exact ArrV.made (z:=[Value.int .i64 0]) rfl (0:Int) rfl
 rw [ol];rw [ol]at hz;generalize madeCells [Value.int .i64 0].toArray (n1*1)=r8 at hz;refine⟨rfl,fun g k3 u3=>?_,fun g=>?_⟩
 ·exact bad 4 (by rw [er,od (by have:=ow g;omega)]) oz k3 (u1.trans u3)
 have g:=ov g;rw [oh oq]at er;refine oO (hl.up (u0.trans u1) fun _ _ h=>h) oq fun k5 u5=>⟨_,rfl,fun h3 k6 u6=>?_,fun h3=>⟨rfl,?_⟩⟩
 ·have h3:plE st.length l≠0:=by rw [←e1];simpa using h3
  rw [e1];exact bad _ (by rw [er,od h3]) h3 k6 (u1.trans (u5.trans u6))
 have h3:plE st.length l=0:=by rw [←e1];simpa using h3
 rw [oh (by simp [h3])]at er;have hok:=zN h3;have v5:=u0.trans (u1.trans u5);refine⟨fun m k vs=>∃(j:Nat) (r:Array Value),j+m=n2∧vs=[.int .i64 j,.tuple #[.slice A7 n1 c7,.agg r]]∧ArrV n1 1 lJ r fun i=>(((fun _=>0:Nat→Nat) i+dD l i j:Nat):Int),⟨n2,fun k7 u7=>⟨0,r8,oq,rfl,hz⟩⟩,?_⟩;rintro m k7 _ u7 ⟨j,r,hj,rfl,hr⟩;have v7:=v5.trans u7;refine⟨_,_,_,_,r,hr.rowC nG,rfl,fun hlt=>?_,fun hge=>?_⟩
 ·have hlt:=bW hlt;have hb:=hok j oq;unfold fL at hb;obtain⟨a,_,e,ha,hb2,hrd,_⟩:=(hl.up v7 fun _ _ h=>h).el (i:=j) oq oz;unfold PlV at e;subst e;obtain⟨q,hq⟩:∃q:Nat,(at_ l j).w=(q:Int):=⟨(at_ l j).w.toNat,oq⟩;rw [hq]at hrd hb;obtain⟨r1,r2⟩:=mX (i:=q) hr oq hq (jr _) oq;refine⟨ha,hb2,_,_,hrd k7 (Up.refl _),ixD oq,_,r1,ixD oq,⟨oq,oq⟩,?_⟩;rintro _ rfl k8 u8;exact⟨m-1,oq,j+1,_,oq,by rw [bT oq],r2⟩
 have hge:=cH hge;obtain rfl:j=l.length:=oq
 refine jE (hx.up v7) (hst.up v7 fun _ _ h=>WtV.up hN h v7) (hl.up v7 fun _ _ h=>h) hok oq hK1 oq fun k10 d10 u10 w10=>⟨d10,w10.seg,rfl,?_⟩;refine vN w10 oq oq fun k12 d12 u12 w12=>⟨d12,w12.seg,rfl,rfl,fun g2 k13 u13=>?_,fun g2=>?_⟩
 ·exact bad 4 (by rw [er,od (by have:=ow g2;omega)]) oz k13 (u1.trans (u5.trans (u7.trans (u10.trans (u12.trans u13)))))
 have g2:=ov g2;rw [oh oq]at er;have v12:=v7.trans (u10.trans u12);have y12:=u1.trans (u5.trans (u7.trans (u10.trans u12)));refine oO (hl'.up v12 fun _ _ h=>h) oq fun k15 u15=>⟨_,rfl,fun h4 k16 u16=>?_,fun h4=>⟨rfl,?_⟩⟩
 ·have h4:plE st.length l'≠0:=by rw [←e1];simpa using h4
  rw [e1];exact bad _ (by rw [er,od h4]) h4 k16 (y12.trans (u15.trans u16))
 have h4:plE st.length l'=0:=by rw [←e1];simpa using h4
 rw [oh (by simp [h4])]at er;have hok':=zN h4;have v15:=v12.trans u15;have hr0:ArrV n1 1 lJ r fun i=>(((fun i=>dD l i l.length:Nat→Nat) i+dD l' i 0:Nat):Int):=hr.congr fun i _=>by
  show (((0+dD l i l.length:Nat)):Int)=((dD l i l.length+0:Nat):Int);omega
 refine⟨fun m k vs=>∃(j:Nat) (r:Array Value),j+m=n3∧vs=[.int .i64 j,.tuple #[.slice A7 n1 c7,.agg r]]∧ArrV n1 1 lJ r fun i=>(((fun i=>dD l i l.length:Nat→Nat) i+dD l' i j:Nat):Int),⟨n3,fun k7 u7=>⟨0,r,oq,rfl,hr0⟩⟩,?_⟩;rintro m' k17 _ u17 ⟨j,r',hj',rfl,hr'⟩;have v17:=v15.trans u17;refine⟨_,_,_,_,r',hr'.rowC nG,rfl,fun hlt=>?_,fun hge'=>?_⟩
 ·have hlt:=bW hlt;have hb:=hok' j oq;unfold fL at hb;obtain⟨a,_,e,ha,hb2,hrd,_⟩:=(hl'.up v17 fun _ _ h=>h).el (i:=j) oq oz;unfold PlV at e;subst e;obtain⟨q,hq⟩:∃q:Nat,(at_ l' j).w=(q:Int):=⟨(at_ l' j).w.toNat,oq⟩;rw [hq]at hrd hb;obtain⟨r1,r2⟩:=mX (i:=q) hr' oq hq (by have:=rJ (l:=l) (i:=q) l.length;show dD l q l.length≤1000;omega) oq;refine⟨ha,hb2,_,_,hrd k17 (Up.refl _),ixD oq,_,r1,ixD oq,⟨oq,oq⟩,?_⟩;rintro _ rfl k8 u8;exact⟨m'-1,oq,j+1,_,oq,by rw [bT oq],r2⟩
 have hge':=cH hge';obtain rfl:j=l'.length:=oq
 refine jE (hy.up v17) (hst.up v17 fun _ _ h=>WtV.up hN h v17) (hl'.up v17 fun _ _ h=>h) hok' oq hK1 oq fun k20 d20 u20 w20=>⟨d20,w20.seg,rfl,?_⟩;refine vN w20 oq oq fun k22 d22 u22 w22=>⟨d22,w22.seg,rfl,rfl,?_⟩;have y22:=y12.trans (u15.trans (u17.trans (u20.trans u22)));have v22:=v17.trans (u20.trans u22);refine⟨fun m k vs=>∃j:Nat,j+m=n1∧vs=[.int .i64 j]∧∀i,i<j→¬ (at_ st i).c<xH l l' i,⟨n1,fun k7 u7=>⟨0,oq,rfl,fun i hi=>absurd hi (xx _)⟩⟩,?_⟩;rintro m'' k23 _ u23 ⟨q,hq,rfl,hno⟩;refine⟨_,rfl,fun hlt=>?_,fun hge'' k26 u26=>?_⟩
 ·have hlt:=bW hlt;have v23:=v22.trans u23;obtain⟨a,_,e,hr1⟩:=hr'.read (i:=q) hlt;unfold lJ at e;subst e;have hc1:=mW (a:=#[Value.int .i64 ((dD l q l.length+dD l' q l'.length:Nat):Int)]) (v:=Value.int .i64 ((dD l q l.length+dD l' q l'.length:Nat):Int)) (j:=0) rfl rfl;have hst23:=hst.up v23 fun _ _ h=>WtV.up hN h v23;obtain⟨_,_,_,ha,hb,_⟩:=hst23.el (i:=q) oq oz;obtain⟨b,_,hw,_,hrd⟩:=hst23.2.el (i:=q) hlt oz;have hc2:=mW (j:=3) (v:=.int .i64 (at_ st q).c) rfl (aZe hw);refine⟨ixD hlt,_,hr1 0 1 _ hc1.1 hc1.2,ha,hb,ha,hb,_,hrd k23 (Up.refl _) 3 1 _ hc2.1 hc2.2,fun f k24 u24=>?_,fun f k25 u25=>?_⟩
  ·exact bad 9 (by rw [er,od ⟨q,oq,by have:=ow f;unfold xH;omega⟩]) oz k24 (y22.trans (u23.trans u24))
  ·exact⟨m''-1,oq,q+1,oq,by rw [bT oq],oY hno (by have:=ov f;unfold xH;omega)⟩
 ·have hge'':=cH hge'';have e0:qM st z l l'=0:=by
   rw [er,oh];rintro⟨i,hi,hc⟩;exact hno i oq hc
  have v26:=u23.trans u26;have:=C k26 d12 d22 (v22.trans v26) (by unfold qN;rw [oh (by simp [e0])];exact (w12.up (u15.trans (u17.trans (u20.trans (u22.trans v26))))).mono oq) (by unfold qN;rw [oh (by simp [e0])];exact (w22.up v26).mono oq)
  rwa [e0]at this
end
abbrev NQ (K:Nat):World→Array Value→Rat→Prop:=fun k cs q=>QV k cs q K
theorem uS (K:Nat):Num3 (NQ K):=aXw K
theorem aRv:W4.real ((0:Int):Rat)=W4.zero:=rfl
theorem aRu:Q4.real ((0:Int):Rat)=Q4.zero:=rfl
theorem mK {st:List PWt}{l:List PPl}(h:cC st=0) (hl:l.length≤64):qQ st l=plE st.length l:=by
 unfold qQ;rw [oh (by simp [h]),if_neg oq]
section
variable {k:World}{R:World→Value→Prop}{n0 n1 n2 n3 c0 c1 c2 c3 K:Nat}{A0 A1 A2 A3:Option Addr}{x:PPl}{l l':List PPl}{st:List PWt}{y:PWt}{cs cs':Array Value}{w w':W4}{z:Int}
theorem aYh {a:Array Value}(h:WtV (NQ K) k a y):∃c0,QV k c0 y.g K∧∀(q:Nat) u,c0[q]?=some u→a[0+q]?=some u:=by
 obtain⟨c0,rfl,h0⟩:=h;exact⟨c0,h0,fun q u hq=>by rw [qe];exact aTe hq⟩
theorem aYg {a:Array Value}(h:WtV (NQ K) k a y):a[3]?=some (.int .i64 y.c):=by
 obtain⟨c0,rfl,h0⟩:=h;exact aTf (d:=3) (q:=0) h0.seg.1 rfl
theorem sU (hl:Lst k A0 n0 4 (WtV (NQ K) k) st) (C:∀k',Up k k'→R k' (.int .i64 (cC st))) :
 Cl k 83 #[.slice A0 n0 c0] R:=by
 intro k0 u0;have en:=hl.1;have hN:=uS K;have go:∀e:Int,cC st=e→∀k1,Up k0 k1→R k1 (.int .i64 e):=fun e he k1 u1=>by rw [←he];exact C k1 (u0.trans u1)
 unfold cC at go;refine aVy ⟨rfl,fun h=>go 4 (od (by have:=ow h;omega)),fun h=>?_⟩;have h:=ov h;rw [oh oq]at go;refine⟨fun m k vs=>∃j:Nat,j+m=n0∧vs=[.int .i64 j]∧∀i,i<j→¬ qL (at_ st i),⟨n0,fun k1 u1=>⟨0,oq,rfl,fun i hi=>absurd hi (xx _)⟩⟩,?_⟩;rintro m k1 _ u1 ⟨j,hj,rfl,hno⟩;refine⟨_,rfl,rfl,fun hlt=>?_,fun hge k7 u7=>?_⟩
 ·have hlt:=bW hlt;have hl1:=hl.up (u0.trans u1) fun _ _ h=>WtV.up hN h (u0.trans u1);obtain⟨b,_,hw,ha,hb,_,hr'⟩:=hl1.el (i:=j) oq oz;obtain⟨b2,_,hw2,_,hrd⟩:=hl1.2.el (i:=j) hlt oz;obtain⟨g0,hg,hcut⟩:=aYh hw;have hc2:=mW (j:=3) (v:=.int .i64 (at_ st j).c) rfl (aYg hw2);refine⟨ha,hb,ha,hb,g0,hg.seg,hr' k1 g0 0 3 (Up.refl _) hg.seg.1 hcut,?_⟩;refine tA hg fun k3 u3=>⟨_,rfl,fun f k4 u4=>?_,fun f=>⟨ha,hb,ha,hb,_,hrd k3 u3 3 1 _ hc2.1 hc2.2,fun f2 k5 u5=>?_,fun f2 k6 u6=>?_⟩⟩
  ·have f:=ow f
   exact go 1 (od ⟨j,oq,.inl fun g=>by
    have:(at_ st j).g.num.sign > 0:=(decide_eq_decide.1 nY).2 g
    omega⟩) k4 (u1.trans (u3.trans u4))
  ·exact go 1 (od ⟨j,oq,.inr (ow f2)⟩) k5 (u1.trans (u3.trans u5))
  ·have f:=ov f;have f2:=ov f2;refine⟨m-1,oq,j+1,oq,by rw [bT oq],oY hno ?_⟩;rintro (g|g)
   ·exact g ((decide_eq_decide.1 nY).1 oq)
   ·exact f2 g
 ·have hge:=cH hge;exact go 0 (oh fun ⟨i,hi,hb⟩=>hno i oq hb) k7 (u1.trans u7)
theorem aMm (C:∀k',Up k k'→R k' (.bool (!decide (fL n0 x)))) :
 Cl k 84 #[.slice A0 n0 c0,.agg #[.int .i64 x.w,.int .i64 x.p]] R:=by
 intro k0 u0;have tt:fL n0 x→∀k1,Up k0 k1→R k1 (.bool false):=fun h k1 u1=>by
  have:=C k1 (u0.trans u1)
  rwa [decide_eq_true h]at this
 refine aHp ⟨fun h1=>⟨rfl,fun h2=>⟨fun h3 k1 u1=>?_,fun h3=>tt ?_⟩,fun h2=>tt ?_⟩,fun h1=>tt ?_⟩
 ·have:=C k1 (u0.trans u1);have h1:=ow h1;have h2:=ow h2;have h3:=ow h3
  rwa [show (!decide (fL n0 x))=decide (x.p<24) by
   by_cases c:x.p<24
   ·rw [decide_eq_true c,decide_eq_false fun g=>by unfold fL at g;omega];rfl
   ·rw [decide_eq_false c,decide_eq_true (show fL n0 x from .inr (.inr (.inr oq)))];rfl]at this
 ·exact .inr (.inr (.inl (by have:=ov h3;omega)))
 ·exact .inr (.inl (by have:=ov h2;omega))
 ·exact .inl (by have:=ov h1;omega)
theorem jH (hx:WQ k cs w K) (hst:Lst k A1 n1 4 (WtV (NQ 2) k) st) (hl:Lst k A2 n2 2 PlV l) (hK2:2≤K) (hK:K≤1000000)
 (C:∀k' ds,Up k k'→WQ k' ds (tN w st l) (K+4992)→R k' (.tuple #[.agg ds,.int .i64 (qQ st l)])) :
 Cl k 36 #[.agg cs,.slice A1 n1 c1,.slice A2 n2 c2] R:=by
 intro k0 u0;have e1:=hst.1;have e2:=hl.1;have hN:=uS 2;have er:qQ st l=if cC st≠0 then cC st else if 64<l.length then 4 else plE st.length l:=rfl;refine aRx hx.seg (dC oz oz fun k1 d1 u1 h1=>⟨d1,h1.seg,rfl,?_⟩);refine aEp h1 oz fun k3 d3 u3 h3=>⟨d3,h3.seg,rfl,?_⟩;rw [aRv]at h3;have v3:=u0.trans (u1.trans u3);have bad:∀e:Int,qQ st l=e→e≠0→∀k4,Up k3 k4→R k4 (.tuple #[.agg d3,.int .i64 e]):=fun e he h0 k4 u4=>by
  rw [←he];exact C k4 _ (v3.trans u4) (by unfold tN;rw [od (by rw [he];exact h0)];exact (h3.up u4).mono oq)
 refine sU (hst.up v3 fun _ _ h=>WtV.up hN h v3) fun k5 u5=>⟨_,rfl,fun h k6 u6=>?_,fun h=>⟨rfl,fun h2 k7 u7=>?_,fun h2=>?_⟩⟩
 ·have h:cC st≠0:=by simpa using h
  exact bad _ (by rw [er,od h]) h k6 (u5.trans u6)
 ·have h:cC st=0:=by simpa using h
  exact bad 4 (by rw [er,oh (by simp [h]),if_pos (by have:=ow h2;omega)]) oz k7 (u5.trans u7)
 have h:cC st=0:=by simpa using h
 have h2:=ov h2;have er:qQ st l=plE st.length l:=mK h oq;have v5:=v3.trans u5;refine⟨fun m k vs=>∃(j:Nat) (c:Array Value),j+m=n2∧vs=[.int .i64 j,.agg c]∧WQ k c (aEd w st l j) (K+78*j)∧∀i,i<j→¬ fL st.length (at_ l i),⟨n2,fun k8 u8=>⟨0,cs,oq,rfl,hx.up (v5.trans u8),fun i hi=>absurd hi (xx _)⟩⟩,?_⟩;rintro m k8 _ u8 ⟨j,c,hj,rfl,hc,hno⟩;have v8:=v5.trans u8;refine⟨_,c,hc.seg,rfl,rfl,fun hlt=>?_,fun hge k21 u21=>?_⟩
 ·have hlt:=bW hlt;have hl8:=hl.up v8 fun _ _ h=>h;obtain⟨a,_,e,ha,hb,hr,_⟩:=hl8.el (i:=j) oq oz;obtain⟨a2,_,e2',_,hrd⟩:=hl8.2.el (i:=j) hlt oz;unfold PlV at e e2';subst e e2';refine⟨ha,hb,_,_,hr k8 (Up.refl _),aMm (x:=at_ l j) fun k10 u10=>⟨_,rfl,fun f k11 u11=>?_,fun f=>?_⟩⟩
  ·have f:fL n1 (at_ l j):=by simpa using f
   have hp:plE st.length l=1:=od ⟨j,oq,by rw [←e1];exact f⟩;exact bad 1 (by rw [er,hp]) oz k11 (u5.trans (u8.trans (u10.trans u11)))
  ·have f:¬ fL n1 (at_ l j):=by simpa using f
   have hbd:=f;unfold fL at hbd;have hmi:(at_ l j).w=(((at_ l j).w.toNat:Nat):Int):=oq
   have hst10:=hst.up (v8.trans u10) fun _ _ h=>WtV.up hN h (v8.trans u10);obtain⟨b,_,hw,ha',hb',_,hr'⟩:=hst10.el (i:=(at_ l j).w.toNat) oq oz;rw [←hmi]at hb' hr';obtain⟨g0,hg,hcut⟩:=aYh hw;have q0:=mW (a:=#[Value.int .i64 (at_ l j).w,Value.int .i64 (at_ l j).p]) (v:=.int .i64 (at_ l j).w) (j:=0) rfl rfl;have q1:=mW (a:=#[Value.int .i64 (at_ l j).w,Value.int .i64 (at_ l j).p]) (v:=.int .i64 (at_ l j).p) (j:=1) rfl rfl;refine⟨ha,hb,ha,hb,_,hrd k10 u10 0 1 _ q0.1 q0.2,ha',hb',ha',hb',g0,hg.seg,hr' k10 g0 0 3 (Up.refl _) hg.seg.1 hcut,ha,hb,ha,hb,_,hrd k10 u10 1 1 _ q1.1 q1.2,?_⟩;refine aEp hg oz fun k13 d13 u13 h13=>⟨d13,h13.seg,rfl,?_⟩;refine aSc fun k15 d15 u15 h15=>⟨d15,h15.seg,rfl,?_⟩;refine aWp (h13.up u15) h15 oz fun k17 d17 u17 h17=>⟨d17,h17.seg,rfl,?_⟩;refine aWo (hc.up (u10.trans (u13.trans (u15.trans u17)))) h17 oq fun k19 d19 u19 h19=>⟨d19,h19.seg,rfl,fun k20 u20=>?_⟩;exact⟨m-1,oq,j+1,d19,oq,by rw [bT oq],(h19.up u20).mono oq,oY hno (by rw [←e1];exact f)⟩
 ·have hge:=cH hge;obtain rfl:j=l.length:=oq
  have hp:qQ st l=0:=by
   rw [er];exact oh fun ⟨i,hi,hb⟩=>hno i hi hb
  have:=C k21 c (v8.trans u21) (by unfold tN;rw [oh (by simp [hp])];exact (hc.up u21).mono oq)
  rwa [hp]at this
theorem aLh (hl:Lst k A0 n0 4 (WtV (NQ K) k) st) (C:∀k',Up k k'→R k' (.int .i64 (fH st z))) :
 Cl k 39 #[.slice A0 n0 c0,.int .i64 z] R:=by
 intro k0 u0;have en:=hl.1;have go:∀e:Int,fH st z=e→∀k1,Up k0 k1→R k1 (.int .i64 e):=fun e he k1 u1=>by rw [←he];exact C k1 (u0.trans u1)
 unfold fH at go;refine aGu (sU (hl.up u0 fun _ _ h=>WtV.up (uS K) h u0) fun k1 u1=>⟨_,rfl,fun h k2 u2=>go _ (od (by simpa using h)) k2 (u1.trans u2),fun h=>?_⟩);have h:cC st=0:=by simpa using h
 rw [oh (by simp [h])]at go;refine⟨fun h k3 u3=>go 1 (od (.inl (ow h))) k3 (u1.trans u3),fun h1=>⟨fun h k4 u4=>go 1 (od (.inr (ow h))) k4 (u1.trans u4),fun h2=>?_⟩⟩;have h1:=ov h1;have h2:=ov h2;rw [oh oq]at go;refine⟨fun h3=>⟨rfl,fun h4 k5 u5=>go 4 (od ⟨eq_of_beq h3,by have:=ow h4;omega⟩) k5 (u1.trans u5),fun h4 k6 u6=>go 0 (oh fun g=>by have:=ov h4;omega) k6 (u1.trans u6)⟩,fun h3 k7 u7=>go 0 (oh fun g=>by rw [g.1]at h3;cases h3) k7 (u1.trans u7)⟩
theorem aLi (hx:WQ k cs w K) (hy:WQ k cs' w' K) (hst:Lst k A1 n1 4 (WtV (NQ 2) k) st) (hl:Lst k A2 n2 2 PlV l) (hl':Lst k A3 n3 2 PlV l') (hK2:2≤K) (hK:K≤100000)
 (C:∀k' d0 d1,Up k k'→SQ k' d0 (qN (qM st z l l') (zR w st l).norm) (16*K+80000)→SQ k' d1 (qN (qM st z l l') (zR w' st l').norm) (16*K+80000)→R k' (.tuple #[.agg (d0.toList++(d1.toList++([]))).toArray,.int .i64 (qM st z l l')])) :
 Cl k 38 #[.agg (cs.toList++(cs'.toList++([]))).toArray,.slice A1 n1 c1,.int .i64 z,.agg #[.slice A2 n2 c2,.slice A3 n3 c3]] R:=by
 intro k0 u0;have e1:=hst.1;have e2:=hl.1;have e3:=hl'.1;have hN:=uS 2;have er:qM st z l l'=if fH st z≠0 then fH st z else if z<l.length then 4 else if plE st.length l≠0 then plE st.length l else if z<l'.length then 4 else if plE st.length l'≠0 then plE st.length l'
  else if ∃i,i<st.length∧(at_ st i).c<xH l l' i then 9 else 0:=rfl
 refine aRp hx.seg hy.seg (dC oz oz fun k1 d1 u1 h1=>⟨d1,h1.seg,rfl,?_⟩);refine sN h1 oz fun k3 d3 u3 h3=>⟨d3,h3.seg,rfl,?_⟩;refine dC oz oz fun k5 d5 u5 h5=>⟨d5,h5.seg,rfl,?_⟩;refine sN h5 oz fun k7 d7 u7 h7=>⟨d7,h7.seg,rfl,?_⟩;rw [aRu]at h3 h7;replace h3:=h3.up (u5.trans u7);have v7:=u0.trans (u1.trans (u3.trans (u5.trans u7)));have bad:∀e:Int,qM st z l l'=e→e≠0→∀k8,Up k7 k8→R k8 (.tuple #[.agg (d3.toList++(d7.toList++([]))).toArray,.int .i64 e]):=fun e he h0 k8 u8=>by
  have:=C k8 d3 d7 (v7.trans u8) (by unfold qN;rw [od (by rw [he];exact h0)];exact (h3.up u8).mono oq) (by unfold qN;rw [od (by rw [he];exact h0)];exact (h7.up u8).mono oq)
  rwa [he]at this
 refine aLh (hst.up v7 fun _ _ h=>WtV.up hN h v7) fun k9 u9=>⟨_,rfl,fun h k10 u10=>?_,fun h=>⟨rfl,?_⟩⟩
 ·have h:fH st z≠0:=by simpa using h
  exact bad _ (by rw [er,od h]) h k10 (u9.trans u10)
 have h:fH st z=0:=by simpa using h
 rw [oh (by simp [h])]at er;have hs0:cC st=0:=by
  unfold fH at h;split at h
  ·rename_i g;exact absurd h g
  ·rename_i g;simpa using g
 have hz2:z≤2:=by
  unfold fH at h;rw [oh (by simp [hs0])]at h;split at h
  ·cases h
  ·omega
 have hs4:=(aAk hs0).1;refine⟨oq,⟨by simp;omega,by simp;omega⟩,?_⟩;rintro A11 n1 c11 _ rfl rfl _;have hz:ArrV n1 1 lJ (madeCells [Value.int .i64 0].toArray (Int.toNat ((n1:Nat):Int)*1)) fun i=>(((fun _=>0:Nat→Nat) i+dD l i 0:Nat):Int):=by
  rw [ol];exact ArrV.made (z:=[Value.int .i64 0]) rfl (0:Int) rfl
 rw [ol];rw [ol]at hz;generalize madeCells [Value.int .i64 0].toArray (n1*1)=r8 at hz;refine⟨rfl,fun g k11 u11=>?_,fun g=>?_⟩
 ·exact bad 4 (by rw [er,od (by have:=ow g;omega)]) oz k11 (u9.trans u11)
 have g:=ov g;rw [oh oq]at er;have v9:=v7.trans u9;have q0:∀p:PPl,(Value.int .i64 p.w).cells.size=1∧∀(q:Nat) u,(Value.int .i64 p.w).cells[q]?=some u→(#[Value.int .i64 p.w,Value.int .i64 p.p]:Array Value)[0+q]?=some u:=fun p=>mW rfl rfl;refine jH (hx.up v9) (hst.up v9 fun _ _ h=>WtV.up hN h v9) (hl.up v9 fun _ _ h=>h) hK2 oq fun k13 d13 u13 w13=>⟨d13,w13.seg,_,rfl,fun f k14 u14=>?_,fun f=>?_⟩
 ·rw [mK hs0 oq]at f ⊢;have f:plE st.length l≠0:=by simpa using f
  exact bad _ (by rw [er,od f]) f k14 (u9.trans (u13.trans u14))
 rw [mK hs0 oq]at f;have h3':plE st.length l=0:=by simpa using f
 rw [oh (by simp [h3'])]at er;have hok:=zN h3';have eR:tN w st l=zR w st l:=by unfold tN;rw [oh (by rw [mK hs0 oq,h3'];simp)]
 rw [eR]at w13;have v13:=v9.trans u13;refine⟨fun m k vs=>∃(j:Nat) (r:Array Value),j+m=n2∧vs=[.int .i64 j,.tuple #[.slice A11 n1 c11,.agg r]]∧ArrV n1 1 lJ r fun i=>(((fun _=>0:Nat→Nat) i+dD l i j:Nat):Int),⟨n2,fun k7 u7=>⟨0,r8,oq,rfl,hz⟩⟩,?_⟩;rintro m k15 _ u15 ⟨j,r,hj,rfl,hr⟩;have v15:=v13.trans u15;refine⟨_,_,_,_,r,hr.rowC nG,rfl,rfl,fun hlt=>?_,fun hge=>?_⟩
 ·have hlt:=bW hlt;have hb:=hok j oq;unfold fL at hb;have hl15:=hl.up v15 fun _ _ h=>h;obtain⟨_,_,_,ha,hb2,_⟩:=hl15.el (i:=j) oq oz;obtain⟨a,_,e,_,hrd⟩:=hl15.2.el (i:=j) hlt oz;unfold PlV at e;subst e;have rd:=hrd k15 (Up.refl _) 0 1 _ (q0 (at_ l j)).1 (q0 (at_ l j)).2;obtain⟨q,hq⟩:∃q:Nat,(at_ l j).w=(q:Int):=⟨(at_ l j).w.toNat,oq⟩;rw [hq]at rd hb;obtain⟨r1,r2⟩:=mX (i:=q) hr oq hq (jr _) oq;refine⟨ha,hb2,ha,hb2,_,rd,ixD oq,_,r1,ixD oq,⟨oq,oq⟩,?_⟩;rintro _ rfl k8 u8;exact⟨m-1,oq,j+1,_,oq,by rw [bT oq],r2⟩
 have hge:=cH hge;obtain rfl:j=l.length:=oq
 refine aKg (w13.up u15) oq fun k18 d18 u18 w18=>⟨d18,w18.seg,rfl,rfl,fun g2 k19 u19=>?_,fun g2=>?_⟩
 ·exact bad 4 (by rw [er,od (by have:=ow g2;omega)]) oz k19 (u9.trans (u13.trans (u15.trans (u18.trans u19))))
 have g2:=ov g2;rw [oh oq]at er;have v18:=v15.trans u18;have y18:=u9.trans (u13.trans (u15.trans u18));refine jH (hy.up v18) (hst.up v18 fun _ _ h=>WtV.up hN h v18) (hl'.up v18 fun _ _ h=>h) hK2 oq fun k21 d21 u21 w21=>⟨d21,w21.seg,_,rfl,fun f k14 u14=>?_,fun f=>?_⟩
 ·rw [mK hs0 oq]at f ⊢;have f:plE st.length l'≠0:=by simpa using f
  exact bad _ (by rw [er,od f]) f k14 (y18.trans (u21.trans u14))
 rw [mK hs0 oq]at f;have h4':plE st.length l'=0:=by simpa using f
 rw [oh (by simp [h4'])]at er;have hok':=zN h4';have eR':tN w' st l'=zR w' st l':=by unfold tN;rw [oh (by rw [mK hs0 oq,h4'];simp)]
 rw [eR']at w21;have v21:=v18.trans u21;have hr0:ArrV n1 1 lJ r fun i=>(((fun i=>dD l i l.length:Nat→Nat) i+dD l' i 0:Nat):Int):=hr.congr fun i _=>by
  show (((0+dD l i l.length:Nat)):Int)=((dD l i l.length+0:Nat):Int);omega
 refine⟨fun m k vs=>∃(j:Nat) (r:Array Value),j+m=n3∧vs=[.int .i64 j,.tuple #[.slice A11 n1 c11,.agg r]]∧ArrV n1 1 lJ r fun i=>(((fun i=>dD l i l.length:Nat→Nat) i+dD l' i j:Nat):Int),⟨n3,fun k7 u7=>⟨0,r,oq,rfl,hr0⟩⟩,?_⟩;rintro m' k23 _ u23 ⟨j,r',hj',rfl,hr'⟩;have v23:=v21.trans u23;refine⟨_,_,_,_,r',hr'.rowC nG,rfl,rfl,fun hlt=>?_,fun hge'=>?_⟩
 ·have hlt:=bW hlt;have hb:=hok' j oq;unfold fL at hb;have hl23:=hl'.up v23 fun _ _ h=>h;obtain⟨_,_,_,ha,hb2,_⟩:=hl23.el (i:=j) oq oz;obtain⟨a,_,e,_,hrd⟩:=hl23.2.el (i:=j) hlt oz;unfold PlV at e;subst e;have rd:=hrd k23 (Up.refl _) 0 1 _ (q0 (at_ l' j)).1 (q0 (at_ l' j)).2;obtain⟨q,hq⟩:∃q:Nat,(at_ l' j).w=(q:Int):=⟨(at_ l' j).w.toNat,oq⟩;rw [hq]at rd hb;obtain⟨r1,r2⟩:=mX (i:=q) hr' oq hq (by have:=rJ (l:=l) (i:=q) l.length;show dD l q l.length≤1000;omega) oq;refine⟨ha,hb2,ha,hb2,_,rd,ixD oq,_,r1,ixD oq,⟨oq,oq⟩,?_⟩;rintro _ rfl k8 u8;exact⟨m'-1,oq,j+1,_,oq,by rw [bT oq],r2⟩
 have hge':=cH hge';obtain rfl:j=l'.length:=oq
 refine aKg (w21.up u23) oq fun k26 d26 u26 w26=>⟨d26,w26.seg,rfl,?_⟩;have y26:=y18.trans (u21.trans (u23.trans u26));have v26:=v23.trans u26;refine⟨fun m k vs=>∃j:Nat,j+m=n1∧vs=[.int .i64 j]∧∀i,i<j→¬ (at_ st i).c<xH l l' i,⟨n1,fun k7 u7=>⟨0,oq,rfl,fun i hi=>absurd hi (xx _)⟩⟩,?_⟩;rintro m'' k27 _ u27 ⟨q,hq,rfl,hno⟩;refine⟨_,rfl,rfl,fun hlt=>?_,fun hge'' k30 u30=>?_⟩
 ·have hlt:=bW hlt;have v27:=v26.trans u27;obtain⟨a,_,e,hr1⟩:=hr'.read (i:=q) hlt;unfold lJ at e;subst e;have hc1:=mW (a:=#[Value.int .i64 ((dD l q l.length+dD l' q l'.length:Nat):Int)]) (v:=Value.int .i64 ((dD l q l.length+dD l' q l'.length:Nat):Int)) (j:=0) rfl rfl;have hst27:=hst.up v27 fun _ _ h=>WtV.up hN h v27;obtain⟨_,_,_,ha,hb,_⟩:=hst27.el (i:=q) oq oz;obtain⟨b,_,hw,_,hrd⟩:=hst27.2.el (i:=q) hlt oz;have hc2:=mW (j:=3) (v:=.int .i64 (at_ st q).c) rfl (aYg hw);refine⟨ixD hlt,_,hr1 0 1 _ hc1.1 hc1.2,ha,hb,ha,hb,_,hrd k27 (Up.refl _) 3 1 _ hc2.1 hc2.2,fun f k28 u28=>?_,fun f k29 u29=>?_⟩
  ·exact bad 9 (by rw [er,od ⟨q,oq,by have:=ow f;unfold xH;omega⟩]) oz k28 (y26.trans (u27.trans u28))
  ·exact⟨m''-1,oq,q+1,oq,by rw [bT oq],oY hno (by have:=ov f;unfold xH;omega)⟩
 ·have hge'':=cH hge'';have e0:qM st z l l'=0:=by
   rw [er,oh];rintro⟨i,hi,hc⟩;exact hno i oq hc
  have v30:=u27.trans u30;have:=C k30 d18 d26 (v26.trans v30) (by unfold qN;rw [oh (by simp [e0])];exact (w18.up (u21.trans (u23.trans (u26.trans v30)))).mono oq) (by unfold qN;rw [oh (by simp [e0])];exact (w26.up v30).mono oq)
  rwa [e0]at this
end
def WtA (cs:Array Value) (x:PWt):Prop:=∃y z c,In64 y∧In64 z∧In64 c∧cs=#[.int .i64 y,.int .i64 z,.int .i64 c]∧x=⟨ofQ y z,c⟩
def wX (l:List PPl) (c:Nat):List PPl:=if l.length=0 then [] else (List.range c).map fun i=>at_ l (i % l.length)
theorem aRw {l:List PPl}{c:Nat}:(wX l c).length≤c:=by
 unfold wX;split <;> simp
theorem aVv {l:List PPl}{c i:Nat}(h:i<(wX l c).length):at_ (wX l c) i=at_ l (i % l.length):=by
 unfold wX at h ⊢;split at h
 ·simp at h
 ·rename_i g;rw [oh g,aIs (by simpa using h)];simp
theorem zV {l:List PPl}{c:Nat}:(if l.length=0 then 0 else c)=(wX l c).length:=by
 unfold wX;split <;> simp
section
variable {k:World}{R:World→Value→Prop}{A A':Option Addr}{n n' c c':Nat}
theorem rE {k k':World}{A:Option Addr}{xs:Array Value}(h:Sy.RowAt k A xs) (u:Up k k'):Sy.RowAt k' A xs:=fun p v hp=>by
 obtain⟨b,e,hb,hc⟩:=h p v hp;exact⟨b,e,qk hb u.size,u.cell hc⟩
theorem zW:Seg 4 ([Value.bool false,Value.slice none 0 0,Value.slice none 0 0,Value.int .i64 0]:List Value).toArray:=⟨rfl,by simp [Value.scalar,Value.noWord]⟩
theorem zP:Seg 2 ([Value.int .i64 0,Value.int .i64 0]:List Value).toArray:=⟨rfl,by simp [Value.scalar,Value.noWord]⟩
theorem aFs {l:List PWt}(hl:Lst k A n 3 WtA l) (hn:l.length≤1000)
 (C:∀k' B m d B' m' d',Up k k'→Lst k' B m 4 (WtV (NP 1) k') l→Lst k' B' m' 4 (WtV (NQ 2) k') l→R k' (.tuple #[.slice B m d,.slice B' m' d'])) :
 Cl k 34 #[.slice A n c] R:=by
 intro k0 u0;replace hl:=hl.up u0 fun _ _ h=>h;replace C:=fun k' B m d B' m' d' u=>C k' B m d B' m' d' (u0.trans u);have hN:=nL 1;have hM:=uS 2;have en:=hl.1;have s0:∀ {k:World},∀a v,optP 4 (WtV (NP 1) k) a v→Seg 4 a:=fun _ _ h=>optP.seg (fun _ h=>WtV.seg hN h) h;have s1:∀ {k:World},∀a v,optP 4 (WtV (NQ 2) k) a v→Seg 4 a:=fun _ _ h=>optP.seg (fun _ h=>WtV.seg hM h) h;have up0:∀ {k k':World}{xs:Array Value}{f:Nat→Option PWt},Up k k'→ArrV n 4 (optP 4 (WtV (NP 1) k)) xs f→ArrV n 4 (optP 4 (WtV (NP 1) k')) xs f:=fun u h=>h.mono fun a v g=>by
  cases v with
  | none=>exact g
  | some v=>exact WtV.up hN g u
 have up1:∀ {k k':World}{xs:Array Value}{f:Nat→Option PWt},Up k k'→ArrV n 4 (optP 4 (WtV (NQ 2) k)) xs f→ArrV n 4 (optP 4 (WtV (NQ 2) k')) xs f:=fun u h=>h.mono fun a v g=>by
  cases v with
  | none=>exact g
  | some v=>exact WtV.up hM g u
 refine aBh ⟨rfl,rfl,?_,?_⟩ <;>
 ·refine⟨oq,⟨by simp;omega,by simp;omega⟩,?_⟩;rintro B0 p0 e0 x0 g0 hx0 _;refine⟨oq,⟨by simp;omega,by simp;omega⟩,?_⟩;rintro B1 p1 e1 x1 g1 hx1 _;obtain rfl:p0=n:=g0;obtain rfl:p1=p0:=g1;rw [ol]at hx0 hx1;have z0:ArrV p1 4 (optP 4 (WtV (NP 1) k0)) x0 fun _=>none:=by rw [hx0];exact ArrV.made (z:=[Value.bool false,Value.slice none 0 0,Value.slice none 0 0,Value.int .i64 0]) rfl none zW
  have z1:ArrV p1 4 (optP 4 (WtV (NQ 2) k0)) x1 fun _=>none:=by rw [hx1];exact ArrV.made (z:=[Value.bool false,Value.slice none 0 0,Value.slice none 0 0,Value.int .i64 0]) rfl none zW
  have z2:ArrV p1 4 (optP 4 (WtV (NP 1) k0)) x1 fun _=>none:=by rw [hx1];exact ArrV.made (z:=[Value.bool false,Value.slice none 0 0,Value.slice none 0 0,Value.int .i64 0]) rfl none zW
  have z3:ArrV p1 4 (optP 4 (WtV (NQ 2) k0)) x0 fun _=>none:=by rw [hx0];exact ArrV.made (z:=[Value.bool false,Value.slice none 0 0,Value.slice none 0 0,Value.int .i64 0]) rfl none zW
  clear hx0 hx1
  refine⟨rfl,fun m k vs=>∃(j:Nat) (B0 B1:Option Addr) (e0 e1:Nat) (x0 x1:Array Value),j+m=p1∧vs=[.int .i64 j,.tuple #[.slice B0 p1 e0,.agg x0],.tuple #[.slice B1 p1 e1,.agg x1]]∧
   ArrV p1 4 (optP 4 (WtV (NP 1) k)) x0 (cut j (fun i=>some (at_ l i)) fun _=>none)∧ArrV p1 4 (optP 4 (WtV (NQ 2) k)) x1 (cut j (fun i=>some (at_ l i)) fun _=>none),
   ⟨p1,fun k1 u1=>⟨0,_,_,_,_,_,_,oq,rfl,by first|exact (up0 u1 z0).start|exact (up0 u1 z2).start,by first|exact (up1 u1 z1).start|exact (up1 u1 z3).start⟩⟩,?_⟩
  rintro m k1 vs u1 ⟨j,B0,B1,e0,e1,x0,x1,hj,rfl,h0,h1⟩;refine⟨j,B0,p1,e0,x0,h0.rowC s0,B1,p1,e1,x1,h1.rowC s1,rfl,fun hlt=>?_,fun hge k2 u2 r0 k3 u3 r1 k4 u4=>?_⟩
  ·have hlt:=bW hlt;obtain⟨a,_,⟨y,z,t,i1,i2,i3,rfl,er⟩,ha,hb,hr,_⟩:=(hl.up u1 fun _ _ h=>h).el (i:=j) oq oz;refine⟨ha,hb,y,z,t,hr k1 (Up.refl _),aIi i1 i2 fun k2 a2 u2 w2=>⟨a2,w2.seg,rfl,ixD hlt,⟨oq,oq⟩,?_⟩⟩;rintro _ rfl;refine aKj i1 i2 fun k4 a4 u4 w4=>⟨a4,w4.seg,rfl,ixD hlt,⟨oq,oq⟩,?_⟩;rintro _ rfl k5 u5;refine⟨m-1,oq,j+1,B0,B1,e0,e1,_,_,oq,by rw [bT oq],?_,?_⟩
   ·refine ArrV.step (ys:=(a2.toList++((Value.int .i64 t) :: ([]))).toArray) (up0 (u2.trans (u4.trans u5)) h0) hlt (by simp [w2.seg.1]) ?_;show WtV (NP 1) k5 _ (at_ l j);rw [er];exact⟨a2,rfl,w2.up (u4.trans u5)⟩
   ·refine ArrV.step (ys:=(a4.toList++((Value.int .i64 t) :: ([]))).toArray) (up1 (u2.trans (u4.trans u5)) h1) hlt (by simp [w4.seg.1]) ?_;show WtV (NQ 2) k5 _ (at_ l j);rw [er];exact⟨a4,rfl,w4.up u5⟩
  ·have hge:=cH hge;have v4:=u2.trans (u3.trans u4);have q0:ArrV p1 4 (WtV (NP 1) k4) x0 (at_ l):=((up0 v4 h0).done hge).all;have q1:ArrV p1 4 (WtV (NQ 2) k4) x1 (at_ l):=((up1 v4 h1).done hge).all;exact C k4 B0 p1 e0 B1 p1 e1 (u1.trans v4) ⟨en,q0.els (fun a v h=>WtV.seg hN h) (rE r0 (u3.trans u4))⟩ ⟨en,q1.els (fun a v h=>WtV.seg hM h) (rE r1 u4)⟩
theorem oN {l:List PPl}(hl:Lst k A n 2 PlV l) (hn:l.length≤1000)
 (C:∀k' B m d B' m' d',Up k k'→Lst k' B m 2 PlV l→Lst k' B' m' 2 PlV l→R k' (.tuple #[.slice B m d,.slice B' m' d'])) :
 Cl k 35 #[.slice A n c] R:=by
 intro k0 u0;replace hl:=hl.up u0 fun _ _ h=>h;replace C:=fun k' B m d B' m' d' u=>C k' B m d B' m' d' (u0.trans u);have en:=hl.1;have s0:∀a v,optP 2 PlV a v→Seg 2 a:=fun _ _ h=>optP.seg (fun _ h=>PlV.seg h) h;refine aBg ⟨rfl,rfl,?_,?_⟩ <;>
 ·refine⟨oq,⟨by simp;omega,by simp;omega⟩,?_⟩;rintro B0 p0 e0 x0 g0 hx0 _;refine⟨oq,⟨by simp;omega,by simp;omega⟩,?_⟩;rintro B1 p1 e1 x1 g1 hx1 _;obtain rfl:p0=n:=g0;obtain rfl:p1=p0:=g1;rw [ol]at hx0 hx1;have z0:ArrV p1 2 (optP 2 PlV) x0 fun _=>none:=by rw [hx0];exact ArrV.made (z:=[Value.int .i64 0,Value.int .i64 0]) rfl none zP
  have z1:ArrV p1 2 (optP 2 PlV) x1 fun _=>none:=by rw [hx1];exact ArrV.made (z:=[Value.int .i64 0,Value.int .i64 0]) rfl none zP
  clear hx0 hx1
  refine⟨rfl,fun m k vs=>∃(j:Nat) (B0 B1:Option Addr) (e0 e1:Nat) (x0 x1:Array Value),j+m=p1∧vs=[.int .i64 j,.tuple #[.slice B0 p1 e0,.agg x0],.tuple #[.slice B1 p1 e1,.agg x1]]∧
   ArrV p1 2 (optP 2 PlV) x0 (cut j (fun i=>some (at_ l i)) fun _=>none)∧ArrV p1 2 (optP 2 PlV) x1 (cut j (fun i=>some (at_ l i)) fun _=>none),
   ⟨p1,fun k1 u1=>⟨0,_,_,_,_,_,_,oq,rfl,by first|exact z0.start|exact z1.start,by first|exact z1.start|exact z0.start⟩⟩,?_⟩
  rintro m k1 vs u1 ⟨j,B0,B1,e0,e1,x0,x1,hj,rfl,h0,h1⟩;refine⟨j,B0,p1,e0,x0,h0.rowC s0,B1,p1,e1,x1,h1.rowC s0,rfl,fun hlt=>?_,fun hge k2 u2 r0 k3 u3 r1 k4 u4=>?_⟩
  ·have hlt:=bW hlt;obtain⟨a,_,e,ha,hb,hr,_⟩:=(hl.up u1 fun _ _ h=>h).el (i:=j) oq oz;unfold PlV at e;subst e;refine⟨ha,hb,_,_,hr k1 (Up.refl _),ixD hlt,⟨oq,oq⟩,?_⟩;rintro _ rfl;refine⟨ixD hlt,⟨oq,oq⟩,?_⟩;rintro _ rfl k5 u5;exact⟨m-1,oq,j+1,B0,B1,e0,e1,_,_,oq,by rw [bT oq],ArrV.step (ys:=#[Value.int .i64 (at_ l j).w,Value.int .i64 (at_ l j).p]) h0 hlt rfl rfl,ArrV.step (ys:=#[Value.int .i64 (at_ l j).w,Value.int .i64 (at_ l j).p]) h1 hlt rfl rfl⟩
  ·have hge:=cH hge;have q0:ArrV p1 2 PlV x0 (at_ l):=(h0.done hge).all;have q1:ArrV p1 2 PlV x1 (at_ l):=(h1.done hge).all;exact C k4 B0 p1 e0 B1 p1 e1 (u1.trans (u2.trans (u3.trans u4))) ⟨en,q0.els (fun a v h=>PlV.seg h) (rE r0 (u3.trans u4))⟩ ⟨en,q1.els (fun a v h=>PlV.seg h) (rE r1 u4)⟩
theorem aBn {n0 n1 n2 n3 n4 n5 n6 n7 n8 n9 n10 n11:Int}(h0:In8 n0) (h1:In8 n1) (h2:In8 n2) (h3:In8 n3) (h4:In8 n4) (h5:In8 n5) (h6:In8 n6) (h7:In8 n7) (h8:In8 n8) (h9:In8 n9) (h10:In8 n10) (h11:In8 n11)
 {B0 B1:Option Addr}{p0 p1 d0 d1:Nat}{st:List PWt}{l0 l1:List PPl}(hs:Lst k A n 3 WtA st) {z:Int}(_hz:In64 z) (g0:Lst k B0 p0 2 PlV l0) (g1:Lst k B1 p1 2 PlV l1) (y:Int) (hy:0≤y∧y≤255) (C:∀k',Up k k'→R k' (.bool true)) :
 Cl k 5 #[.agg #[.int .i8 n0,.int .i8 n1,.int .i8 n2,.int .i8 n3,.int .i8 n4,.int .i8 n5,.int .i8 n6,.int .i8 n7,.int .i8 n8,.int .i8 n9,.int .i8 n10,.int .i8 n11],.slice A n c,.int .i64 z,.agg #[.slice B0 p0 d0,.slice B1 p1 d1],.int .u8 y] R:=by
 intro k0 u0;replace C:=fun k' u=>C k' (u0.trans u);replace hs:=hs.up u0 fun _ _ h=>h;replace g0:=g0.up u0 fun _ _ h=>h;replace g1:=g1.up u0 fun _ _ h=>h;clear u0;have es:=hs.1;have e0:=g0.1;have e1:=g1.1;have aw:Cl k0 27 #[] fun k1 r0=>∃b17,some (Value.bool b17)=some r0∧∀k2,Up k1 k2→R k2 (Value.bool b17):=fun k' u=>yW (fun k1 u1=>⟨_,rfl,fun k2 u2=>C k2 (u1.trans u2)⟩) k' u;refine yV ⟨rfl,fun _=>aw,fun f1=>⟨rfl,fun _=>aw,fun f2=>⟨rfl,fun _=>aw,fun f3=>?_⟩⟩⟩;have f1:=ov f1;have f2:=ov f2;have f3:=ov f3;refine qW h0 h1 h2 h3 h4 h5 fun k10 a10 b10 u10 wA gA=>⟨a10,wA.seg,b10,gA.seg,rfl,?_⟩;refine qW h6 h7 h8 h9 h10 h11 fun k12 a12 b12 u12 wB gB=>⟨a12,wB.seg,b12,gB.seg,rfl,?_⟩;replace wA:=wA.up u12;replace gA:=gA.up u12;have v12:=u10.trans u12;generalize (⟨jU n0 n1 n2,jU n3 n4 n5⟩:W4)=a at *
 generalize (⟨jU n6 n7 n8,jU n9 n10 n11⟩:W4)=b at *
 clear h0 h1 h2 h3 h4 h5 h6 h7 h8 h9 h10 h11;refine aFs (hs.up v12 fun _ _ h=>h) oq fun k14 D0 q0 f0 D1 q1 f1 u14 s0 s1=>⟨_,_,_,_,_,_,rfl,?_⟩;refine oN (g0.up (v12.trans u14) fun _ _ h=>h) oq fun k16 D2 q2 f2 D3 q3 f3 u16 s2 s3=>⟨_,_,_,_,_,_,rfl,?_⟩;refine oN (g1.up (v12.trans (u14.trans u16)) fun _ _ h=>h) oq fun k18 D4 q4 f4 D5 q5 f5 u18 s4 s5=>⟨_,_,_,_,_,_,rfl,?_⟩;have hN:=nL 1;have hM:=uS 2;have v18:=v12.trans (u14.trans (u16.trans u18));replace wA:=wA.up (u14.trans (u16.trans u18));replace gA:=gA.up (u14.trans (u16.trans u18));replace wB:=wB.up (u14.trans (u16.trans u18));replace gB:=gB.up (u14.trans (u16.trans u18));replace s0:=s0.up (u16.trans u18) fun _ _ h=>WtV.up hN h (u16.trans u18);replace s1:=s1.up (u16.trans u18) fun _ _ h=>WtV.up hM h (u16.trans u18);replace s2:=s2.up u18 fun _ _ h=>h;replace s3:=s3.up u18 fun _ _ h=>h;replace g0:=g0.up v18 fun _ _ h=>h;have r2:=s2.1;have r3:=s3.1;have r4:=s4.1;have r5:=s5.1;obtain⟨N,hN0⟩:∃N:Nat,Int.tmod (wrap .i64 y) 71=(N:Int):=⟨(Int.tmod (wrap .i64 y) 71).toNat,by rw [zt,vj oq];omega⟩;have hN7:N≤70:=by
  rw [zt,vj oq]at hN0;omega
 rw [hN0];clear hN0 u10 u12 u14 u16 u18 v12;replace C:=fun k' u=>C k' (v18.trans u);clear v18 aw;refine⟨fun m k vs=>∃(i j:Nat) (B:Option Addr) (e:Nat) (x:Array Value),i+m=N∧vs=[.int .i64 i,.tuple #[.slice B j e,.agg x]]∧j=(if l0.length=0 then 0 else i)∧ArrV j 2 PlV x (fun i=>at_ l0 (i % l0.length)),⟨N,fun k1 u1=>⟨0,0,_,_,_,oq,rfl,by split <;> rfl,ArrV.empty⟩⟩,?_⟩;rintro m k19 vs u19 ⟨i,j,B,e,x,hi,rfl,hj,hx⟩;refine⟨i,B,j,e,x,hx.rowC (fun a v h=>PlV.seg h),rfl,fun hlt=>⟨rfl,fun hp=>⟨rfl,?_⟩,fun hp k21 u21=>?_⟩,fun hge k22 u22 r22=>?_⟩
 ·have hlt:=bW hlt;have hp:=ow hp;have hm:Int.tmod (i:Int) (p0:Nat)=((i % p0:Nat):Int):=by rw [vj oq];rfl
  have hml:i % p0<p0:=qp _ oq;rw [hm];obtain⟨a',_,e',ha,hb,hr,_⟩:=(g0.up u19 fun _ _ h=>h).el (i:=i % p0) oq oz;unfold PlV at e';subst e';rw [oh oq]at hj;subst hj;refine⟨decide_eq_true oq,ha,hb,_,_,hr k19 (Up.refl _),?_⟩;rintro F0 _ _ _ rfl rfl _;refine⟨by simpa using hx.size,oq,⟨by simp;omega,by simp;omega⟩,?_⟩;rintro F1 _ _ _ rfl rfl _;refine⟨rfl,oz,⟨by simp;omega,by simp;omega⟩,?_⟩;rintro F2 _ e2 _ rfl rfl _ k20 u20;refine⟨m-1,oq,j+1,j+1,F2,e2,x++#[Value.int .i64 (at_ l0 (j % p0)).w,Value.int .i64 (at_ l0 (j % p0)).p],oq,?_,?_,?_⟩
  ·rw [bT oq];simp
  ·rw [oh oq]
  ·have:=ArrV.push (a:=#[Value.int .i64 (at_ l0 (j % p0)).w,Value.int .i64 (at_ l0 (j % p0)).p]) hx rfl (by rw [←e0];rfl);simpa using this
 ·have hlt:=bW hlt;have hp:=ov hp;rw [od oq]at hj;exact⟨m-1,oq,i+1,j,B,e,x,oq,by rw [bT oq],by rw [od oq];exact hj,hx⟩
 ·have hge:=cH hge;obtain rfl:i=N:=oq
  have hrow:Lst k22 B j 2 PlV (wX l0 i):=⟨by rw [hj];exact zV,ArrV.els (hx.congr fun q hq=>(aVv (by rw [←zV,←hj];exact hq)).symm) (fun a v h=>PlV.seg h) r22⟩;have hlen:=aRw (l:=l0) (c:=i);generalize wX l0 i=L at hrow hlen;have v22:=u19.trans u22;refine oN hrow oq fun k24 D6 q6 f6 D7 q7 f7 u24 s6 s7=>⟨_,_,_,_,_,_,rfl,?_⟩;have r6:=s6.1;have v24:=v22.trans u24;refine wE (wA.up v24) (s0.up v24 fun _ _ h=>WtV.up hN h v24) s6 oq oz oz fun k26 a26 u26 w26=>⟨a26,w26.seg,_,rfl,?_⟩;have v26:=v24.trans u26;refine jH (gA.up v26) (s1.up v26 fun _ _ h=>WtV.up hM h v26) (s7.up u26 fun _ _ h=>h) oz oz fun k28 a28 u28 w28=>⟨a28,w28.seg,_,rfl,fun f=>?_,fun _=>?_⟩
  ·exact absurd f (by simp)
  refine aJn (w26.up u28) oz oz w28 oz fun k31 u31=>⟨_,rfl,fun f=>absurd f oz,fun _=>?_⟩;have v31:=v26.trans (u28.trans u31);refine aJu (wA.up v31) (wB.up v31) (s0.up v31 fun _ _ h=>WtV.up hN h v31) (s2.up v31 fun _ _ h=>h) (s4.up v31 fun _ _ h=>h) oq oq oz oz fun k34 a34 b34 u34 w34 x34=>⟨a34,w34.seg,b34,x34.seg,_,rfl,?_⟩;have v34:=v31.trans u34;refine aLi (gA.up v34) (gB.up v34) (s1.up v34 fun _ _ h=>WtV.up hM h v34) (s3.up v34 fun _ _ h=>h) (s5.up v34 fun _ _ h=>h) oz oz fun k36 a36 b36 u36 w36 x36=>⟨a36,w36.seg,b36,x36.seg,_,rfl,fun _=>?_,fun f=>?_⟩
  ·refine nH (w34.up u36) oz oz w36 oz fun k38 u38=>⟨_,rfl,fun _=>?_,fun f=>absurd f oz⟩;refine nH (x34.up (u36.trans u38)) oz oz (x36.up u38) oz fun k40 u40=>⟨_,rfl,fun _=>?_,fun f=>absurd f oz⟩;have v40:=v34.trans (u36.trans (u38.trans u40));exact yW fun k42 u42=>⟨_,rfl,fun k43 u43=>C k43 (v40.trans (u42.trans u43))⟩
  ·simp at f
end
