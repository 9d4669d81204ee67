/- Several texts in one. (Printed by prep.py.) -/
import Derived.Test.YtifcjpacobpdmaaGreatTtLW
namespace Go.Proofs.YtifcjpacobpdmaaGreat
open IntKind (wrap)
open Go.RowKit
open Sy (Seg)
def zS:List Value:=[.bool false,.slice none 0 0,.bool false,.slice none 0 0,.bool false,.slice none 0 0,.bool false,.slice none 0 0,.slice none 0 0]
def zT:List Value:=[.bool false,.slice none 0 0,.slice none 0 0,.bool false,.slice none 0 0,.slice none 0 0,.bool false,.slice none 0 0,.slice none 0 0,.bool false,.slice none 0 0,.slice none 0 0]
def pX (n:Nat) (z:List Value):Array Value:=(List.replicate n z).flatten.toArray
def elt (cs:Array Value) (s i:Nat):Array Value:=(Sy.pickL cs (i*s+0) s).toArray
structure Arr (n s:Nat) (E:Nat→Array Value→Prop) (cs:Array Value):Prop where
 size:cs.size=n*s
 el:∀i,i<n→E i (elt cs s i)
section
variable {n s i:Nat}{E E':Nat→Array Value→Prop}{cs ys:Array Value}
theorem yO:∀(l:List Value) (cs:Array Value) (o q:Nat),o+l.length≤cs.size→(Sy.over cs o l)[q]?=if o≤q∧q<o+l.length then l[q-o]? else cs[q]?:=by
 intro l cs o q h;rw [←qo,Sy.over_eq l cs o h,←qo];have hl:cs.toList.length=cs.size:=zv;simp only [jt,ol,xz,zu,vw,hl];have e:min o cs.size=o:=oq
 rw [e]
 by_cases h1:q<o
 ·rw [og oq,og h1,og h1,oh oq]
 ·by_cases h2:q<o+l.length
  ·rw [og h2,oh h1,og ⟨oq,h2⟩]
  ·rw [oh h2,oh oq]
   congr 1
   omega
theorem eB (cs:Array Value) (s i q:Nat) (hq:q<s) (hs:(i+1)*s≤cs.size):(elt cs s i)[q]?=cs[i*s+q]?:=by
 have hm:(i+1)*s=i*s+s:=zq _ _;unfold elt Sy.pickL;rw [←qo,jm,zm hq,jf];simp only [jd];rw [ot oq];rfl
theorem jM (cs:Array Value) (s i:Nat):(elt cs s i).size=s:=by simp [elt,Sy.pickL]
theorem kI {a:Array Value}(ha:a.size=s) (h:∀q,q<s→(elt cs s i)[q]?=a[q]?):elt cs s i=a:=by
 apply zi;intro q
 by_cases hq:q<s
 ·exact h q hq
 ·rw [qi (by rw [jM];omega),qi oq]
theorem aIq {j:Nat}(hs:cs.size=n*s) (hi:i<n) (hj:j<n) (hy:ys.size=s):elt (Sy.over cs (i*s+0) ys.toList) s j=if j=i then ys else elt cs s j:=by
 have h1:(i+1)*s≤n*s:=om s hi;have h2:(j+1)*s≤n*s:=om s hj;have h3:(i+1)*s=i*s+s:=zq _ _;have h4:(j+1)*s=j*s+s:=zq _ _;have hl:ys.toList.length=s:=by simpa using hy
 by_cases e:j=i
 ·subst e;rw [og rfl];refine kI hy fun q hq=>?_;rw [eB _ _ _ _ hq (by rw [Sy.over_size];omega),yO _ _ _ _ oq,og ⟨oq,oq⟩];rw [←qo]
  congr 1
  omega
 ·rw [oh e];refine kI (jM _ _ _) fun q hq=>?_;rw [eB _ _ _ _ hq (by rw [Sy.over_size];omega),yO _ _ _ _ oq,eB _ _ _ _ hq oq,oh];rintro⟨a,b⟩;rcases Nat.lt_or_gt_of_ne e with e|e
  ·have:=om s e;have h5:(j.succ)*s=j*s+s:=zq _ _;omega
  ·have:=om s e;have h5:(i.succ)*s=i*s+s:=zq _ _;omega
theorem Arr.mono (h:Arr n s E cs) (hE:∀i a,i<n→E i a→E' i a):Arr n s E' cs:=⟨h.size,fun i hi=>hE i _ hi (h.el i hi)⟩
theorem Arr.get (h:Arr n s E cs) (hi:i<n):E i (Sy.pickL cs (Int.toNat (i:Int)*s+0) s).toArray:=h.el i hi
theorem Arr.set (h:Arr n s E cs) (hi:i<n) (hy:ys.size=s) (h1:E' i ys) (h2:∀j a,j<n→j≠i→E j a→E' j a):Arr n s E' (Sy.over cs (Int.toNat (i:Int)*s+0) ys.toList):=by
 refine⟨by rw [Sy.over_size];exact h.size,fun j hj=>?_⟩;show E' j (elt (Sy.over cs (i*s+0) ys.toList) s j);rw [aIq h.size hi hj hy];split
 ·rename_i e;subst e;exact h1
 ·rename_i e;exact h2 j _ hj e (h.el j hj)
theorem Arr.seg (h:Arr n s E cs) (hE:∀i a,i<n→E i a→Seg s a):Seg (n*s) cs:=by
 refine⟨h.size,fun u hu=>?_⟩;obtain⟨p,hp,rfl⟩:=List.getElem_of_mem hu;have hp':p<n*s:=by rw [←h.size];simpa using hp
 have hs:0<s:=ve fun e=>by subst e;omega
 have hi:p/s<n:=(jz hs).2 hp';have hsg:=hE _ _ hi (h.el _ hi);have hq:=qp p hs;have hd:=jx p s;have e:(elt cs s (p/s))[p % s]?=cs[p]?:=by
  have h1:(p/s+1)*s≤n*s:=om s hi;rw [eB _ _ _ _ hq (by rw [h.size];exact h1)]
  congr 1
  rw [qw];exact hd
 have hc:cs[p]?=some cs.toList[p]:=by rw [←qo];exact jk hp
 refine hsg.2 _ ?_;rw [hc,←qo]at e;exact zf e
theorem Arr.rep {a:Array Value}(n:Nat) (ha:a.size=s) (h:∀i,i<n→E i a):Arr n s E (List.replicate n a.toList).flatten.toArray:=by
 have hl:∀m,(List.replicate m a.toList).flatten.length=m*s:=fun m=>by
  induction m with
  | zero=>simp
  | succ m ih=>rw [List.replicate_succ,List.flatten_cons,ol,ih,zv,ha,zq,jn]
 have hg:∀m i q,i<m→q<s→(List.replicate m a.toList).flatten[i*s+q]?=a[q]?:=by
  intro m
  induction m with
  | zero=>intro i q hi;omega
  | succ m ih=>
   intro i q hi hq;rw [List.replicate_succ,List.flatten_cons,jt,zv,ha];cases i with
   | zero=>rw [og oq,vu,qe,qo]
   | succ i=>
    have h3:(i+1)*s=i*s+s:=zq _ _;rw [oh oq];have:=ih i q oq hq;rw [←this]
    congr 1
    omega
 refine⟨by simpa using hl n,fun i hi=>?_⟩;have e:elt (List.replicate n a.toList).flatten.toArray s i=a:=by
  refine kI ha fun q hq=>?_;have h1:(i+1)*s≤n*s:=om s hi;rw [eB _ _ _ _ hq (by simpa [hl] using h1)];have:=hg n i q hi hq;rw [←qo];exact this
 rw [e];exact h i hi
end
def ArrV {α:Type}(n s:Nat) (P:Array Value→α→Prop) (cs:Array Value) (f:Nat→α):Prop:=Arr n s (fun i a=>P a (f i)) cs
def cut {α:Type}(j:Nat) (F G:Nat→α) (i:Nat):α:=if i<j then F i else G i
section
variable {α:Type}{n s i j:Nat}{P Q:Array Value→α→Prop}{cs ys:Array Value}{f g F G:Nat→α}
theorem ArrV.get (h:ArrV n s P cs f) (hi:i<n):P (Sy.pickL cs (Int.toNat (i:Int)*s+0) s).toArray (f i):=Arr.get h hi
theorem ArrV.mono (h:ArrV n s P cs f) (hP:∀a v,P a v→Q a v):ArrV n s Q cs f:=Arr.mono h fun _ _ _=>hP _ _
theorem ArrV.congr (h:ArrV n s P cs f) (e:∀i,i<n→f i=g i):ArrV n s P cs g:=Arr.mono h fun i _ hi h=>by rw [←e i hi];exact h
theorem ArrV.seg (h:ArrV n s P cs f) (hP:∀a v,P a v→Seg s a):Seg (n*s) cs:=Arr.seg h fun _ _ _=>hP _ _
theorem ArrV.set (h:ArrV n s P cs f) (hi:i<n) (hs:ys.size=s) (hy:P ys (g i)) (e:∀j,j<n→j≠i→f j=g j):ArrV n s P (Sy.over cs (Int.toNat (i:Int)*s+0) ys.toList) g:=
 Arr.set h hi hs hy fun j _ hj hne h=>by rw [←e j hj hne];exact h
theorem ArrV.step (h:ArrV n s P cs (cut j F G)) (hj:j<n) (hs:ys.size=s) (hy:P ys (F j)):ArrV n s P (Sy.over cs (Int.toNat (j:Int)*s+0) ys.toList) (cut (j+1) F G):=
 ArrV.set h hj hs (by unfold cut;rw [og (Nat.lt_succ_self j)];exact hy) fun i _ hne=>by
  unfold cut
  by_cases c:i<j
  ·rw [og c,og oq]
  ·rw [oh c,oh oq]
theorem ArrV.start (h:ArrV n s P cs G):ArrV n s P cs (cut 0 F G):=h.congr fun _ _=>(oh (yq _)).symm
theorem ArrV.done (h:ArrV n s P cs (cut j F G)) (hj:n≤j):ArrV n s P cs F:=h.congr fun _ hi=>og oq
theorem ArrV.at (h:ArrV n s P cs (cut j F G)) (hj:j<n):P (Sy.pickL cs (Int.toNat (j:Int)*s+0) s).toArray (G j):=by
 have:=h.get hj;unfold cut at this
 rwa [oh (Nat.lt_irrefl j)]at this
theorem ArrV.zero {z:List Value}(hz:z.length=s) (v:α) (h:P z.toArray v):ArrV n s P (pX n z) fun _=>v:=Arr.rep (a:=z.toArray) n (by simpa using hz) fun _ _=>h
def aVw (s:Nat) (P:Array Value→α→Prop) (a:Array Value):Option α→Prop
 | none=>Seg s a
 | some v=>P a v
end
theorem ix24 {j:Nat}(h:j<24):decide ((0:Int)≤(j:Int)∧(j:Int)<24)=true:=decide_eq_true ⟨oq,oq⟩
theorem ix13 {j:Nat}(h:j<13):decide ((0:Int)≤(j:Int)∧(j:Int)<13)=true:=decide_eq_true ⟨oq,oq⟩
theorem lt24 {j:Nat}(h:decide ((j:Int)<24)=true):j<24:=by have:=ow h;omega
theorem ge24 {j:Nat}(h:decide ((j:Int)<24)=false):24≤j:=by have:=ov h;omega
theorem lt13 {j:Nat}(h:decide ((j:Int)<13)=true):j<13:=by have:=ow h;omega
theorem ge13 {j:Nat}(h:decide ((j:Int)<13)=false):13≤j:=by have:=ov h;omega
theorem wup {j:Nat}(h:j<100):wrap .i64 ((j:Int)+1)=((j+1:Nat):Int):=by rw [jv];omega
open Sy (Seg Up RowAt ReadAt lE cellAt flat RowC)
section
variable {α:Type}{k k':World}{A:Option Addr}{n s i j m p:Nat}{P Q:Array Value→α→Prop}{xs cs:Array Value}{f g:Nat→α}{x:Value}
def InAt (k:World) (A:Option Addr) (xs:Array Value):Prop:=∀(p:Nat) u,xs[p]?=some u→∃b o,A=some ⟨b,o,none⟩∧b<k.heap.size∧k.cell? ⟨b,o+p,none⟩=some u
theorem InAt.up (h:InAt k A xs) (u:Up k k'):InAt k' A xs:=fun p v hp=>by
 obtain⟨b,o,e,hb,hc⟩:=h p v hp;exact⟨b,o,e,oa hb u.size,u.cell hc⟩
theorem InAt.of (h:RowAt k A xs):InAt k A xs:=fun p v hp=>by
 obtain⟨b,e,hb,hc⟩:=h p v hp;exact⟨b,0,e,hb,by rw [qe];exact hc⟩
theorem xS {u:Value}(h:u.scalar=true):flat (some u)=some u:=by
 cases u <;> first|rfl|cases h
theorem InAt.at (h:InAt k A xs) (hc:RowC xs) {u:Value}(hx:xs[p]?=some u):cellAt k.cell? A p=some u:=by
 obtain⟨b,o,rfl,_,hb⟩:=h _ _ hx;show flat (k.cell? ⟨b,o+p,none⟩)=some u;rw [hb];exact xS (hc u (zf (by rw [qo];exact hx))).1
theorem InAt.read (h:InAt k A xs) (hc:RowC xs) (hm:x.cells.size=m) (hq:∀(q:Nat) u,x.cells[q]?=some u→xs[p+q]?=some u):ReadAt k.cell? A p m x:=
 ⟨hm,fun q u hu=>h.at hc (hq q u hu)⟩
def Els (k:World) (A:Option Addr) (n s:Nat) (P:Array Value→α→Prop) (f:Nat→α):Prop:=∃xs,InAt k A xs∧RowC xs∧ArrV n s P xs f
theorem Els.up (h:Els k A n s P f) (u:Up k k'):Els k' A n s P f:=by
 obtain⟨xs,h1,h2,h3⟩:=h;exact⟨xs,h1.up u,h2,h3⟩
theorem Els.mono (h:Els k A n s P f) (hP:∀a v,P a v→Q a v):Els k A n s Q f:=by
 obtain⟨xs,h1,h2,h3⟩:=h;exact⟨xs,h1,h2,h3.mono hP⟩
theorem ArrV.el (h:ArrV n s P xs f) (hi:i<n):∃a:Array Value,a.size=s∧P a (f i)∧∀(q:Nat) u,a[q]?=some u→xs[i*s+q]?=some u:=by
 refine⟨elt xs s i,jM _ _ _,Arr.el h i hi,fun q u hu=>?_⟩;have hq:q<s:=by have:=(jr.1 hu).1;rwa [jM]at this
 rw [←hu,eB _ _ _ _ hq (by rw [h.size];exact om s hi)]
theorem Els.el (h:Els k A n s P f) (hi:i<n) (hs:0<s):∃a:Array Value,a.size=s∧P a (f i)∧(∃b o,A=some ⟨b,o,none⟩)∧
 ∀k',Up k k'→∀(j m:Nat) x,x.cells.size=m→(∀(q:Nat) u,x.cells[q]?=some u→a[j+q]?=some u)→ReadAt k'.cell? A (Int.toNat (i:Int)*s+j) m x:=by
 obtain⟨xs,h1,hc,h2⟩:=h;obtain⟨a,ha,hp,hx⟩:=h2.el hi;refine⟨a,ha,hp,?_,fun k' u j m x hm hq=>(h1.up u).read hc hm fun q v hv=>?_⟩
 ·obtain⟨b,o,e,_⟩:=h1 (i*s+0) a[0] (hx 0 _ (ot oq));exact⟨b,o,e⟩
 ·rw [xu];exact hx _ _ (hq q v hv)
theorem ArrV.rowC (h:ArrV n s P xs f) (hP:∀a v,P a v→Seg s a):RowC xs:=(ArrV.seg h hP).2
theorem ArrV.els (h:ArrV n s P xs f) (hP:∀a v,P a v→Seg s a) (hr:RowAt k A xs):Els k A n s P f:=⟨xs,.of hr,h.rowC hP,h⟩
theorem ArrV.push {a:Array Value}(h:ArrV n s P xs f) (ha:a.size=s) (hp:P a (f n)):ArrV (n+1) s P (xs++a.toList.toArray) f:=by
 have hz:=h.size;have h3:(n+1)*s=n*s+s:=zq _ _;refine⟨by simp [hz,ha,h3],fun i hi=>?_⟩;have h4:(i+1)*s≤(n+1)*s:=Nat.mul_le_mul_right s hi;have hsz:(xs++a.toList.toArray).size=(n+1)*s:=by simp [hz,ha,h3]
 by_cases e:i=n
 ·subst e;have:elt (xs++a.toList.toArray) s i=a:=kI ha fun q hq=>by
   rw [eB _ _ _ _ hq (by rw [hsz];exact h4),Array.getElem?_append_right oq];rw [hz,Nat.add_sub_cancel_left]
  show P (elt _ s i) (f i);rw [this];exact hp
 ·have hlt:i<n:=oq
  have h5:(i+1)*s≤n*s:=om s hlt;have h6:(i+1)*s=i*s+s:=zq _ _;have:elt (xs++a.toList.toArray) s i=elt xs s i:=kI (jM _ _ _) fun q hq=>by
   rw [eB _ _ _ _ hq (by rw [hsz];exact h4),eB _ _ _ _ hq oq,Array.getElem?_append_left oq]
  show P (elt _ s i) (f i);rw [this];exact Arr.el h i hlt
theorem ArrV.empty:ArrV 0 s P #[] f:=⟨by simp,fun i hi=>absurd hi (yq _)⟩
end
open Value (agg slice int bool tuple)
open Sy (Up Sees CallsG Seg execFn_use)
set_option maxRecDepth 100000
variable {k:World}{R:World→Value→Prop}{n0 n1:Int}{cs0 cs1 cs2:Array Value}
theorem aGc 
 (h:Rt R k (int .i64 (Int.tmod (wrap .i64 ((Int.tmod n0 24)+24)) 24))) :
 CallsG Tryz.prog 185 #[int .i64 n0] k R:=
 qY { opq:=[] } h
theorem aGf (hcs0:Seg 9 cs0) (hcs1:Seg 18 cs1)
 (h:Cl k 78 #[agg cs1] fun k1 r0=>Gt 9 r0 fun cs2=>
 Cl k1 37 #[agg cs0,agg cs2] fun k3 r2=>Gt 9 r2 fun cs3=>
 Cl k3 169 #[agg cs1] fun k5 r4=>Gt 9 r4 fun cs4=>
 Cl k5 37 #[agg cs0,agg cs4] fun k7 r6=>Gt 9 r6 fun cs5=>
 Cl k7 79 #[agg cs3,agg cs5] fun k9 r8=>Gt 18 r8 fun cs6=>
 Rt R k9 (agg cs6)) :
  CallsG Tryz.prog 188 #[agg cs0,agg cs1] k R:=
  qX { opq:=[35,37] } [.agg [.seg 0 9],.agg [.seg 1 18]] [agg cs0,agg cs1] [.seg 9,.seg 18] ⟨⟨cs0,rfl,hcs0⟩,⟨cs1,rfl,hcs1⟩,trivial⟩ h
theorem aKg 
 (h:Cl k 186 #[int .i64 1,int .i64 n0] fun k1 r0=>∃cs1,Seg 3 cs1∧∃n2,some (tuple #[agg cs1,int .i64 n2])=some r0∧
 Cl k1 38 #[agg #[bool false,slice none 0 0,bool false,slice none 0 0,bool false,slice none 0 0,bool false,slice none 0 0,slice none 0 0],agg cs1] fun k3 r2=>Gt 9 r2 fun cs3=>
 Rt R k3 (agg cs3)) :
  CallsG Tryz.prog 101 #[int .i64 n0] k R:=
  qY { opq:=[35,88] } h
theorem aGh 
 (h:Cl k 60 #[int .i64 n0] fun k1 r0=>Gt 3 r0 fun cs1=>
 Cl k1 38 #[agg #[bool false,slice none 0 0,bool false,slice none 0 0,bool false,slice none 0 0,bool false,slice none 0 0,slice none 0 0],agg cs1] fun k3 r2=>Gt 9 r2 fun cs2=>
 Rt R k3 (agg cs2)) :
  CallsG Tryz.prog 99 #[int .i64 n0] k R:=
  qY { opq:=[35,88] } h
theorem aGb (hcs0:Seg 216 cs0)
 (h:∃I0:Nat→World→List Value→Prop,(∃m0,∀k0,Up k k0→I0 m0 k0 [int .i64 0,agg #[bool false,slice none 0 0,bool false,slice none 0 0,bool false,slice none 0 0,bool false,slice none 0 0,slice none 0 0,bool false,slice none 0 0,bool false,slice none 0 0,bool false,slice none 0 0,bool false,slice none 0 0,slice none 0 0]])∧
 ∀m0 k0 vs0,Up k k0→I0 m0 k0 vs0→∃n2,∃cs3,Seg 18 cs3∧some [int .i64 n2,agg cs3]=some vs0∧
 Br (decide ((n2:Int)<24)) ((decide ((0:Int)≤n2∧(n2:Int)<24))=true∧
 (Cl k0 116 #[int .i64 (wrap .i64 ((wrap .i64 (0-n1))*n2))] fun k2 r1=>Gt 18 r1 fun cs4=>
 Cl k2 188 #[agg (Sy.pickL cs0 (Int.toNat n2*9+0) 9).toArray,agg cs4] fun k4 r3=>Gt 18 r3 fun cs5=>
 Cl k4 187 #[agg cs3,agg cs5] fun k6 r5=>Gt 18 r5 fun cs6=>
 ∀k7,Up k6 k7→∃m,m<m0∧I0 m k7 [int .i64 (wrap .i64 (n2+1)),agg cs6])) (Cl k0 101 #[int .i64 24] fun k9 r8=>Gt 9 r8 fun cs4=>
 Cl k9 188 #[agg cs4,agg cs3] fun k11 r10=>Gt 18 r10 fun cs5=>
 Rt R k11 (agg cs5))) :
  CallsG Tryz.prog 103 #[agg cs0,int .i64 n1] k R:=
  qX { opq:=[80,35,37],loops:=[(0,[.tmp 9 false [.int .i64],.blk 2 [.seg 18]])] } [.agg [.seg 0 216],.one (.var 1)] [agg cs0,int .i64 n1] [.seg 216,.int .i64] ⟨⟨cs0,rfl,hcs0⟩,⟨_,rfl⟩,trivial⟩ h
theorem yI (hcs0:Seg 216 cs0)
 (h:∃I0:Nat→World→List Value→Prop,(∃m0,∀k0,Up k k0→I0 m0 k0 [int .i64 0,agg (pX 13 (zS++zS))])∧
 ∀m0 k0 vs0,Up k k0→I0 m0 k0 vs0→∃n1,∃cs2,Seg 234 cs2∧some [int .i64 n1,agg cs2]=some vs0∧
 Br (decide ((n1:Int)<13)) (Cl k0 103 #[agg cs0,int .i64 n1] fun k2 r1=>Gt 18 r1 fun cs3=>
 (decide ((0:Int)≤n1∧(n1:Int)<13))=true∧
 (∀k3,Up k2 k3→∃m,m<m0∧I0 m k3 [int .i64 (wrap .i64 (n1+1)),agg (Sy.over cs2 (Int.toNat n1*18+0) cs3.toList)])) (Rt R k0 (agg cs2))) :
   CallsG Tryz.prog 33 #[agg cs0] k R:=
  qX { opq:=[80,39,35,37],loops:=[(0,[.tmp 5 false [.int .i64],.blk 2 [.seg 234]])] } [.agg [.seg 0 216]] [agg cs0] [.seg 216] ⟨⟨cs0,rfl,hcs0⟩,trivial⟩ h
theorem aBg 
 (h:Br ((n0:Int) == 0) (Cl k 99 #[int .i64 1] fun k1 r0=>Gt 9 r0 fun cs1=>
 Rt R k1 (agg cs1)) (Br ((n0:Int) == 12) (Cl k 99 #[int .i64 1] fun k4 r3=>Gt 9 r3 fun cs1=>
 Rt R k4 (agg cs1)) (Cl k 99 #[int .i64 2] fun k7 r6=>Gt 9 r6 fun cs1=>
 Rt R k7 (agg cs1)))) :
  CallsG Tryz.prog 113 #[int .i64 n0] k R:=
  qY { opq:=[35] } h
theorem aAy (hcs0:Seg 234 cs0)
 (h:∃I0:Nat→World→List Value→Prop,(∃m0,∀k0,Up k k0→I0 m0 k0 [int .i64 0,agg #[bool false,slice none 0 0,bool false,slice none 0 0,bool false,slice none 0 0,bool false,slice none 0 0,slice none 0 0]])∧
 ∀m0 k0 vs0,Up k k0→I0 m0 k0 vs0→∃n1,∃cs2,Seg 9 cs2∧some [int .i64 n1,agg cs2]=some vs0∧
 Br (decide ((n1:Int)<13)) ((decide ((0:Int)≤n1∧(n1:Int)<13))=true∧
 (Cl k0 113 #[int .i64 n1] fun k2 r1=>Gt 9 r1 fun cs3=>
 Cl k2 114 #[agg (Sy.pickL cs0 (Int.toNat n1*18+0) 18).toArray] fun k4 r3=>Gt 9 r3 fun cs4=>
 Cl k4 37 #[agg cs3,agg cs4] fun k6 r5=>Gt 9 r5 fun cs5=>
 Cl k6 36 #[agg cs2,agg cs5] fun k8 r7=>Gt 9 r7 fun cs6=>
 ∀k9,Up k8 k9→∃m,m<m0∧I0 m k9 [int .i64 (wrap .i64 (n1+1)),agg cs6])) (Rt R k0 (agg cs2))) :
  CallsG Tryz.prog 42 #[agg cs0] k R:=
  qX { opq:=[39,35,37],loops:=[(0,[.tmp 7 false [.int .i64],.blk 2 [.seg 9]])] } [.agg [.seg 0 234]] [agg cs0] [.seg 234] ⟨⟨cs0,rfl,hcs0⟩,trivial⟩ h
theorem vR (hcs0:Seg 216 cs0)
 (h:∃I0:Nat→World→List Value→Prop,(∃m0,∀k0,Up k k0→I0 m0 k0 [int .i64 0,agg (pX 24 zS)])∧
 ∀m0 k0 vs0,Up k k0→I0 m0 k0 vs0→∃n1,∃cs2,Seg 216 cs2∧some [int .i64 n1,agg cs2]=some vs0∧
 Br (decide ((n1:Int)<24)) (Cl k0 185 #[int .i64 (wrap .i64 (0-n1))] fun k2 r1=>Gi r1 fun n3=>
 (decide ((0:Int)≤n3∧(n3:Int)<24))=true∧
 ((decide ((0:Int)≤n1∧(n1:Int)<24))=true∧
 (∀k3,Up k2 k3→∃m,m<m0∧I0 m k3 [int .i64 (wrap .i64 (n1+1)),agg (Sy.over cs2 (Int.toNat n1*9+0) (Sy.pickL cs0 (Int.toNat n3*9+0) 9))]))) (Rt R k0 (agg cs2))) :
   CallsG Tryz.prog 98 #[agg cs0] k R:=
  qX { opq:=[80,35],loops:=[(0,[.tmp 5 false [.int .i64],.blk 2 [.seg 216]])] } [.agg [.seg 0 216]] [agg cs0] [.seg 216] ⟨⟨cs0,rfl,hcs0⟩,trivial⟩ h
theorem aAz (hcs0:Seg 216 cs0) (hcs1:Seg 9 cs1)
 (h:∃I0:Nat→World→List Value→Prop,(∃m0,∀k0,Up k k0→I0 m0 k0 [int .i64 0,agg cs0])∧
 ∀m0 k0 vs0,Up k k0→I0 m0 k0 vs0→∃n2,∃cs3,Seg 216 cs3∧some [int .i64 n2,agg cs3]=some vs0∧
 Br (decide ((n2:Int)<24)) ((decide ((0:Int)≤n2∧(n2:Int)<24))=true∧
 (Cl k0 37 #[agg cs1,agg (Sy.pickL cs3 (Int.toNat n2*9+0) 9).toArray] fun k2 r1=>Gt 9 r1 fun cs4=>
 (decide ((0:Int)≤n2∧(n2:Int)<24))=true∧
 (∀k3,Up k2 k3→∃m,m<m0∧I0 m k3 [int .i64 (wrap .i64 (n2+1)),agg (Sy.over cs3 (Int.toNat n2*9+0) cs4.toList)]))) (Rt R k0 (agg cs3))) :
   CallsG Tryz.prog 97 #[agg cs0,agg cs1] k R:=
  qX { opq:=[80,35],loops:=[(0,[.tmp 6 false [.int .i64],.blk 0 [.seg 216]])] } [.agg [.seg 0 216],.agg [.seg 1 9]] [agg cs0,agg cs1] [.seg 216,.seg 9] ⟨⟨cs0,rfl,hcs0⟩,⟨cs1,rfl,hcs1⟩,trivial⟩ h
theorem aKe (hcs0:Seg 216 cs0)
 (h:Cl k 103 #[agg cs0,int .i64 0] fun k1 r0=>Gt 18 r0 fun cs1=>
 Cl k1 78 #[agg cs1] fun k3 r2=>Gt 9 r2 fun cs2=>
 Rt R k3 (agg cs2)) :
  CallsG Tryz.prog 100 #[agg cs0] k R:=
  qX { opq:=[80,35,37] } [.agg [.seg 0 216]] [agg cs0] [.seg 216] ⟨⟨cs0,rfl,hcs0⟩,trivial⟩ h
theorem aFw (hcs0:Seg 216 cs0) (hcs1:Seg 216 cs1) (hcs2:Seg 216 cs2)
 (h:Cl k 100 #[agg cs1] fun k1 r0=>Gt 9 r0 fun cs3=>
 Cl k1 100 #[agg cs2] fun k3 r2=>Gt 9 r2 fun cs4=>
 Cl k3 101 #[int .i64 2] fun k5 r4=>Gt 9 r4 fun cs5=>
 Cl k5 36 #[agg cs3,agg cs4] fun k7 r6=>Gt 9 r6 fun cs6=>
 Cl k7 37 #[agg cs5,agg cs6] fun k9 r8=>Gt 9 r8 fun cs7=>
 Cl k9 101 #[int .i64 2] fun k11 r10=>Gt 9 r10 fun cs8=>
 Cl k11 102 #[agg cs3,agg cs4] fun k13 r12=>Gt 9 r12 fun cs9=>
 Cl k13 37 #[agg cs8,agg cs9] fun k15 r14=>Gt 9 r14 fun cs10=>
 Rt R k15 (tuple #[agg cs7,agg cs10])) :
  CallsG Tryz.prog 32 #[agg (cs0.toList++(cs1.toList++(cs2.toList++([])))).toArray] k R:=
  qX { opq:=[80,35] } [.agg [.seg 0 216,.seg 1 216,.seg 2 216]] [agg cs0,agg cs1,agg cs2] [.seg 216,.seg 216,.seg 216] ⟨⟨cs0,rfl,hcs0⟩,⟨cs1,rfl,hcs1⟩,⟨cs2,rfl,hcs2⟩,trivial⟩ h
end Go.Proofs.YtifcjpacobpdmaaGreat

namespace Go.Proofs.YtifcjpacobpdmaaGreat
open IntKind (wrap)
open Go.RowKit
open Value (agg slice int bool tuple)
open Sy (Up Sees CallsG Seg execFn_use)
set_option maxRecDepth 100000
variable {k:World}{R:World→Value→Prop}{n0:Int}
theorem aKp 
 (h:Rt R k (int .i64 (Int.tmod (wrap .i64 ((Int.tmod n0 24)+24)) 24))) :
 CallsG Tryz.prog 202 #[int .i64 n0] k R:=
 qY { opq:=[] } h
theorem aMu 
 (h:Cl k 202 #[int .i64 n0] fun k1 r0=>Gi r0 fun n1=>
 Cl k1 203 #[int .i64 n1] fun k3 r2=>Gt 9 r2 fun cs2=>
 Cl k3 202 #[int .i64 (wrap .i64 (n1-6))] fun k5 r4=>Gi r4 fun n3=>
 Cl k5 203 #[int .i64 n3] fun k7 r6=>Gt 9 r6 fun cs4=>
 Rt R k7 (agg (cs2.toList++(cs4.toList++([]))).toArray)) :
  CallsG Tryz.prog 116 #[int .i64 n0] k R:=
  qY { opq:=[35] } h
theorem bB 
 (h:Br (decide ((n0:Int) > 12)) (Br (decide (((wrap .i64 (24-n0)):Int) > 6)) (Cl k 203 #[int .i64 (wrap .i64 (12-(wrap .i64 (24-n0))))] fun k1 r0=>Gt 9 r0 fun cs1=>
 Cl k1 41 #[agg cs1] fun k3 r2=>Gt 9 r2 fun cs2=>
 Rt R k3 (agg cs2)) (Br (((wrap .i64 (24-n0)):Int) == 0) (Cl k 148 #[int .i64 1] fun k6 r5=>Gt 2 r5 fun cs1=>
 Rt R k6 (agg (cs1.toList++((bool false) :: ((slice none 0 0) :: ((bool false) :: ((slice none 0 0) :: ((bool false) :: ((slice none 0 0) :: ((slice none 0 0) :: ([]))))))))).toArray)) (Br (((wrap .i64 (24-n0)):Int) == 1) (Cl k 274 #[int .i64 1,int .u64 4] fun k9 r8=>Gt 9 r8 fun cs1=>
 Cl k9 274 #[int .i64 3,int .u64 4] fun k11 r10=>Gt 9 r10 fun cs2=>
 Cl k11 36 #[agg cs1,agg cs2] fun k13 r12=>Gt 9 r12 fun cs3=>
 Rt R k13 (agg cs3)) (Br (((wrap .i64 (24-n0)):Int) == 2) (Cl k 274 #[int .i64 2,int .u64 2] fun k16 r15=>Gt 9 r15 fun cs1=>
 Rt R k16 (agg cs1)) (Br (((wrap .i64 (24-n0)):Int) == 3) (Cl k 274 #[int .i64 1,int .u64 2] fun k19 r18=>Gt 9 r18 fun cs1=>
 Rt R k19 (agg cs1)) (Br (((wrap .i64 (24-n0)):Int) == 4) (Cl k 274 #[int .i64 0,int .u64 2] fun k22 r21=>Gt 9 r21 fun cs1=>
 Rt R k22 (agg cs1)) (Br (((wrap .i64 (24-n0)):Int) == 5) (Cl k 274 #[int .i64 3,int .u64 4] fun k25 r24=>Gt 9 r24 fun cs1=>
 Cl k25 274 #[int .i64 1,int .u64 4] fun k27 r26=>Gt 9 r26 fun cs2=>
 Cl k27 102 #[agg cs1,agg cs2] fun k29 r28=>Gt 9 r28 fun cs3=>
 Rt R k29 (agg cs3)) (Rt R k (agg #[bool false,slice none 0 0,bool false,slice none 0 0,bool false,slice none 0 0,bool false,slice none 0 0,slice none 0 0]))))))))) (Br (decide ((n0:Int) > 6)) (Cl k 203 #[int .i64 (wrap .i64 (12-n0))] fun k33 r32=>Gt 9 r32 fun cs1=>
 Cl k33 41 #[agg cs1] fun k35 r34=>Gt 9 r34 fun cs2=>
 Rt R k35 (agg cs2)) (Br ((n0:Int) == 0) (Cl k 148 #[int .i64 1] fun k38 r37=>Gt 2 r37 fun cs1=>
 Rt R k38 (agg (cs1.toList++((bool false) :: ((slice none 0 0) :: ((bool false) :: ((slice none 0 0) :: ((bool false) :: ((slice none 0 0) :: ((slice none 0 0) :: ([]))))))))).toArray)) (Br ((n0:Int) == 1) (Cl k 274 #[int .i64 1,int .u64 4] fun k41 r40=>Gt 9 r40 fun cs1=>
 Cl k41 274 #[int .i64 3,int .u64 4] fun k43 r42=>Gt 9 r42 fun cs2=>
 Cl k43 36 #[agg cs1,agg cs2] fun k45 r44=>Gt 9 r44 fun cs3=>
 Rt R k45 (agg cs3)) (Br ((n0:Int) == 2) (Cl k 274 #[int .i64 2,int .u64 2] fun k48 r47=>Gt 9 r47 fun cs1=>
 Rt R k48 (agg cs1)) (Br ((n0:Int) == 3) (Cl k 274 #[int .i64 1,int .u64 2] fun k51 r50=>Gt 9 r50 fun cs1=>
 Rt R k51 (agg cs1)) (Br ((n0:Int) == 4) (Cl k 274 #[int .i64 0,int .u64 2] fun k54 r53=>Gt 9 r53 fun cs1=>
 Rt R k54 (agg cs1)) (Br ((n0:Int) == 5) (Cl k 274 #[int .i64 3,int .u64 4] fun k57 r56=>Gt 9 r56 fun cs1=>
 Cl k57 274 #[int .i64 1,int .u64 4] fun k59 r58=>Gt 9 r58 fun cs2=>
 Cl k59 102 #[agg cs1,agg cs2] fun k61 r60=>Gt 9 r60 fun cs3=>
 Rt R k61 (agg cs3)) (Rt R k (agg #[bool false,slice none 0 0,bool false,slice none 0 0,bool false,slice none 0 0,bool false,slice none 0 0,slice none 0 0])))))))))) :
  CallsG Tryz.prog 203 #[int .i64 n0] k R:=
  qY { opq:=[35,32] } h
theorem aGk
 (h:Cl k 148 #[int .i64 1] fun k1 r0=>Gt 2 r0 fun cs0=>
 Cl k1 189 #[int .u64 4] fun k3 r2=>∃A1 l1 c1,some (slice A1 l1 c1)=some r2∧
 Rt R k3 (agg ((bool false) :: ((slice none 0 0) :: (cs0.toList++((bool false) :: ((slice none 0 0) :: ((bool false) :: ((slice none 0 0) :: ((slice A1 l1 c1) :: ([]))))))))).toArray)) :
  CallsG Tryz.prog 274 #[int .i64 1,int .u64 4] k R:=
  Sy.execFn_use_heap (cfg:={ opq:=[32] }) (args:=[.one (.lit (.int .i64 (1))),.one (.lit (.int .u64 (4)))]) (vals:=[]) (kinds:=[]) (blks:=[]) (heap:=[]) ox trivial ox trivial ox h
theorem aGm
 (h:Cl k 148 #[int .i64 1] fun k1 r0=>Gt 2 r0 fun cs0=>
 Cl k1 189 #[int .u64 4] fun k3 r2=>∃A1 l1 c1,some (slice A1 l1 c1)=some r2∧
 Rt R k3 (agg ((bool false) :: ((slice none 0 0) :: ((bool false) :: ((slice none 0 0) :: ((bool false) :: ((slice none 0 0) :: (cs0.toList++((slice A1 l1 c1) :: ([]))))))))).toArray)) :
  CallsG Tryz.prog 274 #[int .i64 3,int .u64 4] k R:=
  Sy.execFn_use_heap (cfg:={ opq:=[32] }) (args:=[.one (.lit (.int .i64 (3))),.one (.lit (.int .u64 (4)))]) (vals:=[]) (kinds:=[]) (blks:=[]) (heap:=[]) ox trivial ox trivial ox h
theorem aGl
 (h:Cl k 148 #[int .i64 1] fun k1 r0=>Gt 2 r0 fun cs0=>
 Cl k1 189 #[int .u64 2] fun k3 r2=>∃A1 l1 c1,some (slice A1 l1 c1)=some r2∧
 Rt R k3 (agg ((bool false) :: ((slice none 0 0) :: ((bool false) :: ((slice none 0 0) :: (cs0.toList++((bool false) :: ((slice none 0 0) :: ((slice A1 l1 c1) :: ([]))))))))).toArray)) :
  CallsG Tryz.prog 274 #[int .i64 2,int .u64 2] k R:=
  Sy.execFn_use_heap (cfg:={ opq:=[32] }) (args:=[.one (.lit (.int .i64 (2))),.one (.lit (.int .u64 (2)))]) (vals:=[]) (kinds:=[]) (blks:=[]) (heap:=[]) ox trivial ox trivial ox h
theorem aGj
 (h:Cl k 148 #[int .i64 1] fun k1 r0=>Gt 2 r0 fun cs0=>
 Cl k1 189 #[int .u64 2] fun k3 r2=>∃A1 l1 c1,some (slice A1 l1 c1)=some r2∧
 Rt R k3 (agg ((bool false) :: ((slice none 0 0) :: (cs0.toList++((bool false) :: ((slice none 0 0) :: ((bool false) :: ((slice none 0 0) :: ((slice A1 l1 c1) :: ([]))))))))).toArray)) :
  CallsG Tryz.prog 274 #[int .i64 1,int .u64 2] k R:=
  Sy.execFn_use_heap (cfg:={ opq:=[32] }) (args:=[.one (.lit (.int .i64 (1))),.one (.lit (.int .u64 (2)))]) (vals:=[]) (kinds:=[]) (blks:=[]) (heap:=[]) ox trivial ox trivial ox h
theorem aGi
 (h:Cl k 148 #[int .i64 1] fun k1 r0=>Gt 2 r0 fun cs0=>
 Cl k1 189 #[int .u64 2] fun k3 r2=>∃A1 l1 c1,some (slice A1 l1 c1)=some r2∧
 Rt R k3 (agg (cs0.toList++((bool false) :: ((slice none 0 0) :: ((bool false) :: ((slice none 0 0) :: ((bool false) :: ((slice none 0 0) :: ((slice A1 l1 c1) :: ([]))))))))).toArray)) :
  CallsG Tryz.prog 274 #[int .i64 0,int .u64 2] k R:=
  Sy.execFn_use_heap (cfg:={ opq:=[32] }) (args:=[.one (.lit (.int .i64 (0))),.one (.lit (.int .u64 (2)))]) (vals:=[]) (kinds:=[]) (blks:=[]) (heap:=[]) ox trivial ox trivial ox h
end Go.Proofs.YtifcjpacobpdmaaGreat

namespace Go.Proofs.YtifcjpacobpdmaaGreat
open IntKind (wrap)
open Go.RowKit Num
open Sy (Up Sees CallsG Seg)
section
variable {k k':World}{cs cs' c0 c1:Array Value}{R:World→Value→Prop}{v v':Q4}{x y:W4}{K L:Nat}
theorem IntV.cut {z:Int}(h:IntV k cs z K) (hz:z.natAbs≤1000):IntV k cs z 1:=by
 obtain⟨b,A,n,c,e,h1,h2⟩:=h;refine⟨b,A,n,c,e,h1,?_⟩;rw [h1.lim.len];exact bD (by unfold B64;omega)
theorem jB {z:Int}{m:Nat}(hm:0<m) (h:q4s (mkRat z m)=true):m ∣ 4*z.natAbs∧4*z.natAbs≤1000*m:=by
 unfold q4s at h;rw [qk,beq_iff_eq,decide_eq_true_iff]at h;have e:(4:Rat)*mkRat z m=mkRat (z*(4:Nat)) m:=by rw [oV z 4 hm];rfl
 rw [e,yD _ hm,tV _ hm]at h;obtain⟨h1,h2⟩:=h;have hz:(z*((4:Nat):Int)).natAbs=4*z.natAbs:=by rw [xi,za,qw]
 rw [hz]at h1 h2;generalize hg:Nat.gcd (4*z.natAbs) m=g at h1 h2;have d1:g ∣ m:=hg▸ki _ _;have d2:g ∣ 4*z.natAbs:=hg▸wy _ _;have em:m=g:=by have:=Nat.div_mul_cancel d1;rw [h1,vq]at this;exact this.symm
 have hle:=om g h2;rw [Nat.div_mul_cancel d2]at hle;rw [em];exact⟨d2,hle⟩
theorem SurdV.cut (h:SurdV k cs v K) (hs:v.small=true):SurdV k cs v 1:=by
 obtain⟨c0,c1,c2,c3,D,d,e,y0,y1,y2,y3,m,h1,hm,hg,rfl,i0,i1,i2,i3,l,hd⟩:=h;unfold Q4.small mkQ at hs;rw [qk,qk,qk]at hs;obtain⟨⟨⟨s0,s1⟩,s2⟩,s3⟩:=hs;obtain⟨d0,b0⟩:=jB hm s0;obtain⟨d1,b1⟩:=jB hm s1;obtain⟨d2,b2⟩:=jB hm s2;obtain⟨d3,b3⟩:=jB hm s3;have hm4:m ∣ 4:=by
  have dm:m ∣ 4*m:=Nat.dvd_mul_left m 4;have:=xl (xl (xl (xl dm d0) d1) d2) d3;rw [xy,xy,xy,xy]at this;unfold gcd5 at hg;rw [hg]at this;exact this
 have hm4:=Nat.le_of_dvd oz hm4;refine⟨c0,c1,c2,c3,D,d,e,y0,y1,y2,y3,m,h1,hm,hg,rfl,i0.cut oq,i1.cut oq,i2.cut oq,i3.cut oq,l,?_⟩;rw [l.len];refine bD ?_;unfold B64;split <;> omega
theorem WaveV.nil:WaveV k #[.bool false,.slice none 0 0,.bool false,.slice none 0 0,.bool false,.slice none 0 0,.bool false,.slice none 0 0,.slice none 0 0,.bool false,.slice none 0 0,.bool false,.slice none 0 0,.bool false,.slice none 0 0,.bool false,.slice none 0 0,.slice none 0 0] W4.zero K:=
 ⟨#[.bool false,.slice none 0 0,.bool false,.slice none 0 0,.bool false,.slice none 0 0,.bool false,.slice none 0 0,.slice none 0 0],#[.bool false,.slice none 0 0,.bool false,.slice none 0 0,.bool false,.slice none 0 0,.bool false,.slice none 0 0,.slice none 0 0],rfl,SurdV.nil (jw _),SurdV.nil (jw _)⟩
theorem aCl (hx:WaveV k cs x K) (hy:WaveV k cs' y K) (e:x=y) (hK1:1≤K) (hK:K≤134217727) (C:∀k',Up k k'→R k' (.bool true)) :
 Cl k 34 #[.agg cs,.agg cs'] R:=
 aNv hx hy hK1 hK fun k' u=>by rw [decide_eq_true e];exact C k' u
theorem lY (hx:SurdV k cs v K) (hy:SurdV k cs' v' K) (e:v=v') (hK1:1≤K) (hK:K≤134217727) (C:∀k',Up k k'→R k' (.bool true)) :
 Cl k 40 #[.agg cs,.agg cs'] R:=
 uX hx hy hK1 hK fun k' u=>by rw [decide_eq_true e];exact C k' u
theorem mT (C:∀k' ds,Up k k'→SurdV k' ds ⟨0,1/4,0,0⟩ 1→R k' (.agg ds)) :
 Cl k 274 #[.int .i64 1,.int .u64 4] R:=by
 intro k0 u0;refine aGk ?_;refine yL oz oz fun k1 d1 u1 i1=>⟨d1,i1.seg,rfl,?_⟩;refine lW (x:=4) oz fun k2 A l c u2 l2 hl=>⟨A,l,c,rfl,fun k3 u3=>?_⟩;exact C k3 _ (((u0.trans u1).trans u2).trans u3) ⟨#[.bool false,.slice none 0 0],d1,#[.bool false,.slice none 0 0],#[.bool false,.slice none 0 0],A,l,c,0,1,0,0,4,rfl,oz,oz,by decide +kernel,IntV.nil,(i1.up u2).up u3,IntV.nil,IntV.nil,(by rw [oh oz];exact l2.up u3),hl⟩
theorem mU (C:∀k' ds,Up k k'→SurdV k' ds ⟨0,0,0,1/4⟩ 1→R k' (.agg ds)) :
 Cl k 274 #[.int .i64 3,.int .u64 4] R:=by
 intro k0 u0;refine aGm ?_;refine yL oz oz fun k1 d1 u1 i1=>⟨d1,i1.seg,rfl,?_⟩;refine lW (x:=4) oz fun k2 A l c u2 l2 hl=>⟨A,l,c,rfl,fun k3 u3=>?_⟩;exact C k3 _ (((u0.trans u1).trans u2).trans u3) ⟨#[.bool false,.slice none 0 0],#[.bool false,.slice none 0 0],#[.bool false,.slice none 0 0],d1,A,l,c,0,0,0,1,4,rfl,oz,oz,by decide +kernel,IntV.nil,IntV.nil,IntV.nil,(i1.up u2).up u3,(by rw [oh oz];exact l2.up u3),hl⟩
theorem yS (C:∀k' ds,Up k k'→SurdV k' ds ⟨0,0,1/2,0⟩ 1→R k' (.agg ds)) :
 Cl k 274 #[.int .i64 2,.int .u64 2] R:=by
 intro k0 u0;refine aGl ?_;refine yL oz oz fun k1 d1 u1 i1=>⟨d1,i1.seg,rfl,?_⟩;refine lW (x:=2) oz fun k2 A l c u2 l2 hl=>⟨A,l,c,rfl,fun k3 u3=>?_⟩;exact C k3 _ (((u0.trans u1).trans u2).trans u3) ⟨#[.bool false,.slice none 0 0],#[.bool false,.slice none 0 0],d1,#[.bool false,.slice none 0 0],A,l,c,0,0,1,0,2,rfl,oz,oz,by decide +kernel,IntV.nil,IntV.nil,(i1.up u2).up u3,IntV.nil,(by rw [oh oz];exact l2.up u3),hl⟩
theorem yR (C:∀k' ds,Up k k'→SurdV k' ds ⟨0,1/2,0,0⟩ 1→R k' (.agg ds)) :
 Cl k 274 #[.int .i64 1,.int .u64 2] R:=by
 intro k0 u0;refine aGj ?_;refine yL oz oz fun k1 d1 u1 i1=>⟨d1,i1.seg,rfl,?_⟩;refine lW (x:=2) oz fun k2 A l c u2 l2 hl=>⟨A,l,c,rfl,fun k3 u3=>?_⟩;exact C k3 _ (((u0.trans u1).trans u2).trans u3) ⟨#[.bool false,.slice none 0 0],d1,#[.bool false,.slice none 0 0],#[.bool false,.slice none 0 0],A,l,c,0,1,0,0,2,rfl,oz,oz,by decide +kernel,IntV.nil,(i1.up u2).up u3,IntV.nil,IntV.nil,(by rw [oh oz];exact l2.up u3),hl⟩
theorem yQ (C:∀k' ds,Up k k'→SurdV k' ds ⟨1/2,0,0,0⟩ 1→R k' (.agg ds)) :
 Cl k 274 #[.int .i64 0,.int .u64 2] R:=by
 intro k0 u0;refine aGi ?_;refine yL oz oz fun k1 d1 u1 i1=>⟨d1,i1.seg,rfl,?_⟩;refine lW (x:=2) oz fun k2 A l c u2 l2 hl=>⟨A,l,c,rfl,fun k3 u3=>?_⟩;exact C k3 _ (((u0.trans u1).trans u2).trans u3) ⟨d1,#[.bool false,.slice none 0 0],#[.bool false,.slice none 0 0],#[.bool false,.slice none 0 0],A,l,c,1,0,0,0,2,rfl,oz,oz,by decide +kernel,(i1.up u2).up u3,IntV.nil,IntV.nil,IntV.nil,(by rw [oh oz];exact l2.up u3),hl⟩
theorem cast4 (h:SurdV k cs v K) (e:v=v'):SurdV k cs v' K:=e▸h
theorem aEj (C:∀k' ds,Up k k'→SurdV k' ds (eV 0) 1→R k' (.agg ds)) :
 Cl k 203 #[.int .i64 0] R:=by
 intro k0 u0;refine bB ⟨fun h=>absurd h (by decide +kernel),fun _=>⟨fun h=>absurd h (by decide +kernel),fun _=>⟨fun _=>?_,fun h=>absurd h (by decide +kernel)⟩⟩⟩;refine yL oz oz fun k1 d1 u1 i1=>⟨d1,i1.seg,rfl,fun k2 u2=>?_⟩;exact C k2 _ ((u0.trans u1).trans u2) ⟨d1,#[.bool false,.slice none 0 0],#[.bool false,.slice none 0 0],#[.bool false,.slice none 0 0],none,0,0,1,0,0,0,1,rfl,oz,oz,by decide +kernel,i1.up u2,IntV.nil,IntV.nil,IntV.nil,(by rw [og rfl];exact LimR.nil),jw _⟩
theorem wR (C:∀k' ds,Up k k'→SurdV k' ds (eV 1) 1→R k' (.agg ds)) :
 Cl k 203 #[.int .i64 1] R:=by
 intro k0 u0;refine bB ⟨fun h=>absurd h (by decide +kernel),fun _=>⟨fun h=>absurd h (by decide +kernel),fun _=>⟨fun h=>absurd h (by decide +kernel),fun _=>⟨fun _=>?_,fun h=>absurd h (by decide +kernel)⟩⟩⟩⟩;refine mT fun k1 d1 u1 h1=>⟨d1,h1.seg,rfl,?_⟩;refine mU fun k2 d2 u2 h2=>⟨d2,h2.seg,rfl,?_⟩;refine jG (h1.up u2) h2 oz oz fun k3 d3 u3 h3=>⟨d3,h3.seg,rfl,fun k4 u4=>?_⟩;refine C k4 d3 ((((u0.trans u1).trans u2).trans u3).trans u4) (SurdV.cut (K:=2*1+1) (cast4 (h3.up u4) (by decide +kernel)) (by decide +kernel))
theorem wS (C:∀k' ds,Up k k'→SurdV k' ds (eV 2) 1→R k' (.agg ds)) :
 Cl k 203 #[.int .i64 2] R:=by
 intro k0 u0;refine bB ⟨fun h=>absurd h (by decide +kernel),fun _=>⟨fun h=>absurd h (by decide +kernel),fun _=>⟨fun h=>absurd h (by decide +kernel),fun _=>⟨fun h=>absurd h (by decide +kernel),fun _=>⟨fun _=>?_,fun h=>absurd h (by decide +kernel)⟩⟩⟩⟩⟩;exact yS fun k1 d1 u1 h1=>⟨d1,h1.seg,rfl,fun k2 u2=>C k2 d1 ((u0.trans u1).trans u2) (h1.up u2)⟩
theorem wT (C:∀k' ds,Up k k'→SurdV k' ds (eV 3) 1→R k' (.agg ds)) :
 Cl k 203 #[.int .i64 3] R:=by
 intro k0 u0;refine bB ⟨fun h=>absurd h (by decide +kernel),fun _=>⟨fun h=>absurd h (by decide +kernel),fun _=>⟨fun h=>absurd h (by decide +kernel),fun _=>⟨fun h=>absurd h (by decide +kernel),fun _=>⟨fun h=>absurd h (by decide +kernel),fun _=>⟨fun _=>?_,fun h=>absurd h (by decide +kernel)⟩⟩⟩⟩⟩⟩;exact yR fun k1 d1 u1 h1=>⟨d1,h1.seg,rfl,fun k2 u2=>C k2 d1 ((u0.trans u1).trans u2) (h1.up u2)⟩
theorem wU (C:∀k' ds,Up k k'→SurdV k' ds (eV 4) 1→R k' (.agg ds)) :
 Cl k 203 #[.int .i64 4] R:=by
 intro k0 u0;refine bB ⟨fun h=>absurd h (by decide +kernel),fun _=>⟨fun h=>absurd h (by decide +kernel),fun _=>⟨fun h=>absurd h (by decide +kernel),fun _=>⟨fun h=>absurd h (by decide +kernel),fun _=>⟨fun h=>absurd h (by decide +kernel),fun _=>⟨fun h=>absurd h (by decide +kernel),fun _=>⟨fun _=>?_,fun h=>absurd h (by decide +kernel)⟩⟩⟩⟩⟩⟩⟩;exact yQ fun k1 d1 u1 h1=>⟨d1,h1.seg,rfl,fun k2 u2=>C k2 d1 ((u0.trans u1).trans u2) (h1.up u2)⟩
theorem wV (C:∀k' ds,Up k k'→SurdV k' ds (eV 5) 1→R k' (.agg ds)) :
 Cl k 203 #[.int .i64 5] R:=by
 intro k0 u0;refine bB ⟨fun h=>absurd h (by decide +kernel),fun _=>⟨fun h=>absurd h (by decide +kernel),fun _=>⟨fun h=>absurd h (by decide +kernel),fun _=>⟨fun h=>absurd h (by decide +kernel),fun _=>⟨fun h=>absurd h (by decide +kernel),fun _=>⟨fun h=>absurd h (by decide +kernel),fun _=>⟨fun h=>absurd h (by decide +kernel),fun _=>⟨fun _=>?_,fun h=>absurd h (by decide +kernel)⟩⟩⟩⟩⟩⟩⟩⟩;refine mU fun k1 d1 u1 h1=>⟨d1,h1.seg,rfl,?_⟩;refine mT fun k2 d2 u2 h2=>⟨d2,h2.seg,rfl,?_⟩;refine qL (h1.up u2) h2 oz oz fun k3 d3 u3 h3=>⟨d3,h3.seg,rfl,fun k4 u4=>?_⟩;refine C k4 d3 ((((u0.trans u1).trans u2).trans u3).trans u4) (SurdV.cut (K:=2*1+1) (cast4 (h3.up u4) (by decide +kernel)) (by decide +kernel))
theorem aRg (C:∀k' ds,Up k k'→SurdV k' ds (eV 6) 1→R k' (.agg ds)) :
 Cl k 203 #[.int .i64 6] R:=by
 intro k0 u0;refine bB ⟨fun h=>absurd h (by decide +kernel),fun _=>⟨fun h=>absurd h (by decide +kernel),fun _=>⟨fun h=>absurd h (by decide +kernel),fun _=>⟨fun h=>absurd h (by decide +kernel),fun _=>⟨fun h=>absurd h (by decide +kernel),fun _=>⟨fun h=>absurd h (by decide +kernel),fun _=>⟨fun h=>absurd h (by decide +kernel),fun _=>⟨fun h=>absurd h (by decide +kernel),fun _=>?_⟩⟩⟩⟩⟩⟩⟩⟩;intro k1 u1;exact C k1 _ (u0.trans u1) (SurdV.nil (jw _))
theorem aRh (C:∀k' ds,Up k k'→SurdV k' ds (eV 7) 1→R k' (.agg ds)) :
 Cl k 203 #[.int .i64 7] R:=by
 intro k0 u0;refine bB ⟨fun h=>absurd h (by decide +kernel),fun _=>⟨fun _=>?_,fun h=>absurd h (by decide +kernel)⟩⟩;rw [show wrap .i64 (12-7)=(5:Int) from by decide +kernel];refine wV fun k1 d1 u1 h1=>⟨d1,h1.seg,rfl,?_⟩;refine dZ h1 oz fun k3 d3 u3 h3=>⟨d3,h3.seg,rfl,fun k4 u4=>?_⟩;exact C k4 d3 (((u0.trans u1).trans u3).trans u4) (h3.up u4)
theorem aRi (C:∀k' ds,Up k k'→SurdV k' ds (eV 8) 1→R k' (.agg ds)) :
 Cl k 203 #[.int .i64 8] R:=by
 intro k0 u0;refine bB ⟨fun h=>absurd h (by decide +kernel),fun _=>⟨fun _=>?_,fun h=>absurd h (by decide +kernel)⟩⟩;rw [show wrap .i64 (12-8)=(4:Int) from by decide +kernel];refine wU fun k1 d1 u1 h1=>⟨d1,h1.seg,rfl,?_⟩;refine dZ h1 oz fun k3 d3 u3 h3=>⟨d3,h3.seg,rfl,fun k4 u4=>?_⟩;exact C k4 d3 (((u0.trans u1).trans u3).trans u4) (h3.up u4)
theorem aRj (C:∀k' ds,Up k k'→SurdV k' ds (eV 9) 1→R k' (.agg ds)) :
 Cl k 203 #[.int .i64 9] R:=by
 intro k0 u0;refine bB ⟨fun h=>absurd h (by decide +kernel),fun _=>⟨fun _=>?_,fun h=>absurd h (by decide +kernel)⟩⟩;rw [show wrap .i64 (12-9)=(3:Int) from by decide +kernel];refine wT fun k1 d1 u1 h1=>⟨d1,h1.seg,rfl,?_⟩;refine dZ h1 oz fun k3 d3 u3 h3=>⟨d3,h3.seg,rfl,fun k4 u4=>?_⟩;exact C k4 d3 (((u0.trans u1).trans u3).trans u4) (h3.up u4)
theorem aMv (C:∀k' ds,Up k k'→SurdV k' ds (eV 10) 1→R k' (.agg ds)) :
 Cl k 203 #[.int .i64 10] R:=by
 intro k0 u0;refine bB ⟨fun h=>absurd h (by decide +kernel),fun _=>⟨fun _=>?_,fun h=>absurd h (by decide +kernel)⟩⟩;rw [show wrap .i64 (12-10)=(2:Int) from by decide +kernel];refine wS fun k1 d1 u1 h1=>⟨d1,h1.seg,rfl,?_⟩;refine dZ h1 oz fun k3 d3 u3 h3=>⟨d3,h3.seg,rfl,fun k4 u4=>?_⟩;exact C k4 d3 (((u0.trans u1).trans u3).trans u4) (h3.up u4)
theorem aMw (C:∀k' ds,Up k k'→SurdV k' ds (eV 11) 1→R k' (.agg ds)) :
 Cl k 203 #[.int .i64 11] R:=by
 intro k0 u0;refine bB ⟨fun h=>absurd h (by decide +kernel),fun _=>⟨fun _=>?_,fun h=>absurd h (by decide +kernel)⟩⟩;rw [show wrap .i64 (12-11)=(1:Int) from by decide +kernel];refine wR fun k1 d1 u1 h1=>⟨d1,h1.seg,rfl,?_⟩;refine dZ h1 oz fun k3 d3 u3 h3=>⟨d3,h3.seg,rfl,fun k4 u4=>?_⟩;exact C k4 d3 (((u0.trans u1).trans u3).trans u4) (h3.up u4)
theorem aMx (C:∀k' ds,Up k k'→SurdV k' ds (eV 12) 1→R k' (.agg ds)) :
 Cl k 203 #[.int .i64 12] R:=by
 intro k0 u0;refine bB ⟨fun h=>absurd h (by decide +kernel),fun _=>⟨fun _=>?_,fun h=>absurd h (by decide +kernel)⟩⟩;rw [show wrap .i64 (12-12)=(0:Int) from by decide +kernel];refine aEj fun k1 d1 u1 h1=>⟨d1,h1.seg,rfl,?_⟩;refine dZ h1 oz fun k3 d3 u3 h3=>⟨d3,h3.seg,rfl,fun k4 u4=>?_⟩;exact C k4 d3 (((u0.trans u1).trans u3).trans u4) (h3.up u4)
theorem aMy (C:∀k' ds,Up k k'→SurdV k' ds (eV 13) 1→R k' (.agg ds)) :
 Cl k 203 #[.int .i64 13] R:=by
 intro k0 u0;refine bB ⟨fun _=>⟨fun _=>?_,fun h=>absurd h (by decide +kernel)⟩,fun h=>absurd h (by decide +kernel)⟩;rw [show wrap .i64 (12-(wrap .i64 (24-13)))=(1:Int) from by decide +kernel];refine wR fun k1 d1 u1 h1=>⟨d1,h1.seg,rfl,?_⟩;refine dZ h1 oz fun k3 d3 u3 h3=>⟨d3,h3.seg,rfl,fun k4 u4=>?_⟩;exact C k4 d3 (((u0.trans u1).trans u3).trans u4) (h3.up u4)
theorem aMz (C:∀k' ds,Up k k'→SurdV k' ds (eV 14) 1→R k' (.agg ds)) :
 Cl k 203 #[.int .i64 14] R:=by
 intro k0 u0;refine bB ⟨fun _=>⟨fun _=>?_,fun h=>absurd h (by decide +kernel)⟩,fun h=>absurd h (by decide +kernel)⟩;rw [show wrap .i64 (12-(wrap .i64 (24-14)))=(2:Int) from by decide +kernel];refine wS fun k1 d1 u1 h1=>⟨d1,h1.seg,rfl,?_⟩;refine dZ h1 oz fun k3 d3 u3 h3=>⟨d3,h3.seg,rfl,fun k4 u4=>?_⟩;exact C k4 d3 (((u0.trans u1).trans u3).trans u4) (h3.up u4)
theorem aNa (C:∀k' ds,Up k k'→SurdV k' ds (eV 15) 1→R k' (.agg ds)) :
 Cl k 203 #[.int .i64 15] R:=by
 intro k0 u0;refine bB ⟨fun _=>⟨fun _=>?_,fun h=>absurd h (by decide +kernel)⟩,fun h=>absurd h (by decide +kernel)⟩;rw [show wrap .i64 (12-(wrap .i64 (24-15)))=(3:Int) from by decide +kernel];refine wT fun k1 d1 u1 h1=>⟨d1,h1.seg,rfl,?_⟩;refine dZ h1 oz fun k3 d3 u3 h3=>⟨d3,h3.seg,rfl,fun k4 u4=>?_⟩;exact C k4 d3 (((u0.trans u1).trans u3).trans u4) (h3.up u4)
theorem aNb (C:∀k' ds,Up k k'→SurdV k' ds (eV 16) 1→R k' (.agg ds)) :
 Cl k 203 #[.int .i64 16] R:=by
 intro k0 u0;refine bB ⟨fun _=>⟨fun _=>?_,fun h=>absurd h (by decide +kernel)⟩,fun h=>absurd h (by decide +kernel)⟩;rw [show wrap .i64 (12-(wrap .i64 (24-16)))=(4:Int) from by decide +kernel];refine wU fun k1 d1 u1 h1=>⟨d1,h1.seg,rfl,?_⟩;refine dZ h1 oz fun k3 d3 u3 h3=>⟨d3,h3.seg,rfl,fun k4 u4=>?_⟩;exact C k4 d3 (((u0.trans u1).trans u3).trans u4) (h3.up u4)
theorem aNc (C:∀k' ds,Up k k'→SurdV k' ds (eV 17) 1→R k' (.agg ds)) :
 Cl k 203 #[.int .i64 17] R:=by
 intro k0 u0;refine bB ⟨fun _=>⟨fun _=>?_,fun h=>absurd h (by decide +kernel)⟩,fun h=>absurd h (by decide +kernel)⟩;rw [show wrap .i64 (12-(wrap .i64 (24-17)))=(5:Int) from by decide +kernel];refine wV fun k1 d1 u1 h1=>⟨d1,h1.seg,rfl,?_⟩;refine dZ h1 oz fun k3 d3 u3 h3=>⟨d3,h3.seg,rfl,fun k4 u4=>?_⟩;exact C k4 d3 (((u0.trans u1).trans u3).trans u4) (h3.up u4)
theorem aNd (C:∀k' ds,Up k k'→SurdV k' ds (eV 18) 1→R k' (.agg ds)) :
 Cl k 203 #[.int .i64 18] R:=by
 intro k0 u0;refine bB ⟨fun _=>⟨fun h=>absurd h (by decide +kernel),fun _=>⟨fun h=>absurd h (by decide +kernel),fun _=>⟨fun h=>absurd h (by decide +kernel),fun _=>⟨fun h=>absurd h (by decide +kernel),fun _=>⟨fun h=>absurd h (by decide +kernel),fun _=>⟨fun h=>absurd h (by decide +kernel),fun _=>⟨fun h=>absurd h (by decide +kernel),fun _=>?_⟩⟩⟩⟩⟩⟩⟩,fun h=>absurd h (by decide +kernel)⟩;intro k1 u1;exact C k1 _ (u0.trans u1) (SurdV.nil (jw _))
theorem aNe (C:∀k' ds,Up k k'→SurdV k' ds (eV 19) 1→R k' (.agg ds)) :
 Cl k 203 #[.int .i64 19] R:=by
 intro k0 u0;refine bB ⟨fun _=>⟨fun h=>absurd h (by decide +kernel),fun _=>⟨fun h=>absurd h (by decide +kernel),fun _=>⟨fun h=>absurd h (by decide +kernel),fun _=>⟨fun h=>absurd h (by decide +kernel),fun _=>⟨fun h=>absurd h (by decide +kernel),fun _=>⟨fun h=>absurd h (by decide +kernel),fun _=>⟨fun _=>?_,fun h=>absurd h (by decide +kernel)⟩⟩⟩⟩⟩⟩⟩,fun h=>absurd h (by decide +kernel)⟩;refine mU fun k1 d1 u1 h1=>⟨d1,h1.seg,rfl,?_⟩;refine mT fun k2 d2 u2 h2=>⟨d2,h2.seg,rfl,?_⟩;refine qL (h1.up u2) h2 oz oz fun k3 d3 u3 h3=>⟨d3,h3.seg,rfl,fun k4 u4=>?_⟩;refine C k4 d3 ((((u0.trans u1).trans u2).trans u3).trans u4) (SurdV.cut (K:=2*1+1) (cast4 (h3.up u4) (by decide +kernel)) (by decide +kernel))
theorem aNf (C:∀k' ds,Up k k'→SurdV k' ds (eV 20) 1→R k' (.agg ds)) :
 Cl k 203 #[.int .i64 20] R:=by
 intro k0 u0;refine bB ⟨fun _=>⟨fun h=>absurd h (by decide +kernel),fun _=>⟨fun h=>absurd h (by decide +kernel),fun _=>⟨fun h=>absurd h (by decide +kernel),fun _=>⟨fun h=>absurd h (by decide +kernel),fun _=>⟨fun h=>absurd h (by decide +kernel),fun _=>⟨fun _=>?_,fun h=>absurd h (by decide +kernel)⟩⟩⟩⟩⟩⟩,fun h=>absurd h (by decide +kernel)⟩;exact yQ fun k1 d1 u1 h1=>⟨d1,h1.seg,rfl,fun k2 u2=>C k2 d1 ((u0.trans u1).trans u2) (h1.up u2)⟩
theorem aNg (C:∀k' ds,Up k k'→SurdV k' ds (eV 21) 1→R k' (.agg ds)) :
 Cl k 203 #[.int .i64 21] R:=by
 intro k0 u0;refine bB ⟨fun _=>⟨fun h=>absurd h (by decide +kernel),fun _=>⟨fun h=>absurd h (by decide +kernel),fun _=>⟨fun h=>absurd h (by decide +kernel),fun _=>⟨fun h=>absurd h (by decide +kernel),fun _=>⟨fun _=>?_,fun h=>absurd h (by decide +kernel)⟩⟩⟩⟩⟩,fun h=>absurd h (by decide +kernel)⟩;exact yR fun k1 d1 u1 h1=>⟨d1,h1.seg,rfl,fun k2 u2=>C k2 d1 ((u0.trans u1).trans u2) (h1.up u2)⟩
theorem aNh (C:∀k' ds,Up k k'→SurdV k' ds (eV 22) 1→R k' (.agg ds)) :
 Cl k 203 #[.int .i64 22] R:=by
 intro k0 u0;refine bB ⟨fun _=>⟨fun h=>absurd h (by decide +kernel),fun _=>⟨fun h=>absurd h (by decide +kernel),fun _=>⟨fun h=>absurd h (by decide +kernel),fun _=>⟨fun _=>?_,fun h=>absurd h (by decide +kernel)⟩⟩⟩⟩,fun h=>absurd h (by decide +kernel)⟩;exact yS fun k1 d1 u1 h1=>⟨d1,h1.seg,rfl,fun k2 u2=>C k2 d1 ((u0.trans u1).trans u2) (h1.up u2)⟩
theorem aNi (C:∀k' ds,Up k k'→SurdV k' ds (eV 23) 1→R k' (.agg ds)) :
 Cl k 203 #[.int .i64 23] R:=by
 intro k0 u0;refine bB ⟨fun _=>⟨fun h=>absurd h (by decide +kernel),fun _=>⟨fun h=>absurd h (by decide +kernel),fun _=>⟨fun _=>?_,fun h=>absurd h (by decide +kernel)⟩⟩⟩,fun h=>absurd h (by decide +kernel)⟩;refine mT fun k1 d1 u1 h1=>⟨d1,h1.seg,rfl,?_⟩;refine mU fun k2 d2 u2 h2=>⟨d2,h2.seg,rfl,?_⟩;refine jG (h1.up u2) h2 oz oz fun k3 d3 u3 h3=>⟨d3,h3.seg,rfl,fun k4 u4=>?_⟩;refine C k4 d3 ((((u0.trans u1).trans u2).trans u3).trans u4) (SurdV.cut (K:=2*1+1) (cast4 (h3.up u4) (by decide +kernel)) (by decide +kernel))
theorem aNj {n:Nat}(hn:n<24) (C:∀k' ds,Up k k'→SurdV k' ds (eV n) 1→R k' (.agg ds)) :
 Cl k 203 #[.int .i64 (n:Int)] R:=by
 match n,hn with
 | 0,_=>exact aEj C
 | 1,_=>exact wR C
 | 2,_=>exact wS C
 | 3,_=>exact wT C
 | 4,_=>exact wU C
 | 5,_=>exact wV C
 | 6,_=>exact aRg C
 | 7,_=>exact aRh C
 | 8,_=>exact aRi C
 | 9,_=>exact aRj C
 | 10,_=>exact aMv C
 | 11,_=>exact aMw C
 | 12,_=>exact aMx C
 | 13,_=>exact aMy C
 | 14,_=>exact aMz C
 | 15,_=>exact aNa C
 | 16,_=>exact aNb C
 | 17,_=>exact aNc C
 | 18,_=>exact aNd C
 | 19,_=>exact aNe C
 | 20,_=>exact aNf C
 | 21,_=>exact aNg C
 | 22,_=>exact aNh C
 | 23,_=>exact aNi C
 | n+24,h=>exact absurd h oq
theorem aKr {n:Int}:Int.tmod (wrap .i64 ((Int.tmod n 24)+24)) 24=(plc n:Int):=by
 have h:Int.tmod n 24=n % 24∨Int.tmod n 24=n % 24-24:=by
  rw [Int.tmod_eq_emod];split
  ·left;omega
  ·right;rfl
 have hw:wrap .i64 ((Int.tmod n 24)+24)=Int.tmod n 24+24:=by rw [jv];omega
 rw [hw,Int.tmod_eq_emod_of_nonneg oq];unfold plc;omega
theorem aDt {n:Int}(C:∀k',Up k k'→R k' (.int .i64 (plc n:Int))) :
 Cl k 202 #[.int .i64 n] R:=by
 intro k0 u0;refine aKp fun k1 u1=>?_;rw [aKr];exact C k1 (u0.trans u1)
theorem aKq {m:Nat}(h:m<24):plc (wrap .i64 ((m:Int)-6))=(m+18) % 24:=by
 have hw:wrap .i64 ((m:Int)-6)=(m:Int)-6:=by rw [jv];omega
 rw [hw];unfold plc;omega
theorem aEk {n:Int}(C:∀k' ds,Up k k'→WaveV k' ds (kE (plc n)) 1→R k' (.agg ds)) :
 Cl k 116 #[.int .i64 n] R:=by
 intro k0 u0;have hl:=aTx n;refine aMu (aDt fun k1 u1=>⟨_,rfl,?_⟩);refine aNj hl fun k2 d2 u2 h2=>⟨d2,h2.seg,rfl,?_⟩;have e:=aKq hl;refine aDt fun k3 u3=>⟨_,rfl,?_⟩;rw [e];refine aNj (qp _ oz) fun k4 d4 u4 h4=>⟨d4,h4.seg,rfl,fun k5 u5=>?_⟩;exact C k5 _ (((((u0.trans u1).trans u2).trans u3).trans u4).trans u5) ⟨d2,d4,rfl,((h2.up u3).up u4).up u5,h4.up u5⟩
end
def Bel (v:Q4) (b:Nat):Prop:=∃(y0 y1 y2 y3:Int) (m:Nat),0<m∧v=mkQ y0 y1 y2 y3 m∧y0.natAbs<b∧y1.natAbs<b∧y2.natAbs<b∧y3.natAbs<b∧m<b
section
variable {k k':World}{cs cs':Array Value}{R:World→Value→Prop}{v v':Q4}{x y:W4}{K L M b c:Nat}
theorem Bel.mono (h:Bel v b) (hb:b≤c):Bel v c:=by
 obtain⟨y0,y1,y2,y3,m,hm,e,h0,h1,h2,h3,h4⟩:=h;exact⟨y0,y1,y2,y3,m,hm,e,oq,oq,oq,oq,oq⟩
theorem IntV.lt {z:Int}(h:IntV k cs z K):z.natAbs<B64^K:=by
 obtain⟨s,A,n,c,e,h1,h2⟩:=h;refine oa (cV _) (qb aE ?_);rw [←h1.lim.len];exact h2
theorem SurdV.bel (h:SurdV k cs v K) (hK:1≤K):Bel v (B64^K):=by
 obtain⟨c0,c1,c2,c3,D,d,e,y0,y1,y2,y3,m,h1,hm,hg,hv,i0,i1,i2,i3,l,hd⟩:=h;refine⟨y0,y1,y2,y3,m,hm,hv,i0.lt,i1.lt,i2.lt,i3.lt,?_⟩
 by_cases e:m=1
 ·subst e;exact oa (show 1<B64^1 by decide) (qb aE hK)
 ·rw [oh e]at l;refine oa (cV _) (qb aE ?_);rw [←l.len];exact hd
theorem IntV.cutW {z:Int}(h:IntV k cs z K) (hz:z.natAbs<B64^L):IntV k cs z L:=by
 obtain⟨b,A,n,c,e,h1,h2⟩:=h;refine⟨b,A,n,c,e,h1,?_⟩;rw [h1.lim.len];exact bD hz
theorem gV {x y:Int}{m n:Nat}(hm:0<m) (hn:0<n) (h:mkRat x m=mkRat y n):x*n=y*m:=(Rat.mkRat_eq_iff oq oq).1 h
theorem SurdV.cutB (h:SurdV k cs v K) (hb:Bel v (B64^L)):SurdV k cs v L:=by
 obtain⟨c0,c1,c2,c3,D,d,e,y0,y1,y2,y3,m,h1,hm,hg,rfl,i0,i1,i2,i3,l,hd⟩:=h;obtain⟨z0,z1,z2,z3,n,hn,e,b0,b1,b2,b3,b4⟩:=hb;have e0:=gV hm hn (congrArg Q4.a e);have e1:=gV hm hn (congrArg Q4.b e);have e2:=gV hm hn (congrArg Q4.c e);have e3:=gV hm hn (congrArg Q4.d e);have dv:∀ {y z:Int},y*n=z*m→m ∣ n*y.natAbs:=by
  intro y z h;have:=congrArg Int.natAbs h;rw [xi,xi,za,za]at this;exact⟨z.natAbs,by rw [qw,this,qw]⟩
 have hmn:m ∣ n:=by
  have dm:m ∣ n*m:=Nat.dvd_mul_left m n;have:=xl (xl (xl (xl dm (dv e0)) (dv e1)) (dv e2)) (dv e3);rw [xy,xy,xy,xy]at this;unfold gcd5 at hg;rw [hg,zr]at this;exact this
 have le:∀ {y z:Int},y*n=z*m→y.natAbs≤z.natAbs:=by
  intro y z h;obtain⟨t,rfl⟩:=hmn;have:=congrArg Int.natAbs h;rw [xi,xi,za,za]at this;have ht:0<t:=Nat.pos_of_mul_pos_left hn |> fun _=>ve fun e=>by subst e;simp at hn
  have h3:y.natAbs*t*m=z.natAbs*m:=by rw [←this,qt,qw t]
  have h4:=Nat.eq_of_mul_eq_mul_right hm h3;have:=zb y.natAbs ht;omega
 have hmle:=Nat.le_of_dvd hn hmn;refine⟨c0,c1,c2,c3,D,d,_,y0,y1,y2,y3,m,h1,hm,hg,rfl,i0.cutW (jg (le e0) b0),i1.cutW (jg (le e1) b1),i2.cutW (jg (le e2) b2),i3.cutW (jg (le e3) b3),l,?_⟩;rw [l.len];refine bD ?_;split <;> omega
theorem bY {a b:Nat}{x y:Int}(hx:x.natAbs<a) (hy:y.natAbs<b):(x*y).natAbs<a*b:=by
 rw [xi];exact ww hx hy
theorem aPl (x0 x1 x2 x3 y0 y1 y2 y3:Int) {m n:Nat}(hm:0<m) (hn:0<n):mkQ (x0*n+y0*m) (x1*n+y1*m) (x2*n+y2*m) (x3*n+y3*m) (m*n)=(mkQ x0 x1 x2 x3 m).add (mkQ y0 y1 y2 y3 n):=by
 unfold mkQ Q4.add;simp only [rS _ _ hm hn]
theorem Bel.add (h:Bel v b) (h':Bel v' c):Bel (v.add v') (2*(b*c)):=by
 obtain⟨x0,x1,x2,x3,m,hm,rfl,a0,a1,a2,a3,a4⟩:=h;obtain⟨y0,y1,y2,y3,n,hn,rfl,b0,b1,b2,b3,b4⟩:=h';have p:∀ {x y:Int},x.natAbs<b→y.natAbs<c→(x*n+y*m).natAbs<2*(b*c):=by
  intro x y hx hy;have h1:=bY (x:=x) (y:=(n:Int)) hx (by rw [za];exact b4);have h2:=bY (x:=y) (y:=(m:Int)) hy (by rw [za];exact a4);rw [qw c b]at h2;have:=Int.natAbs_add_le (x*n) (y*m);omega
 have q:=ww a4 b4;exact⟨_,_,_,_,m*n,xk hm hn,(aPl _ _ _ _ _ _ _ _ hm hn).symm,p a0 b0,p a1 b1,p a2 b2,p a3 b3,oq⟩
theorem Bel.neg (h:Bel v b):Bel v.neg b:=by
 obtain⟨x0,x1,x2,x3,m,hm,rfl,a0,a1,a2,a3,a4⟩:=h;refine⟨-x0,-x1,-x2,-x3,m,hm,?_,oq,oq,oq,oq,a4⟩;unfold mkQ Q4.neg;simp only [rT]
theorem Bel.mul (h:Bel v b) (h':Bel v' c):Bel (v.mul v') (12*(b*c)):=by
 obtain⟨x0,x1,x2,x3,m,hm,rfl,a0,a1,a2,a3,a4⟩:=h;obtain⟨y0,y1,y2,y3,n,hn,rfl,b0,b1,b2,b3,b4⟩:=h';have q:=ww a4 b4;refine⟨_,_,_,_,m*n,xk hm hn,(aDr _ _ _ _ _ _ _ _ hm hn).symm,?_,?_,?_,?_,oq⟩
 ·have h1:=bY a0 b0;have h2:=bY a1 b1;have h3:=bY a2 b2;have h4:=bY a3 b3;omega
 ·have h1:=bY a0 b1;have h2:=bY a1 b0;have h3:=bY a2 b3;have h4:=bY a3 b2;omega
 ·have h1:=bY a0 b2;have h2:=bY a2 b0;have h3:=bY a1 b3;have h4:=bY a3 b1;omega
 ·have h1:=bY a0 b3;have h2:=bY a3 b0;have h3:=bY a1 b2;have h4:=bY a2 b1;omega
theorem pow3 (K L:Nat):12*(B64^K*B64^L)≤B64^(K+L+1):=by
 have e:B64^(K+L+1)=B64^K*B64^L*B64:=by rw [jc,qa]
 rw [e,qw 12];exact jy _ oz
theorem pow2 (K L:Nat):2*(B64^K*B64^L)≤B64^(K+L+1):=jq (om _ oz) (pow3 K L)
theorem uW (hx:SurdV k cs v K) (hy:SurdV k cs' v' L) (hK1:1≤K) (hL1:1≤L) (hK:K≤100000000) (hL:L≤100000000) (C:∀k' ds,Up k k'→SurdV k' ds (v.add v') (K+L+1)→R k' (.agg ds)) :
 Cl k 36 #[.agg cs,.agg cs'] R:=
 jG (hx.mono (wa K L)) (hy.mono (wu K L)) oq oq fun k' ds u h=>C k' ds u (h.cutB (((hx.bel hK1).add (hy.bel hL1)).mono (pow2 K L)))
theorem aRu (hx:SurdV k cs v K) (hy:SurdV k cs' v' L) (hK1:1≤K) (hL1:1≤L) (hK:K≤100000000) (hL:L≤100000000) (C:∀k' ds,Up k k'→SurdV k' ds (v.sub v') (K+L+1)→R k' (.agg ds)) :
 Cl k 102 #[.agg cs,.agg cs'] R:=
 qL (hx.mono (wa K L)) (hy.mono (wu K L)) oq oq fun k' ds u h=>C k' ds u (h.cutB (((hx.bel hK1).add (hy.bel hL1).neg).mono (pow2 K L)))
theorem iM (hx:SurdV k cs v K) (hy:SurdV k cs' v' L) (hK1:1≤K) (hL1:1≤L) (hK:K≤100000000) (hL:L≤100000000) (C:∀k' ds,Up k k'→SurdV k' ds (v.mul v') (K+L+1)→R k' (.agg ds)) :
 Cl k 37 #[.agg cs,.agg cs'] R:=
 lF (hx.mono (wa K L)) (hy.mono (wu K L)) oq oq fun k' ds u h=>C k' ds u (h.cutB (((hx.bel hK1).mul (hy.bel hL1)).mono (pow3 K L)))
theorem WaveV.cutB (h:WaveV k cs x K) (h0:Bel x.re (B64^L)) (h1:Bel x.im (B64^L)):WaveV k cs x L:=by
 obtain⟨c0,c1,e,a,b⟩:=h;exact⟨c0,c1,e,a.cutB h0,b.cutB h1⟩
theorem WaveV.bel (h:WaveV k cs x K) (hK:1≤K):Bel x.re (B64^K)∧Bel x.im (B64^K):=by
 obtain⟨c0,c1,e,a,b⟩:=h;exact⟨a.bel hK,b.bel hK⟩
theorem aRy (hx:WaveV k cs x K) (hy:WaveV k cs' y L) (hK1:1≤K) (hL1:1≤L) (hK:K≤30000000) (hL:L≤30000000) (C:∀k' ds,Up k k'→WaveV k' ds (x.add y) (K+L+1)→R k' (.agg ds)) :
 Cl k 187 #[.agg cs,.agg cs'] R:=
 aRx (hx.mono (wa K L)) (hy.mono (wu K L)) oq oq fun k' ds u h=>C k' ds u (h.cutB (((hx.bel hK1).1.add (hy.bel hL1).1).mono (pow2 K L)) (((hx.bel hK1).2.add (hy.bel hL1).2).mono (pow2 K L)))
theorem pow4 (K L:Nat):2*(12*(B64^K*B64^L)*(12*(B64^K*B64^L)))≤B64^(2*K+2*L+3):=
 jq (jy 2 (xr (pow3 K L) (pow3 K L))) (jq (pow2 _ _) (qb aE oq))
theorem aSa (hx:WaveV k cs x K) (hy:WaveV k cs' y L) (hK1:1≤K) (hL1:1≤L) (hK:K≤30000000) (hL:L≤30000000) (C:∀k' ds,Up k k'→WaveV k' ds (x.mul y) (2*K+2*L+3)→R k' (.agg ds)) :
 Cl k 115 #[.agg cs,.agg cs'] R:=
 aRz (hx.mono (wa K L)) (hy.mono (wu K L)) oq oq fun k' ds u h=>C k' ds u (h.cutB ((((hx.bel hK1).1.mul (hy.bel hL1).1).add ((hx.bel hK1).2.mul (hy.bel hL1).2).neg).mono (pow4 K L)) ((((hx.bel hK1).1.mul (hy.bel hL1).2).add ((hx.bel hK1).2.mul (hy.bel hL1).1)).mono (pow4 K L)))
end
open Num Plain
namespace Q23L
theorem add_comm (a b:Q23):a+b=b+a:=by (refine Q23.ext' (Q2.ext' ?_ ?_) (Q2.ext' ?_ ?_) <;> (simp only [Q23.add_re,Q23.add_im,Q2.add_re,Q2.add_im];grind))
theorem add_assoc (a b c:Q23):a+b+c=a+(b+c):=by (refine Q23.ext' (Q2.ext' ?_ ?_) (Q2.ext' ?_ ?_) <;> (simp only [Q23.add_re,Q23.add_im,Q2.add_re,Q2.add_im];grind))
theorem mul_comm (a b:Q23):a*b=b*a:=by (refine Q23.ext' (Q2.ext' ?_ ?_) (Q2.ext' ?_ ?_) <;> (simp only [Q23.mul_re,Q23.mul_im,Q2.add_re,Q2.add_im,Q2.mul_re,Q2.mul_im,Q2.three_re,Q2.three_im];grind))
theorem mul_assoc (a b c:Q23):a*b*c=a*(b*c):=by (refine Q23.ext' (Q2.ext' ?_ ?_) (Q2.ext' ?_ ?_) <;> (simp only [Q23.mul_re,Q23.mul_im,Q2.add_re,Q2.add_im,Q2.mul_re,Q2.mul_im,Q2.three_re,Q2.three_im];grind))
theorem add_mul (a b c:Q23):(a+b)*c=a*c+b*c:=by (refine Q23.ext' (Q2.ext' ?_ ?_) (Q2.ext' ?_ ?_) <;> (simp only [Q23.add_re,Q23.add_im,Q23.mul_re,Q23.mul_im,Q2.add_re,Q2.add_im,Q2.mul_re,Q2.mul_im,Q2.three_re,Q2.three_im];grind))
theorem mul_add (a b c:Q23):a*(b+c)=a*b+a*c:=by (refine Q23.ext' (Q2.ext' ?_ ?_) (Q2.ext' ?_ ?_) <;> (simp only [Q23.add_re,Q23.add_im,Q23.mul_re,Q23.mul_im,Q2.add_re,Q2.add_im,Q2.mul_re,Q2.mul_im,Q2.three_re,Q2.three_im];grind))
theorem aCa (a b:Q23):a-b=a+-b:=by (refine Q23.ext' (Q2.ext' ?_ ?_) (Q2.ext' ?_ ?_) <;> (simp only [Q23.add_re,Q23.add_im,Q23.neg_re,Q23.neg_im,Q23.sub_re,Q23.sub_im,Q2.add_re,Q2.add_im,Q2.neg_re,Q2.neg_im,Q2.sub_re,Q2.sub_im];grind))
theorem vQ (a b:Q23):-(a+b)=-a+-b:=by (refine Q23.ext' (Q2.ext' ?_ ?_) (Q2.ext' ?_ ?_) <;> (simp only [Q23.add_re,Q23.add_im,Q23.neg_re,Q23.neg_im,Q2.add_re,Q2.add_im,Q2.neg_re,Q2.neg_im];grind))
theorem aPq (a:Q23):- -a=a:=by (refine Q23.ext' (Q2.ext' ?_ ?_) (Q2.ext' ?_ ?_) <;> (simp only [Q23.neg_re,Q23.neg_im,Q2.neg_re,Q2.neg_im];grind))
theorem neg_mul (a b:Q23):-a*b=-(a*b):=by (refine Q23.ext' (Q2.ext' ?_ ?_) (Q2.ext' ?_ ?_) <;> (simp only [Q23.mul_re,Q23.mul_im,Q23.neg_re,Q23.neg_im,Q2.add_re,Q2.add_im,Q2.mul_re,Q2.mul_im,Q2.neg_re,Q2.neg_im,Q2.three_re,Q2.three_im];grind))
theorem mul_neg (a b:Q23):a*-b=-(a*b):=by (refine Q23.ext' (Q2.ext' ?_ ?_) (Q2.ext' ?_ ?_) <;> (simp only [Q23.mul_re,Q23.mul_im,Q23.neg_re,Q23.neg_im,Q2.add_re,Q2.add_im,Q2.mul_re,Q2.mul_im,Q2.neg_re,Q2.neg_im,Q2.three_re,Q2.three_im];grind))
theorem add_left (a b c:Q23):a+(b+c)=b+(a+c):=by (refine Q23.ext' (Q2.ext' ?_ ?_) (Q2.ext' ?_ ?_) <;> (simp only [Q23.add_re,Q23.add_im,Q2.add_re,Q2.add_im];grind))
end Q23L
open Q23L
theorem Q4.add_comm (x y:Q4):x.add y=y.add x:=eS (by rw [fU,fU,Q23L.add_comm])
theorem Q4.mul_comm (x y:Q4):x.mul y=y.mul x:=eS (by rw [fE,fE,Q23L.mul_comm])
theorem Q4.add_assoc (x y z:Q4):(x.add y).add z=x.add (y.add z):=eS (by simp only [fU,Q23L.add_assoc])
theorem Q4.mul_assoc (x y z:Q4):(x.mul y).mul z=x.mul (y.mul z):=eS (by simp only [fE,Q23L.mul_assoc])
theorem Q4.add_mul (x y z:Q4):(x.add y).mul z=(x.mul z).add (y.mul z):=eS (by simp only [fE,fU,Q23L.add_mul])
theorem W4.add_comm (x y:W4):x.add y=y.add x:=W4.ext' (Q4.add_comm _ _) (Q4.add_comm _ _)
theorem W4.add_assoc (x y z:W4):(x.add y).add z=x.add (y.add z):=W4.ext' (Q4.add_assoc _ _ _) (Q4.add_assoc _ _ _)
theorem W4.mul_comm (x y:W4):x.mul y=y.mul x:=W4.ext' (by unfold W4.mul;rw [Q4.mul_comm x.re,Q4.mul_comm x.im]) (by show (x.re.mul y.im).add (x.im.mul y.re)=(y.re.mul x.im).add (y.im.mul x.re);rw [Q4.add_comm,Q4.mul_comm x.im,Q4.mul_comm x.re])
theorem W4.mul_assoc (x y z:W4):(x.mul y).mul z=x.mul (y.mul z):=by
 refine W4.ext' (eS ?_) (eS ?_)
 ·simp only [W4.mul,qJ,fE,fU,Q23L.aCa,Q23L.add_mul,Q23L.mul_add,Q23L.neg_mul,Q23L.mul_neg,Q23L.vQ,Q23L.mul_assoc,Q23L.add_assoc];simp only [Q23L.add_assoc,Q23L.add_comm]
 ·simp only [W4.mul,qJ,fE,fU,Q23L.aCa,Q23L.add_mul,Q23L.mul_add,Q23L.neg_mul,Q23L.mul_neg,Q23L.mul_assoc,Q23L.add_assoc];simp only [Q23L.add_assoc,Q23L.add_comm,Q23L.add_left]
theorem W4.add_mul (x y z:W4):(x.add y).mul z=(x.mul z).add (y.mul z):=by
 refine W4.ext' (eS ?_) (eS ?_)
 ·simp only [W4.mul,W4.add,qJ,fE,fU,Q23L.aCa,Q23L.add_mul,Q23L.vQ,Q23L.add_assoc];simp only [Q23L.add_left]
 ·simp only [W4.mul,W4.add,fE,fU,Q23L.add_mul,Q23L.add_assoc];simp only [Q23L.add_assoc,Q23L.add_comm,Q23L.add_left]
theorem W4.mul_conj (x y:W4):(x.mul y).conj=x.conj.mul y.conj:=by
 refine W4.ext' (eS ?_) (eS ?_)
 ·simp only [W4.mul,W4.conj,qJ,fE,aEf,Q23L.neg_mul,Q23L.mul_neg,Q23L.aPq]
 ·simp only [W4.mul,W4.conj,fU,fE,aEf,Q23L.neg_mul,Q23L.mul_neg,Q23L.vQ]
open Num Plain Q23L
noncomputable def sgd (a b:Q4):Int:=C.sg (a.sub b).toQ
def fAt (x:W4) (k:Nat):Q4:=(x.mul (kE ((24-k) % 24))).re
noncomputable def hi (x:W4):Nat→Nat×Q4
 | 0=>(0,x.re)
 | j+1=>if 0<sgd (fAt x (j+1)) (hi x j).2 then (j+1,fAt x (j+1)) else hi x j
noncomputable def cnt (x:W4) (s:Q4) (k:Nat):Nat:=((List.range k).filter fun i=>decide (sgd (fAt x i) s=0)).length
def sg2F (a b:Rat):Int:=aMr a.num.sign b.num.sign (a*a-2*(b*b)).num.sign
def sgF (v:Q4):Int:=aMr (sg2F v.a v.b) (sg2F v.c v.d) (sg2F (v.a*v.a+2*(v.b*v.b)-3*(v.c*v.c+2*(v.d*v.d))) (v.a*v.b+v.b*v.a-3*(v.c*v.d+v.d*v.c)))
theorem Q4.zero_add (x:Q4):Q4.zero.add x=x:=by
 refine Q4.ext' ?_ ?_ ?_ ?_ <;> (simp only [Q4.add,Q4.zero];grind)
theorem Q4.add_zero (x:Q4):x.add Q4.zero=x:=by rw [Q4.add_comm,Q4.zero_add]
theorem Q4.zero_mul (x:Q4):Q4.zero.mul x=Q4.zero:=by
 refine Q4.ext' ?_ ?_ ?_ ?_ <;> (simp only [Q4.mul,Q4.zero];grind)
theorem Q4.mul_zero (x:Q4):x.mul Q4.zero=Q4.zero:=by rw [Q4.mul_comm,Q4.zero_mul]
theorem Q4.one_mul (x:Q4):(Q4.real 1).mul x=x:=by
 refine Q4.ext' ?_ ?_ ?_ ?_ <;> (simp only [Q4.mul,Q4.real];grind)
theorem Q4.mul_add (x y z:Q4):x.mul (y.add z)=(x.mul y).add (x.mul z):=by rw [Q4.mul_comm,Q4.add_mul,Q4.mul_comm y,Q4.mul_comm z]
theorem Q4.real_mul (p q:Rat):(Q4.real p).mul (Q4.real q)=Q4.real (p*q):=by
 refine Q4.ext' ?_ ?_ ?_ ?_ <;> (simp only [Q4.mul,Q4.real];grind)
theorem Q4.neg_zero:Q4.zero.neg=Q4.zero:=by decide +kernel
theorem Q4.sub_zero (x:Q4):x.sub Q4.zero=x:=by
 refine Q4.ext' ?_ ?_ ?_ ?_ <;> (simp only [Q4.sub,Q4.add,Q4.neg,Q4.zero];grind)
theorem W4.zero_add (x:W4):W4.zero.add x=x:=W4.ext' (Q4.zero_add _) (Q4.zero_add _)
theorem W4.add_zero (x:W4):x.add W4.zero=x:=W4.ext' (Q4.add_zero _) (Q4.add_zero _)
theorem W4.zero_mul (x:W4):W4.zero.mul x=W4.zero:=by
 refine W4.ext' ?_ ?_ <;> simp only [W4.mul,W4.zero,Q4.zero_mul,Q4.sub_zero,Q4.add_zero]
theorem W4.mul_zero (x:W4):x.mul W4.zero=W4.zero:=by rw [W4.mul_comm,W4.zero_mul]
theorem W4.mul_add (x y z:W4):x.mul (y.add z)=(x.mul y).add (x.mul z):=by rw [W4.mul_comm,W4.add_mul,W4.mul_comm y,W4.mul_comm z]
theorem W4.add_left (x y z:W4):x.add (y.add z)=y.add (x.add z):=by rw [←W4.add_assoc,W4.add_comm x,W4.add_assoc]
theorem W4.mul_left (x y z:W4):x.mul (y.mul z)=y.mul (x.mul z):=by rw [←W4.mul_assoc,W4.mul_comm x,W4.mul_assoc]
def ofR (q:Q4):W4:=⟨q,Q4.zero⟩
theorem iU (q:Q4) (w:W4):(ofR q).mul w=⟨q.mul w.re,q.mul w.im⟩:=by
 refine W4.ext' ?_ ?_ <;> simp only [W4.mul,ofR,Q4.zero_mul,Q4.sub_zero,Q4.add_zero]
theorem aPu (p q:Q4):ofR (p.add q)=(ofR p).add (ofR q):=W4.ext' rfl (Q4.add_zero _).symm
theorem aKb (p q:Q4):ofR (p.mul q)=(ofR p).mul (ofR q):=by
 rw [iU];exact W4.ext' rfl (Q4.mul_zero _).symm
theorem aKc:ofR Q4.zero=W4.zero:=rfl
def bK (f:Nat→W4):Nat→W4
 | 0=>W4.zero
 | n+1=>(bK f n).add (f n)
def cK (f:Nat→Q4):Nat→Q4
 | 0=>Q4.zero
 | n+1=>(cK f n).add (f n)
theorem cI {f g:Nat→W4}:∀ {n:Nat},(∀k,k<n→f k=g k)→bK f n=bK g n
 | 0,_=>rfl
 | n+1,h=>by
  show (bK f n).add (f n)=(bK g n).add (g n);rw [cI fun k hk=>h k oq,h n oq]
theorem bQ {f g:Nat→Q4}:∀ {n:Nat},(∀k,k<n→f k=g k)→cK f n=cK g n
 | 0,_=>rfl
 | n+1,h=>by
  show (cK f n).add (f n)=(cK g n).add (g n);rw [bQ fun k hk=>h k oq,h n oq]
theorem zI:∀n,bK (fun _=>W4.zero) n=W4.zero
 | 0=>rfl
 | n+1=>by show (bK _ n).add _=_;rw [zI n,W4.add_zero]
theorem sL:∀n,cK (fun _=>Q4.zero) n=Q4.zero
 | 0=>rfl
 | n+1=>by show (cK _ n).add _=_;rw [sL n,Q4.add_zero]
theorem zH (f g:Nat→W4):∀n,bK (fun k=>(f k).add (g k)) n=(bK f n).add (bK g n)
 | 0=>(W4.add_zero _).symm
 | n+1=>by
  show (bK _ n).add ((f n).add (g n))=((bK f n).add (f n)).add ((bK g n).add (g n));rw [zH f g n,W4.add_assoc,W4.add_assoc,W4.add_left (bK g n)]
theorem nG (c:W4) (f:Nat→W4):∀n,bK (fun k=>c.mul (f k)) n=c.mul (bK f n)
 | 0=>(W4.mul_zero _).symm
 | n+1=>by
  show (bK _ n).add (c.mul (f n))=c.mul ((bK f n).add (f n));rw [nG c f n,W4.mul_add]
theorem pL {f:Nat→W4}{m:Nat}:∀ {n:Nat},m<n→(∀j,j<n→j≠m→f j=W4.zero)→bK f n=f m
 | 0,h,_=>absurd h (yq _)
 | n+1,h,hz=>by
  show (bK f n).add (f n)=f m
  by_cases e:m=n
  ·subst e;rw [cI (g:=fun _=>W4.zero) fun k hk=>hz k oq oq,zI,W4.zero_add]
  ·rw [pL (n:=n) oq fun j hj=>hz j oq,hz n oq oq,W4.add_zero]
theorem pK {f:Nat→Q4}{m:Nat}:∀ {n:Nat},m<n→(∀j,j<n→j≠m→f j=Q4.zero)→cK f n=f m
 | 0,h,_=>absurd h (yq _)
 | n+1,h,hz=>by
  show (cK f n).add (f n)=f m
  by_cases e:m=n
  ·subst e;rw [bQ (g:=fun _=>Q4.zero) fun k hk=>hz k oq oq,sL,Q4.zero_add]
  ·rw [pK (n:=n) oq fun j hj=>hz j oq,hz n oq oq,Q4.add_zero]
theorem wK (f:Nat→W4):∀n,(bK f n).re=cK (fun k=>(f k).re) n
 | 0=>rfl
 | n+1=>by
  show ((bK f n).re).add (f n).re=(cK _ n).add (f n).re;rw [wK f n]
theorem oI (f:Nat→W4):∀n,(bK f n).conj=bK (fun k=>(f k).conj) n
 | 0=>by show W4.zero.conj=W4.zero;decide +kernel
 | n+1=>by
  show ((bK f n).add (f n)).conj=(bK _ n).add (f n).conj;rw [←oI f n];refine W4.ext' rfl ?_;refine Q4.ext' ?_ ?_ ?_ ?_ <;> (simp only [W4.add,W4.conj,Q4.add,Q4.neg];grind)
theorem oJ (f:Nat→W4):∀n,bK f (n+1)=(f 0).add (bK (fun k=>f (k+1)) n)
 | 0=>by show W4.zero.add (f 0)=(f 0).add W4.zero;rw [W4.add_zero,W4.zero_add]
 | n+1=>by
  show (bK f (n+1)).add (f (n+1))=(f 0).add ((bK _ n).add (f (n+1)));rw [oJ f n,W4.add_assoc]
theorem aHl {f:Nat→W4}{n:Nat}(h:f (n+1)=f 0):bK (fun k=>f (k+1)) (n+1)=bK f (n+1):=by
 show (bK (fun k=>f (k+1)) n).add (f (n+1))=_;rw [oJ f n,h,W4.add_comm]
theorem zK {f:Nat→W4}(h:∀k,f (k+24)=f k):∀c,bK (fun k=>f (k+c)) 24=bK f 24
 | 0=>rfl
 | c+1=>by
  have:=aHl (f:=fun k=>f (k+c)) (n:=23) (by show f (24+c)=f (0+c);rw [jn 24,h,qe]);rw [←zK h c,←this];exact cI fun k _=>by show f (k+(c+1))=f (k+1+c);congr 1;omega
theorem zJ (f:Nat→W4):∀n,bK (fun k=>f (n-1-k)) n=bK f n
 | 0=>rfl
 | n+1=>by
  rw [oJ];show (f n).add _=(bK f n).add (f n);rw [←zJ f n,W4.add_comm]
  congr 1
  exact cI fun k hk=>by show f (n-(k+1))=f (n-1-k);congr 1;omega
theorem aLv (f:Nat→W4):bK (fun k=>f ((24-k) % 24)) 24=bK f 24:=by
 have h1:=zK (f:=fun k=>f ((24-k % 24) % 24)) (fun k=>by show f _=f _;rw [Nat.add_mod_right]) 1;have h2:bK (fun k=>f ((24-k) % 24)) 24=bK (fun k=>f ((24-k % 24) % 24)) 24:=cI fun k hk=>by rw [qh hk]
 have h3:bK (fun k=>f ((24-(k+1) % 24) % 24)) 24=bK (fun k=>f (24-1-k)) 24:=cI fun k hk=>congrArg f oq;rw [h2,←h1,h3,zJ]
def trn (k:Nat):W4:=kE (k % 24)
theorem aQt (a b:Nat):(trn a).mul (trn b)=trn (a+b):=by
 unfold trn;rw [aMh _ (qp _ oz) _ (qp _ oz)];congr 1;omega
theorem zM (a:Nat):(trn a).conj=trn (23*a):=by
 unfold trn;rw [aHq _ (qp _ oz)];congr 1;omega
theorem wL {a b:Nat}(h:a % 24=b % 24):trn a=trn b:=by unfold trn;rw [h]
def cJ (f:Nat→Q4) (n:Nat):W4:=(ofR (Q4.real (1/24))).mul (bK (fun k=>(ofR (f k)).mul (trn (23*n*k))) 24)
def wt (n:Nat):Q4:=Q4.real (if n=0∨n=12 then 1 else 2)
def aLx (g:Nat→W4) (k:Nat):Q4:=cK (fun n=>(wt n).mul ((g n).mul (trn (n*k))).re) 13
def vE (g:Nat→W4):Q4:=cK (fun n=>(wt n).mul (g n).norm) 13
theorem aBc {f g:Nat→Q4}(h:∀k,k<24→f k=g k) (n:Nat):cJ f n=cJ g n:=by
 unfold cJ;rw [cI fun k hk=>by rw [h k hk]]
theorem aAl {f g:Nat→W4}(h:∀k,k<13→f k=g k):vE f=vE g:=bQ fun k hk=>by rw [h k hk]
def aWo (n:Nat) (w:W4) (m:Nat):W4:=if m=n then w else W4.zero
def aXc (f:Nat→Q4) (n k:Nat):Q4:=aLx (aWo n (cJ f n)) k
theorem mD (q:Q4):(ofR q).conj=ofR q:=W4.ext' rfl Q4.neg_zero
theorem vU (f:Nat→Q4) (n:Nat):cJ (fun i=>f ((24-i) % 24)) n=(cJ f n).conj:=by
 show (ofR (Q4.real (1/24))).mul (bK (fun i=>(ofR (f ((24-i) % 24))).mul (trn (23*n*i))) 24)=((ofR (Q4.real (1/24))).mul (bK (fun i=>(ofR (f i)).mul (trn (23*n*i))) 24)).conj;rw [W4.mul_conj,mD,oI];refine congrArg (W4.mul (ofR (Q4.real (1/24)))) ?_;refine Eq.trans ?_ (aLv fun k=>((ofR (f k)).mul (trn (23*n*k))).conj);refine cI fun k hk=>?_;show _=((ofR (f ((24-k) % 24))).mul (trn (23*n*((24-k) % 24)))).conj;rw [W4.mul_conj,mD,zM,wL (a:=23*n*k) (b:=23*(23*n*((24-k) % 24)))];have e2:23*n*((24-k) % 24)=23*(n*((24-k) % 24)):=qt _ _ _;have e3:23*n*k=23*(n*k):=qt _ _ _;rw [e2,e3]
 by_cases h:k=0
 ·subst h;rfl
 ·have e:n*(24-k)+n*k=n*24:=by rw [←zw];congr 1;omega
  rw [qh (show 24-k<24 by omega)];omega
theorem aBd (x:Q4) (f g:Nat→Q4) (n:Nat):cJ (fun k=>(x.mul (f k)).add (g k)) n=((ofR x).mul (cJ f n)).add (cJ g n):=by
 show (ofR (Q4.real (1/24))).mul (bK (fun k=>(ofR ((x.mul (f k)).add (g k))).mul (trn (23*n*k))) 24)=((ofR x).mul ((ofR (Q4.real (1/24))).mul (bK (fun k=>(ofR (f k)).mul (trn (23*n*k))) 24))).add ((ofR (Q4.real (1/24))).mul (bK (fun k=>(ofR (g k)).mul (trn (23*n*k))) 24));rw [W4.mul_left,←nG (ofR x),←W4.mul_add,←zH];refine congrArg (W4.mul (ofR (Q4.real (1/24)))) ?_;refine cI fun k _=>?_;rw [aPu,aKb,W4.add_mul,W4.mul_assoc]
theorem aEq (w:W4):w.conj.norm=w.norm:=by
 unfold W4.norm W4.conj;refine congrArg (Q4.add (w.re.mul w.re)) ?_;refine Q4.ext' ?_ ?_ ?_ ?_ <;> (simp only [Q4.mul,Q4.neg];grind)
noncomputable def aTo (f:Nat→Q4):Nat→Q4
 | 0=>f 0
 | j+1=>if sgd (f (j+1)) (aTo f j)<0 then f (j+1) else aTo f j
noncomputable def aJa (f:Nat→Q4):Nat→Q4
 | 0=>f 0
 | j+1=>if 0<sgd (f (j+1)) (aJa f j) then f (j+1) else aJa f j
noncomputable def aXd (f:Nat→Q4):Q4:=(aJa f 23).sub (aTo f 23)
section
variable {k k':World}{R:World→Value→Prop}{K L:Nat}{cs cs' ds:Array Value}{f g F:Nat→Q4}{p q:Nat→W4}{x y:W4}{v v':Q4}
def RoundV (k:World) (cs:Array Value) (f:Nat→Q4) (K:Nat):Prop:=ArrV 24 9 (fun a v=>SurdV k a v K) cs f
def SpecV (k:World) (cs:Array Value) (p:Nat→W4) (K:Nat):Prop:=ArrV 13 18 (fun a w=>WaveV k a w K) cs p
theorem RoundV.up (h:RoundV k cs f K) (u:Up k k'):RoundV k' cs f K:=ArrV.mono h fun _ _ h=>h.up u
theorem RoundV.mono (h:RoundV k cs f K) (hL:K≤L):RoundV k cs f L:=ArrV.mono h fun _ _ h=>h.mono hL
theorem RoundV.seg (h:RoundV k cs f K):Seg 216 cs:=ArrV.seg h fun _ _ h=>h.seg
theorem SpecV.up (h:SpecV k cs p K) (u:Up k k'):SpecV k' cs p K:=ArrV.mono h fun _ _ h=>h.up u
theorem SpecV.seg (h:SpecV k cs p K):Seg 234 cs:=ArrV.seg h fun _ _ h=>h.seg
theorem RoundV.zero:RoundV k (pX 24 zS) (fun _=>Q4.zero) K:=ArrV.zero (P:=fun a v=>SurdV k a v K) (z:=zS) rfl Q4.zero (SurdV.nil (jw _))
theorem SpecV.zero:SpecV k (pX 13 (zS++zS)) (fun _=>W4.zero) K:=ArrV.zero (P:=fun a w=>WaveV k a w K) (z:=zS++zS) rfl W4.zero WaveV.nil
theorem aKh {n:Int}(C:∀k',Up k k'→R k' (.int .i64 (plc n:Int))) :
 Cl k 185 #[.int .i64 n] R:=
 fun _ u0=>aGc fun k1 u1=>by rw [aKr];exact C k1 (u0.trans u1)
theorem yM (hx:SurdV k cs v K) (hy:WaveV k cs' y L) (hK1:1≤K) (hL1:1≤L) (hK:K≤100000000) (hL:L≤100000000) (C:∀k' ds,Up k k'→WaveV k' ds ((ofR v).mul y) (K+L+1)→R k' (.agg ds)) :
 Cl k 188 #[.agg cs,.agg cs'] R:=by
 intro k0 u0;rw [iU]at C;refine aGf hx.seg hy.seg (aHy (hy.up u0) fun k1 d1 u1 h1=>⟨d1,h1.seg,rfl,?_⟩);refine iM ((hx.up u0).up u1) h1 hK1 hL1 hK hL fun k2 d2 u2 h2=>⟨d2,h2.seg,rfl,?_⟩;refine aUz (((hy.up u0).up u1).up u2) fun k3 d3 u3 h3=>⟨d3,h3.seg,rfl,?_⟩;refine iM ((((hx.up u0).up u1).up u2).up u3) h3 hK1 hL1 hK hL fun k4 d4 u4 h4=>⟨d4,h4.seg,rfl,?_⟩;refine aTw ((h2.up u3).up u4) h4 fun k5 d5 u5 h5=>⟨d5,h5.seg,rfl,fun k6 u6=>?_⟩;exact C k6 d5 ((((((u0.trans u1).trans u2).trans u3).trans u4).trans u5).trans u6) (h5.up u6)
theorem vT {n:Int}(h0:-9223372036854775808≤n) (h1:n<9223372036854775808) (C:∀k' ds,Up k k'→SurdV k' ds (Q4.real ((1:Int) / (n:Rat))) 1→R k' (.agg ds)) :
 Cl k 101 #[.int .i64 n] R:=by
 intro k0 u0;refine aKg (aHu oz oz h0 h1 fun k1 d1 u1 q1=>⟨d1,q1.seg,_,rfl,?_⟩);refine qK (SurdV.nil (K:=1) (jw _)) q1 fun k2 d2 u2 h2=>⟨d2,h2.seg,rfl,fun k3 u3=>?_⟩;exact C k3 d2 (((u0.trans u1).trans u2).trans u3) (h2.up u3)
theorem mS {n:Int}(h0:-9223372036854775808≤n) (h1:n<9223372036854775808) (C:∀k' ds,Up k k'→SurdV k' ds (Q4.real (n:Rat)) 1→R k' (.agg ds)) :
 Cl k 99 #[.int .i64 n] R:=by
 intro k0 u0;refine aGh (nO h0 h1 fun k1 d1 u1 q1=>⟨d1,q1.seg,rfl,?_⟩);refine qK (SurdV.nil (K:=1) (jw _)) q1 fun k2 d2 u2 h2=>⟨d2,h2.seg,rfl,fun k3 u3=>?_⟩;exact C k3 d2 (((u0.trans u1).trans u2).trans u3) (h2.up u3)
theorem aQa {n j:Nat}(hn:n<13) (hj:j<24):kE (plc (wrap .i64 (wrap .i64 (0-(n:Int))*(j:Int))))=trn (23*n*j):=by
 have hp:n*j≤12*23:=xr oq oq;have e1:wrap .i64 (0-(n:Int))=- (n:Int):=by rw [jv];omega
 have e2:-(n:Int)*(j:Int)=-((n*j:Nat):Int):=by rw [Int.neg_mul,xv]
 rw [e1,e2,qt];generalize n*j=t at hp;have e3:wrap .i64 (-(t:Int))=-(t:Int):=by rw [jv];omega
 rw [e3];unfold trn plc
 congr 1
 omega
theorem aKf {n:Nat}(hx:RoundV k cs f K) (hn:n<13) (hK1:1≤K) (hK:K≤100000) (C:∀k' ds,Up k k'→WaveV k' ds (cJ f n) (24*K+75)→R k' (.agg ds)) :
 Cl k 103 #[.agg cs,.int .i64 (n:Int)] R:=by
 intro k0 u0;replace hx:=hx.up u0;replace C:=fun k' ds u=>C k' ds (u0.trans u);refine aGb hx.seg ⟨fun m k' vs=>∃j c,j+m=24∧vs=[.int .i64 (j:Int),.agg c]∧WaveV k' c (bK (fun i=>(ofR (f i)).mul (trn (23*n*i))) j) (1+j*(K+3)),⟨24,fun k' u=>⟨0,_,rfl,rfl,WaveV.nil⟩⟩,?_⟩;rintro m k1 vs u1 ⟨j,c,hj,rfl,hc⟩;refine⟨_,c,hc.seg,rfl,fun hlt=>?_,fun hge=>?_⟩
 ·have hlt:=lt24 hlt;refine⟨ix24 hlt,aEk fun k2 d2 u2 hT=>⟨d2,hT.seg,rfl,?_⟩⟩;rw [aQa hn hlt]at hT;have hje:=om (K+3) (Nat.le_of_lt hlt);have hjs:(j+1)*(K+3)=j*(K+3)+(K+3):=zq _ _;refine yM (ArrV.get ((hx.up u1).up u2) hlt) hT hK1 oz oq oz fun k3 d3 u3 h3=>⟨d3,h3.seg,rfl,?_⟩;refine aRy ((hc.up u2).up u3) h3 oq oq oq oq fun k4 d4 u4 h4=>⟨d4,h4.seg,rfl,fun k5 u5=>?_⟩;exact⟨m-1,oq,j+1,d4,oq,by rw [wup oq],(h4.up u5).mono oq⟩
 ·have hge:=ge24 hge;have e:j=24:=oq
  subst e;refine vT (n:=24) oz oz fun k2 d2 u2 h2=>⟨d2,h2.seg,rfl,?_⟩;refine yM h2 (hc.up u2) oz oq oz oq fun k3 d3 u3 h3=>⟨d3,h3.seg,rfl,fun k4 u4=>?_⟩;exact C k4 d3 (((u1.trans u2).trans u3).trans u4) ((h3.up u4).mono oq)
theorem nP (hx:RoundV k cs f K) (hK1:1≤K) (hK:K≤100000) (C:∀k' ds,Up k k'→SpecV k' ds (cJ f) (24*K+75)→R k' (.agg ds)) :
 Cl k 33 #[.agg cs] R:=by
 intro k0 u0;replace hx:=hx.up u0;replace C:=fun k' ds u=>C k' ds (u0.trans u);refine yI hx.seg ⟨fun m k' vs=>∃j c,j+m=13∧vs=[.int .i64 (j:Int),.agg c]∧SpecV k' c (cut j (cJ f) fun _=>W4.zero) (24*K+75),⟨13,fun k' u=>⟨0,_,rfl,rfl,ArrV.start SpecV.zero⟩⟩,?_⟩;rintro m k1 vs u1 ⟨j,c,hj,rfl,hc⟩;refine⟨_,c,hc.seg,rfl,fun hlt=>?_,fun hge=>?_⟩
 ·have hlt:=lt13 hlt;refine aKf (hx.up u1) hlt hK1 hK fun k2 d2 u2 h2=>⟨d2,h2.seg,rfl,ix13 hlt,fun k3 u3=>?_⟩;exact⟨m-1,oq,j+1,_,oq,by rw [wup oq],ArrV.step ((hc.up u2).up u3) hlt h2.seg.1 (h2.up u3)⟩
 ·exact fun k2 u2=>C k2 c (u1.trans u2) (ArrV.done (hc.up u2) (ge13 hge))
theorem zQ {n:Nat}(_hn:n<13) (C:∀k' ds,Up k k'→SurdV k' ds (wt n) 1→R k' (.agg ds)) :
 Cl k 113 #[.int .i64 (n:Int)] R:=by
 intro k0 u0;unfold wt at C;refine aBg ⟨fun h=>?_,fun h=>⟨fun h'=>?_,fun h'=>?_⟩⟩
 ·have h:n=0:=by have:=eq_of_beq h;omega
  rw [og (Or.inl h)]at C;exact mS oz oz fun k1 d1 u1 h1=>⟨d1,h1.seg,rfl,fun k2 u2=>C k2 d1 ((u0.trans u1).trans u2) (h1.up u2)⟩
 ·have h':n=12:=by have:=eq_of_beq h';omega
  rw [og (Or.inr h')]at C;exact mS oz oz fun k1 d1 u1 h1=>⟨d1,h1.seg,rfl,fun k2 u2=>C k2 d1 ((u0.trans u1).trans u2) (h1.up u2)⟩
 ·have h0:¬ ((n:Int)=0):=fun e=>by rw [e]at h;exact absurd h oz
  have h2:¬ ((n:Int)=12):=fun e=>by rw [e]at h';exact absurd h' oz
  rw [oh oq]at C;exact mS oz oz fun k1 d1 u1 h1=>⟨d1,h1.seg,rfl,fun k2 u2=>C k2 d1 ((u0.trans u1).trans u2) (h1.up u2)⟩
theorem rB (hx:SpecV k cs p K) (hK1:1≤K) (hK:K≤1000000) (C:∀k' ds,Up k k'→SurdV k' ds (vE p) (52*K+157)→R k' (.agg ds)) :
 Cl k 42 #[.agg cs] R:=by
 intro k0 u0;replace hx:=hx.up u0;replace C:=fun k' ds u=>C k' ds (u0.trans u);refine aAy hx.seg ⟨fun m k' vs=>∃j c,j+m=13∧vs=[.int .i64 (j:Int),.agg c]∧SurdV k' c (cK (fun n=>(wt n).mul (p n).norm) j) (1+j*(4*K+12)),⟨13,fun k' u=>⟨0,_,rfl,rfl,SurdV.nil (jw _)⟩⟩,?_⟩;rintro m k1 vs u1 ⟨j,c,hj,rfl,hc⟩;refine⟨_,c,hc.seg,rfl,fun hlt=>?_,fun hge=>?_⟩
 ·have hlt:=lt13 hlt;refine⟨ix13 hlt,zQ hlt fun k2 d2 u2 h2=>⟨d2,h2.seg,rfl,?_⟩⟩;have hje:=om (4*K+12) (Nat.le_of_lt hlt);have hjs:(j+1)*(4*K+12)=j*(4*K+12)+(4*K+12):=zq _ _;refine aNu (ArrV.get ((hx.up u1).up u2) hlt) hK1 oq fun k3 d3 u3 h3=>⟨d3,h3.seg,rfl,?_⟩;refine iM (h2.up u3) h3 oz oq oz oq fun k4 d4 u4 h4=>⟨d4,h4.seg,rfl,?_⟩;refine uW (((hc.up u2).up u3).up u4) h4 oq oq oq oq fun k5 d5 u5 h5=>⟨d5,h5.seg,rfl,fun k6 u6=>?_⟩;exact⟨m-1,oq,j+1,d5,oq,by rw [wup oq],(h5.up u6).mono oq⟩
 ·have e:j=13:=by have:=ge13 hge;omega
  subst e;exact fun k2 u2=>C k2 c (u1.trans u2) ((hc.up u2).mono oq)
theorem aPz {j:Nat}(hj:j<24):plc (wrap .i64 (0-(j:Int)))=(24-j) % 24:=by
 have e:wrap .i64 (0-(j:Int))=0-(j:Int):=by rw [jv];omega
 rw [e];unfold plc;omega
def trQ (f:Nat→Q4) (c i:Nat):Q4:=f ((i+(24-c)) % 24)
def miQ (f:Nat→Q4) (i:Nat):Q4:=f ((24-i) % 24)
theorem rQ (hx:RoundV k cs f K) (C:∀k' ds,Up k k'→RoundV k' ds (miQ f) K→R k' (.agg ds)) :
 Cl k 98 #[.agg cs] R:=by
 intro k0 u0;replace hx:=hx.up u0;replace C:=fun k' ds u=>C k' ds (u0.trans u);refine vR hx.seg ⟨fun m k' vs=>∃j c,j+m=24∧vs=[.int .i64 (j:Int),.agg c]∧RoundV k' c (cut j (miQ f) fun _=>Q4.zero) K,⟨24,fun k' u=>⟨0,_,rfl,rfl,ArrV.start RoundV.zero⟩⟩,?_⟩;rintro m k1 vs u1 ⟨j,c,hj,rfl,hc⟩;refine⟨_,c,hc.seg,rfl,fun hlt=>?_,fun hge=>?_⟩
 ·have hlt:=lt24 hlt;have hp:(24-j) % 24<24:=qp _ oz;refine aKh fun k2 u2=>⟨_,rfl,?_⟩;rw [aPz hlt];refine⟨ix24 hp,ix24 hlt,fun k3 u3=>⟨m-1,oq,j+1,_,oq,by rw [wup oq],?_⟩⟩;have he:=ArrV.get (((hx.up u1).up u2).up u3) hp;exact ArrV.step ((hc.up u2).up u3) hlt (SurdV.seg he).1 he
 ·exact fun k2 u2=>C k2 c (u1.trans u2) (ArrV.done (hc.up u2) (ge24 hge))
def Mix (k:World) (cs:Array Value) (f:Nat→Q4×Nat):Prop:=ArrV 24 9 (fun a p=>SurdV k a p.1 p.2) cs f
theorem Mix.up {f:Nat→Q4×Nat}(h:Mix k cs f) (u:Up k k'):Mix k' cs f:=ArrV.mono h fun _ _ h=>h.up u
theorem Mix.seg {f:Nat→Q4×Nat}(h:Mix k cs f):Seg 216 cs:=ArrV.seg h fun _ _ h=>h.seg
theorem Mix.round (h:Mix k cs fun i=>(f i,K)):RoundV k cs f K:=h
theorem aGe (hx:RoundV k cs f K) (hy:SurdV k cs' v L) (hK1:1≤K) (hL1:1≤L) (hK:K≤100000000) (hL:L≤100000000) (C:∀k' ds,Up k k'→RoundV k' ds (fun i=>v.mul (f i)) (K+L+1)→R k' (.agg ds)) :
 Cl k 97 #[.agg cs,.agg cs'] R:=by
 intro k0 u0;replace hx:=hx.up u0;replace hy:=hy.up u0;replace C:=fun k' ds u=>C k' ds (u0.trans u);refine aAz hx.seg hy.seg ⟨fun m k' vs=>∃j c,j+m=24∧vs=[.int .i64 (j:Int),.agg c]∧Mix k' c (cut j (fun i=>(v.mul (f i),K+L+1)) fun i=>(f i,K)),⟨24,fun k' u=>⟨0,_,rfl,rfl,ArrV.start (G:=fun i=>(f i,K)) (hx.up u)⟩⟩,?_⟩;rintro m k1 vs u1 ⟨j,c,hj,rfl,hc⟩;refine⟨_,c,hc.seg,rfl,fun hlt=>?_,fun hge=>?_⟩
 ·have hlt:=lt24 hlt;refine⟨ix24 hlt,?_⟩;refine iM (L:=K) (v':=f j) (hy.up u1) (ArrV.at hc hlt) hL1 hK1 hL hK fun k2 d2 u2 h2=>⟨d2,h2.seg,rfl,ix24 hlt,fun k3 u3=>?_⟩;exact⟨m-1,oq,j+1,_,oq,by rw [wup oq],ArrV.step ((hc.up u2).up u3) hlt h2.seg.1 ((h2.up u3).mono oq)⟩
 ·exact fun k2 u2=>C k2 c (u1.trans u2) (Mix.round (ArrV.done (F:=fun i=>(v.mul (f i),K+L+1)) (hc.up u2) (ge24 hge)))
theorem aJo (hx:RoundV k cs f K) (hK1:1≤K) (hK:K≤100000) (C:∀k' ds,Up k k'→SurdV k' ds (cJ f 0).re (24*K+75)→R k' (.agg ds)) :
 Cl k 100 #[.agg cs] R:=by
 intro k0 u0;refine aKe hx.seg (aKf (n:=0) (hx.up u0) oz hK1 hK fun k1 d1 u1 h1=>⟨d1,h1.seg,rfl,?_⟩);exact aHy h1 fun k2 d2 u2 h2=>⟨d2,h2.seg,rfl,fun k3 u3=>C k3 d2 (((u0.trans u1).trans u2).trans u3) (h2.up u3)⟩
def cone (f g:Nat→Q4):Q4:=(Q4.real (1/2)).mul ((cJ f 0).re.add (cJ g 0).re)
def steer (f g:Nat→Q4):Q4:=(Q4.real (1/2)).mul ((cJ f 0).re.sub (cJ g 0).re)
theorem aDz {c0 c1 c2:Array Value}(h0:Seg 216 c0) (hx:RoundV k c1 f K) (hy:RoundV k c2 g K) (hK1:1≤K) (hK:K≤100000) (C:∀k' ds es,Up k k'→SurdV k' ds (cone f g) (48*K+153)→SurdV k' es (steer f g) (48*K+153)→R k' (.tuple #[.agg ds,.agg es])) :
 Cl k 32 #[.agg (c0.toList++(c1.toList++(c2.toList++([])))).toArray] R:=by
 intro k0 u0;replace hx:=hx.up u0;replace hy:=hy.up u0;replace C:=fun k' ds es u=>C k' ds es (u0.trans u);have e2:((1:Int):Rat) / ((2:Int):Rat)=1/2:=rfl;refine aFw h0 hx.seg hy.seg (aJo hx hK1 hK fun k1 d1 u1 h1=>⟨d1,h1.seg,rfl,?_⟩);refine aJo (hy.up u1) hK1 hK fun k2 d2 u2 h2=>⟨d2,h2.seg,rfl,?_⟩;refine vT (n:=2) oz oz fun k3 d3 u3 h3=>⟨d3,h3.seg,rfl,?_⟩;refine uW ((h1.up u2).up u3) (h2.up u3) oq oq oq oq fun k4 d4 u4 h4=>⟨d4,h4.seg,rfl,?_⟩;refine iM (h3.up u4) h4 oz oq oz oq fun k5 d5 u5 h5=>⟨d5,h5.seg,rfl,?_⟩;refine vT (n:=2) oz oz fun k6 d6 u6 h6=>⟨d6,h6.seg,rfl,?_⟩;have u36:=(((u3.trans u4).trans u5).trans u6);refine aRu ((h1.up u2).up u36) (h2.up u36) oq oq oq oq fun k7 d7 u7 h7=>⟨d7,h7.seg,rfl,?_⟩;refine iM (h6.up u7) h7 oz oq oz oq fun k8 d8 u8 h8=>⟨d8,h8.seg,rfl,fun k9 u9=>?_⟩;exact C k9 d5 d8 ((((u1.trans u2).trans u36).trans u7).trans (u8.trans u9)) (((((h5.up u6).up u7).up u8).up u9).mono oq) ((h8.up u9).mono oq)
end
open Value (agg slice int bool tuple)
open Sy (Up Sees CallsG Seg execFn_use)
set_option maxRecDepth 100000
variable {k:World}{R:World→Value→Prop}{cs0 cs1 cs2:Array Value}
theorem aFx (hcs0:Seg 234 cs0)
 (h:∃I0:Nat→World→List Value→Prop,(∃m0,∀k0,Up k k0→I0 m0 k0 [int .i64 0,agg (pX 24 zS)])∧
 ∀m0 k0 vs0,Up k k0→I0 m0 k0 vs0→∃n1,∃cs2,Seg 216 cs2∧some [int .i64 n1,agg cs2]=some vs0∧
 Br (decide ((n1:Int)<24)) (∃I1:Nat→World→List Value→Prop,(∃m1,∀k1,Up k0 k1→I1 m1 k1 [int .i64 0,agg #[bool false,slice none 0 0,bool false,slice none 0 0,bool false,slice none 0 0,bool false,slice none 0 0,slice none 0 0]])∧
 ∀m1 k1 vs1,Up k0 k1→I1 m1 k1 vs1→∃n3,∃cs4,Seg 9 cs4∧some [int .i64 n3,agg cs4]=some vs1∧
 Br (decide ((n3:Int)<13)) ((decide ((0:Int)≤n3∧(n3:Int)<13))=true∧
 (Cl k1 113 #[int .i64 n3] fun k3 r2=>Gt 9 r2 fun cs5=>
 Cl k3 116 #[int .i64 (wrap .i64 (n3*n1))] fun k5 r4=>Gt 18 r4 fun cs6=>
 Cl k5 115 #[agg (Sy.pickL cs0 (Int.toNat n3*18+0) 18).toArray,agg cs6] fun k7 r6=>Gt 18 r6 fun cs7=>
 Cl k7 78 #[agg cs7] fun k9 r8=>Gt 9 r8 fun cs8=>
 Cl k9 37 #[agg cs5,agg cs8] fun k11 r10=>Gt 9 r10 fun cs9=>
 Cl k11 36 #[agg cs4,agg cs9] fun k13 r12=>Gt 9 r12 fun cs10=>
 ∀k14,Up k13 k14→∃m,m<m1∧I1 m k14 [int .i64 (wrap .i64 (n3+1)),agg cs10])) ((decide ((0:Int)≤n1∧(n1:Int)<24))=true∧
 (∀k15,Up k1 k15→∃m,m<m0∧I0 m k15 [int .i64 (wrap .i64 (n1+1)),agg (Sy.over cs2 (Int.toNat n1*9+0) cs4.toList)]))) (Rt R k0 (agg cs2))) :
   CallsG Tryz.prog 43 #[agg cs0] k R:=
  qX { opq:=[80,39,35,37],loops:=[(0,[.tmp 8 false [.int .i64],.blk 2 [.seg 216]]),(2,[.tmp 12 false [.int .i64],.blk 3 [.seg 9]])] } [.agg [.seg 0 234]] [agg cs0] [.seg 234] ⟨⟨cs0,rfl,hcs0⟩,trivial⟩ h
theorem aJz (hcs0:Seg 216 cs0)
 (h:Cl k 98 #[agg cs0] fun k1 r0=>Gt 216 r0 fun cs1=>
 Cl k1 99 #[int .i64 (-1)] fun k3 r2=>Gt 9 r2 fun cs2=>
 Cl k3 97 #[agg cs1,agg cs2] fun k5 r4=>Gt 216 r4 fun cs3=>
 Rt R k5 (agg cs3)) :
  CallsG Tryz.prog 96 #[agg cs0] k R:=
  qX { opq:=[80,35] } [.agg [.seg 0 216]] [agg cs0] [.seg 216] ⟨⟨cs0,rfl,hcs0⟩,trivial⟩ h
theorem vS (hcs0:Seg 216 cs0) (hcs1:Seg 216 cs1) (hcs2:Seg 216 cs2)
 (h:Cl k 98 #[agg cs0] fun k1 r0=>Gt 216 r0 fun cs3=>
 Cl k1 96 #[agg cs2] fun k3 r2=>Gt 216 r2 fun cs4=>
 Cl k3 96 #[agg cs1] fun k5 r4=>Gt 216 r4 fun cs5=>
 Rt R k5 (agg (cs3.toList++(cs4.toList++(cs5.toList++([])))).toArray)) :
  CallsG Tryz.prog 31 #[agg (cs0.toList++(cs1.toList++(cs2.toList++([])))).toArray] k R:=
  qX { opq:=[80,35] } [.agg [.seg 0 216,.seg 1 216,.seg 2 216]] [agg cs0,agg cs1,agg cs2] [.seg 216,.seg 216,.seg 216] ⟨⟨cs0,rfl,hcs0⟩,⟨cs1,rfl,hcs1⟩,⟨cs2,rfl,hcs2⟩,trivial⟩ h
end Go.Proofs.YtifcjpacobpdmaaGreat

namespace Go.Proofs.YtifcjpacobpdmaaGreat.W32
open Go.RowKit Num
open Sy (Up Sees CallsG Seg)
section
variable {k k':World}{cs cs' c0 c1:Array Value}{R:World→Value→Prop}{v v':Q4}{x y:W4}{K L:Nat}
end
end Go.Proofs.YtifcjpacobpdmaaGreat.W32

namespace Go.Proofs.YtifcjpacobpdmaaGreat
open Go.RowKit Num Plain W32
open Sy (Up Sees CallsG Seg)
section
variable {k k':World}{R:World→Value→Prop}{K L:Nat}{cs cs' ds:Array Value}{f g F:Nat→Q4}{p q:Nat→W4}{x y:W4}{v v':Q4}
def aWj (k:World) (cs:Array Value) (f:Nat→Q4) (K:Nat):Prop:=ArrV 24 12 (fun a v=>SQ k a v K) cs f
def aWy (k:World) (cs:Array Value) (p:Nat→W4) (K:Nat):Prop:=ArrV 13 24 (fun a w=>WQ k a w K) cs p
def aXg (k:World) (cs:Array Value) (f:Nat→Option (Q4×Nat)):Prop:=ArrV 24 12 (aVw 12 fun a p=>SQ k a p.1 p.2) cs f
def aWx (k:World) (cs:Array Value) (p:Nat→Option W4) (K:Nat):Prop:=ArrV 13 24 (aVw 24 fun a w=>WQ k a w K) cs p
def trO (f:Nat→Q4) (K c j i:Nat):Option (Q4×Nat):=if (i+(24-c)) % 24<j then some (trQ f c i,K) else none
def miO (f:Nat→Q4) (K j i:Nat):Option (Q4×Nat):=if (24-i) % 24<j then some (miQ f i,K) else none
end
section
variable {k k':World}{R:World→Value→Prop}{K L:Nat}{cs cs' ds:Array Value}{f g F:Nat→Q4}{p q:Nat→W4}{x y:W4}{v v':Q4}
def aWf (a:Array Value) (v:Q4):Prop:=∃n0 n1 n2 n3 n4 n5 n6 n7:Int,(In64 n0∧In64 n1∧In64 n2∧In64 n3∧In64 n4∧In64 n5∧In64 n6∧In64 n7)∧a=#[.int .i64 n0,.int .i64 n1,.int .i64 n2,.int .i64 n3,.int .i64 n4,.int .i64 n5,.int .i64 n6,.int .i64 n7]∧v=⟨ofQ n0 n1,ofQ n2 n3,ofQ n4 n5,ofQ n6 n7⟩
theorem xR (h:SurdV k ds v K):RoundV k (ds.toList++(List.replicate 23 zS).flatten).toArray (fun i=>if i=0 then v else Q4.zero) K:=by
 have h0:=ArrV.set (n:=24) (s:=9) (i:=0) (g:=fun i=>if i=0 then v else Q4.zero) (RoundV.zero (k:=k) (K:=K)) oz h.seg.1 h (fun j _ hj=>(oh hj).symm);have hl:ds.toList.length=9:=by rw [zv];exact h.seg.1
 have e:(ds.toList++(List.replicate 23 zS).flatten).toArray=Sy.over (pX 24 zS) (Int.toNat ((0:Nat):Int)*9+0) ds.toList:=by
  have z:(pX 24 zS).toList=zS++(List.replicate 23 zS).flatten:=by unfold pX;rw [show 24=23+1 from rfl,List.replicate_succ,List.flatten_cons]
  rw [←Array.toList_inj,Sy.over_eq _ _ _ (by rw [hl];have:=(RoundV.zero (k:=k) (K:=K)).seg.1;omega),hl,z,show Int.toNat ((0:Nat):Int)*9+0=0 from rfl,List.take_zero,qe,yz,List.drop_left' (show zS.length=9 from rfl)]
 rw [e];exact h0
theorem aOp (n a b:Nat) (h:n=10*a+b) (ha:0<a) (ha':a<10) (hb:b<10):dec n=[UInt8.ofNat (48+a),UInt8.ofNat (48+b)]:=by
 unfold dec;rw [oh oq,gT oq,gT (n:=n/10) oq,show n/10/10=0 by omega,eA,show n/10 % 10=a by omega,show n % 10=b by omega];rfl
theorem aGw (q:Rat) (h:q≠0):eR (Q4.real q)=aH q:=by
 have hn:aH q≠[]:=by
  unfold aH;intro e;have e1:=List.append_eq_nil_iff.1 (List.append_eq_nil_iff.1 e).2;have:=kH (q.num.natAbs);have h2:dec q.num.natAbs≠[]:=by
   unfold dec;split
   ·simp
   ·rename_i hq;rw [gT hq];simp
  exact h2 e1.1
 have p1:aJ [] q []=aH q:=by
  unfold aJ;rw [oh h,oh (by simp),jp];rfl
 have p3:∀s m:List UInt8,aJ s 0 m=s:=fun s m=>by
  unfold aJ;rw [og rfl]
 unfold eR Q4.real;simp only [body];rw [p1,p3,p3,p3,oh hn]
theorem txt {l:List UInt8}(h:eR v=l):(ByteArray.toList (str (eR v)) == ByteArray.toList ⟨l.toArray⟩)=true:=by
 rw [h];exact beq_self_eq_true _
def aXe (i:Nat):Q4:=if i=0 then Q4.real 1 else Q4.zero
end
section
variable {k k':World}{R:World→Value→Prop}{K L:Nat}{cs cs' cs'':Array Value}{f g h:Nat→Q4}
def okP (a b:Int):Prop:=(0≤a∧a<24)∧(0≤b∧b<24)
instance {a b:Int}:Decidable (okP a b):=by unfold okP;infer_instance
def aXa (f g h:Nat→Q4) (a b:Int) (i:Nat):Q4:=((trQ f (plc a) i).add (trQ g (plc b) i)).add (h i)
end
