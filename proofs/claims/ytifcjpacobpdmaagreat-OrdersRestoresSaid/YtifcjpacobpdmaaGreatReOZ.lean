/- Several texts in one. (Printed by prep.py.) -/
import Derived.Test.YtifcjpacobpdmaaGreatReR2
namespace Go.Proofs.YtifcjpacobpdmaaGreat
open IntKind (wrap)
open Go.RowKit
open Sy (Seg)
def zS:List Value:=[.bool false,.slice none 0 0,.bool false,.slice none 0 0,.bool false,.slice none 0 0,.bool false,.slice none 0 0,.slice none 0 0]
def zT:List Value:=[.bool false,.slice none 0 0,.slice none 0 0,.bool false,.slice none 0 0,.slice none 0 0,.bool false,.slice none 0 0,.slice none 0 0,.bool false,.slice none 0 0,.slice none 0 0]
def iK (n:Nat) (z:List Value):Array Value:=(List.replicate n z).flatten.toArray
def elt (cs:Array Value) (s i:Nat):Array Value:=(Sy.pickL cs (i*s+0) s).toArray
structure Arr (n s:Nat) (E:Nat→Array Value→Prop) (cs:Array Value):Prop where
 size:cs.size=n*s
 el:∀i,i<n→E i (elt cs s i)
section
variable {n s i:Nat}{E E':Nat→Array Value→Prop}{cs ys:Array Value}
theorem aBz:∀(l:List Value) (cs:Array Value) (o q:Nat),o+l.length≤cs.size→(Sy.over cs o l)[q]?=if o≤q∧q<o+l.length then l[q-o]? else cs[q]?:=by
 intro l cs o q h;rw [←jh,Sy.over_eq l cs o h,←jh];have hl:cs.toList.length=cs.size:=zl;simp only [jo,og,xn,za,xu,hl];have e:min o cs.size=o:=oq
 rw [e]
 by_cases h1:q<o
 ·rw [od oq,od h1,od h1,oh oq]
 ·by_cases h2:q<o+l.length
  ·rw [od h2,oh h1,od ⟨oq,h2⟩]
  ·rw [oh h2,oh oq]
   congr 1
   omega
theorem lQ (cs:Array Value) (s i q:Nat) (hq:q<s) (hs:(i+1)*s≤cs.size):(elt cs s i)[q]?=cs[i*s+q]?:=by
 have hm:(i+1)*s=i*s+s:=zd _ _;unfold elt Sy.pickL;rw [←jh,ji,xz hq,jl];simp only [jn];rw [qx oq];rfl
theorem aAt (cs:Array Value) (s i:Nat):(elt cs s i).size=s:=by simp [elt,Sy.pickL]
theorem sG {a:Array Value}(ha:a.size=s) (h:∀q,q<s→(elt cs s i)[q]?=a[q]?):elt cs s i=a:=by
 apply vr;intro q
 by_cases hq:q<s
 ·exact h q hq
 ·rw [jf (by rw [aAt];omega),jf oq]
theorem aNp {j:Nat}(hs:cs.size=n*s) (hi:i<n) (hj:j<n) (hy:ys.size=s):elt (Sy.over cs (i*s+0) ys.toList) s j=if j=i then ys else elt cs s j:=by
 have h1:(i+1)*s≤n*s:=om s hi;have h2:(j+1)*s≤n*s:=om s hj;have h3:(i+1)*s=i*s+s:=zd _ _;have h4:(j+1)*s=j*s+s:=zd _ _;have hl:ys.toList.length=s:=by simpa using hy
 by_cases e:j=i
 ·subst e;rw [od rfl];refine sG hy fun q hq=>?_;rw [lQ _ _ _ _ hq (by rw [Sy.over_size];omega),aBz _ _ _ _ oq,od ⟨oq,oq⟩];rw [←jh]
  congr 1
  omega
 ·rw [oh e];refine sG (aAt _ _ _) fun q hq=>?_;rw [lQ _ _ _ _ hq (by rw [Sy.over_size];omega),aBz _ _ _ _ oq,lQ _ _ _ _ hq oq,oh];rintro⟨a,b⟩;rcases Nat.lt_or_gt_of_ne e with e|e
  ·have:=om s e;have h5:(j.succ)*s=j*s+s:=zd _ _;omega
  ·have:=om s e;have h5:(i.succ)*s=i*s+s:=zd _ _;omega
theorem Arr.mono (h:Arr n s E cs) (hE:∀i a,i<n→E i a→E' i a):Arr n s E' cs:=⟨h.size,fun i hi=>hE i _ hi (h.el i hi)⟩
theorem Arr.get (h:Arr n s E cs) (hi:i<n):E i (Sy.pickL cs (Int.toNat (i:Int)*s+0) s).toArray:=h.el i hi
theorem Arr.set (h:Arr n s E cs) (hi:i<n) (hy:ys.size=s) (h1:E' i ys) (h2:∀j a,j<n→j≠i→E j a→E' j a):Arr n s E' (Sy.over cs (Int.toNat (i:Int)*s+0) ys.toList):=by
 refine⟨by rw [Sy.over_size];exact h.size,fun j hj=>?_⟩;show E' j (elt (Sy.over cs (i*s+0) ys.toList) s j);rw [aNp h.size hi hj hy];split
 ·rename_i e;subst e;exact h1
 ·rename_i e;exact h2 j _ hj e (h.el j hj)
theorem Arr.seg (h:Arr n s E cs) (hE:∀i a,i<n→E i a→Seg s a):Seg (n*s) cs:=by
 refine⟨h.size,fun u hu=>?_⟩;obtain⟨p,hp,rfl⟩:=List.getElem_of_mem hu;have hp':p<n*s:=by rw [←h.size];simpa using hp
 have hs:0<s:=jr fun e=>by subst e;omega
 have hi:p/s<n:=(qg hs).2 hp';have hsg:=hE _ _ hi (h.el _ hi);have hq:=qy p hs;have hd:=qi p s;have e:(elt cs s (p/s))[p % s]?=cs[p]?:=by
  have h1:(p/s+1)*s≤n*s:=om s hi;rw [lQ _ _ _ _ hq (by rw [h.size];exact h1)]
  congr 1
  rw [oa];exact hd
 have hc:cs[p]?=some cs.toList[p]:=by rw [←jh];exact jy hp
 refine hsg.2 _ ?_;rw [hc,←jh]at e;exact xv e
theorem Arr.rep {a:Array Value}(n:Nat) (ha:a.size=s) (h:∀i,i<n→E i a):Arr n s E (List.replicate n a.toList).flatten.toArray:=by
 have hl:∀m,(List.replicate m a.toList).flatten.length=m*s:=fun m=>by
  induction m with
  | zero=>simp
  | succ m ih=>rw [List.replicate_succ,List.flatten_cons,og,ih,zl,ha,zd,zj]
 have hg:∀m i q,i<m→q<s→(List.replicate m a.toList).flatten[i*s+q]?=a[q]?:=by
  intro m
  induction m with
  | zero=>intro i q hi;omega
  | succ m ih=>
   intro i q hi hq;rw [List.replicate_succ,List.flatten_cons,jo,zl,ha];cases i with
   | zero=>rw [od oq,je,jx,jh]
   | succ i=>
    have h3:(i+1)*s=i*s+s:=zd _ _;rw [oh oq];have:=ih i q oq hq;rw [←this]
    congr 1
    omega
 refine⟨by simpa using hl n,fun i hi=>?_⟩;have e:elt (List.replicate n a.toList).flatten.toArray s i=a:=by
  refine sG ha fun q hq=>?_;have h1:(i+1)*s≤n*s:=om s hi;rw [lQ _ _ _ _ hq (by simpa [hl] using h1)];have:=hg n i q hi hq;rw [←jh];exact this
 rw [e];exact h i hi
end
def ArrV {α:Type}(n s:Nat) (P:Array Value→α→Prop) (cs:Array Value) (f:Nat→α):Prop:=Arr n s (fun i a=>P a (f i)) cs
def cut {α:Type}(j:Nat) (F G:Nat→α) (i:Nat):α:=if i<j then F i else G i
section
variable {α:Type}{n s i j:Nat}{P Q:Array Value→α→Prop}{cs ys:Array Value}{f g F G:Nat→α}
theorem ArrV.get (h:ArrV n s P cs f) (hi:i<n):P (Sy.pickL cs (Int.toNat (i:Int)*s+0) s).toArray (f i):=Arr.get h hi
theorem ArrV.mono (h:ArrV n s P cs f) (hP:∀a v,P a v→Q a v):ArrV n s Q cs f:=Arr.mono h fun _ _ _=>hP _ _
theorem ArrV.congr (h:ArrV n s P cs f) (e:∀i,i<n→f i=g i):ArrV n s P cs g:=Arr.mono h fun i _ hi h=>by rw [←e i hi];exact h
theorem ArrV.seg (h:ArrV n s P cs f) (hP:∀a v,P a v→Seg s a):Seg (n*s) cs:=Arr.seg h fun _ _ _=>hP _ _
theorem ArrV.set (h:ArrV n s P cs f) (hi:i<n) (hs:ys.size=s) (hy:P ys (g i)) (e:∀j,j<n→j≠i→f j=g j):ArrV n s P (Sy.over cs (Int.toNat (i:Int)*s+0) ys.toList) g:=
 Arr.set h hi hs hy fun j _ hj hne h=>by rw [←e j hj hne];exact h
theorem ArrV.step (h:ArrV n s P cs (cut j F G)) (hj:j<n) (hs:ys.size=s) (hy:P ys (F j)):ArrV n s P (Sy.over cs (Int.toNat (j:Int)*s+0) ys.toList) (cut (j+1) F G):=
 ArrV.set h hj hs (by unfold cut;rw [od (uj j)];exact hy) fun i _ hne=>by
  unfold cut
  by_cases c:i<j
  ·rw [od c,od oq]
  ·rw [oh c,oh oq]
theorem ArrV.start (h:ArrV n s P cs G):ArrV n s P cs (cut 0 F G):=h.congr fun _ _=>(oh (Nat.not_lt_zero _)).symm
theorem ArrV.done (h:ArrV n s P cs (cut j F G)) (hj:n≤j):ArrV n s P cs F:=h.congr fun _ hi=>od oq
theorem ArrV.at (h:ArrV n s P cs (cut j F G)) (hj:j<n):P (Sy.pickL cs (Int.toNat (j:Int)*s+0) s).toArray (G j):=by
 have:=h.get hj;unfold cut at this
 rwa [oh (Nat.lt_irrefl j)]at this
theorem ArrV.zero {z:List Value}(hz:z.length=s) (v:α) (h:P z.toArray v):ArrV n s P (iK n z) fun _=>v:=Arr.rep (a:=z.toArray) n (by simpa using hz) fun _ _=>h
def optP (s:Nat) (P:Array Value→α→Prop) (a:Array Value):Option α→Prop
 | none=>Seg s a
 | some v=>P a v
theorem ArrV.all (h:ArrV n s (optP s P) cs fun i=>some (f i)):ArrV n s P cs f:=h
theorem optP.seg {a:Array Value}{v:Option α}(hP:∀v,P a v→Seg s a) (h:optP s P a v):Seg s a:=by
 cases v with
 | none=>exact h
 | some v=>exact hP v h
end
theorem ix24 {j:Nat}(h:j<24):decide ((0:Int)≤(j:Int)∧(j:Int)<24)=true:=decide_eq_true ⟨oq,oq⟩
theorem ix13 {j:Nat}(h:j<13):decide ((0:Int)≤(j:Int)∧(j:Int)<13)=true:=decide_eq_true ⟨oq,oq⟩
theorem lt24 {j:Nat}(h:decide ((j:Int)<24)=true):j<24:=by have:=ow h;omega
theorem ge24 {j:Nat}(h:decide ((j:Int)<24)=false):24≤j:=by have:=ov h;omega
theorem lt13 {j:Nat}(h:decide ((j:Int)<13)=true):j<13:=by have:=ow h;omega
theorem ge13 {j:Nat}(h:decide ((j:Int)<13)=false):13≤j:=by have:=ov h;omega
theorem wup {j:Nat}(h:j<100):wrap .i64 ((j:Int)+1)=((j+1:Nat):Int):=by rw [qt];omega
open Value (agg slice int bool tuple)
open Sy (Up Sees CallsG Seg execFn_use)
set_option maxRecDepth 100000
variable {k:World}{R:World→Value→Prop}{cs0 cs1 cs2:Array Value}{n0 n1:Int}
theorem aKs (hcs0:Seg 9 cs0) (hcs1:Seg 18 cs1)
 (h:Cl k 78 #[agg cs1] fun k1 r0=>Gt 9 r0 fun cs2=>
 Cl k1 37 #[agg cs0,agg cs2] fun k3 r2=>Gt 9 r2 fun cs3=>
 Cl k3 169 #[agg cs1] fun k5 r4=>Gt 9 r4 fun cs4=>
 Cl k5 37 #[agg cs0,agg cs4] fun k7 r6=>Gt 9 r6 fun cs5=>
 Cl k7 79 #[agg cs3,agg cs5] fun k9 r8=>Gt 18 r8 fun cs6=>
 Rt R k9 (agg cs6)) :
  CallsG Tryz.prog 188 #[agg cs0,agg cs1] k R:=
  qX { opq:=[35,37] } [.agg [.seg 0 9],.agg [.seg 1 18]] [agg cs0,agg cs1] [.seg 9,.seg 18] ⟨⟨cs0,rfl,hcs0⟩,⟨cs1,rfl,hcs1⟩,trivial⟩ h
theorem aPo 
 (h:Cl k 186 #[int .i64 1,int .i64 n0] fun k1 r0=>∃cs1,Seg 3 cs1∧∃n2,some (tuple #[agg cs1,int .i64 n2])=some r0∧
 Cl k1 38 #[agg #[bool false,slice none 0 0,bool false,slice none 0 0,bool false,slice none 0 0,bool false,slice none 0 0,slice none 0 0],agg cs1] fun k3 r2=>Gt 9 r2 fun cs3=>
 Rt R k3 (agg cs3)) :
  CallsG Tryz.prog 101 #[int .i64 n0] k R:=
  qY { opq:=[35,88] } h
theorem aKu 
 (h:Cl k 60 #[int .i64 n0] fun k1 r0=>Gt 3 r0 fun cs1=>
 Cl k1 38 #[agg #[bool false,slice none 0 0,bool false,slice none 0 0,bool false,slice none 0 0,bool false,slice none 0 0,slice none 0 0],agg cs1] fun k3 r2=>Gt 9 r2 fun cs2=>
 Rt R k3 (agg cs2)) :
  CallsG Tryz.prog 99 #[int .i64 n0] k R:=
  qY { opq:=[35,88] } h
theorem aKn (hcs0:Seg 216 cs0)
 (h:∃I0:Nat→World→List Value→Prop,(∃m0,∀k0,Up k k0→I0 m0 k0 [int .i64 0,agg #[bool false,slice none 0 0,bool false,slice none 0 0,bool false,slice none 0 0,bool false,slice none 0 0,slice none 0 0,bool false,slice none 0 0,bool false,slice none 0 0,bool false,slice none 0 0,bool false,slice none 0 0,slice none 0 0]])∧
 ∀m0 k0 vs0,Up k k0→I0 m0 k0 vs0→∃n2,∃cs3,Seg 18 cs3∧some [int .i64 n2,agg cs3]=some vs0∧
 Br (decide ((n2:Int)<24)) ((decide ((0:Int)≤n2∧(n2:Int)<24))=true∧
 (Cl k0 116 #[int .i64 (wrap .i64 ((wrap .i64 (0-n1))*n2))] fun k2 r1=>Gt 18 r1 fun cs4=>
 Cl k2 188 #[agg (Sy.pickL cs0 (Int.toNat n2*9+0) 9).toArray,agg cs4] fun k4 r3=>Gt 18 r3 fun cs5=>
 Cl k4 187 #[agg cs3,agg cs5] fun k6 r5=>Gt 18 r5 fun cs6=>
 ∀k7,Up k6 k7→∃m,m<m0∧I0 m k7 [int .i64 (wrap .i64 (n2+1)),agg cs6])) (Cl k0 101 #[int .i64 24] fun k9 r8=>Gt 9 r8 fun cs4=>
 Cl k9 188 #[agg cs4,agg cs3] fun k11 r10=>Gt 18 r10 fun cs5=>
 Rt R k11 (agg cs5))) :
  CallsG Tryz.prog 103 #[agg cs0,int .i64 n1] k R:=
  qX { opq:=[80,35,37],loops:=[(0,[.tmp 9 false [.int .i64],.blk 2 [.seg 18]])] } [.agg [.seg 0 216],.one (.var 1)] [agg cs0,int .i64 n1] [.seg 216,.int .i64] ⟨⟨cs0,rfl,hcs0⟩,⟨_,rfl⟩,trivial⟩ h
theorem aBr (hcs0:Seg 216 cs0)
 (h:∃I0:Nat→World→List Value→Prop,(∃m0,∀k0,Up k k0→I0 m0 k0 [int .i64 0,agg (iK 13 (zS++zS))])∧
 ∀m0 k0 vs0,Up k k0→I0 m0 k0 vs0→∃n1,∃cs2,Seg 234 cs2∧some [int .i64 n1,agg cs2]=some vs0∧
 Br (decide ((n1:Int)<13)) (Cl k0 103 #[agg cs0,int .i64 n1] fun k2 r1=>Gt 18 r1 fun cs3=>
 (decide ((0:Int)≤n1∧(n1:Int)<13))=true∧
 (∀k3,Up k2 k3→∃m,m<m0∧I0 m k3 [int .i64 (wrap .i64 (n1+1)),agg (Sy.over cs2 (Int.toNat n1*18+0) cs3.toList)])) (Rt R k0 (agg cs2))) :
   CallsG Tryz.prog 33 #[agg cs0] k R:=
  qX { opq:=[80,39,35,37],loops:=[(0,[.tmp 5 false [.int .i64],.blk 2 [.seg 234]])] } [.agg [.seg 0 216]] [agg cs0] [.seg 216] ⟨⟨cs0,rfl,hcs0⟩,trivial⟩ h
theorem aFa 
 (h:Br ((n0:Int) == 0) (Cl k 99 #[int .i64 1] fun k1 r0=>Gt 9 r0 fun cs1=>
 Rt R k1 (agg cs1)) (Br ((n0:Int) == 12) (Cl k 99 #[int .i64 1] fun k4 r3=>Gt 9 r3 fun cs1=>
 Rt R k4 (agg cs1)) (Cl k 99 #[int .i64 2] fun k7 r6=>Gt 9 r6 fun cs1=>
 Rt R k7 (agg cs1)))) :
  CallsG Tryz.prog 113 #[int .i64 n0] k R:=
  qY { opq:=[35] } h
theorem aEu (hcs0:Seg 234 cs0)
 (h:∃I0:Nat→World→List Value→Prop,(∃m0,∀k0,Up k k0→I0 m0 k0 [int .i64 0,agg #[bool false,slice none 0 0,bool false,slice none 0 0,bool false,slice none 0 0,bool false,slice none 0 0,slice none 0 0]])∧
 ∀m0 k0 vs0,Up k k0→I0 m0 k0 vs0→∃n1,∃cs2,Seg 9 cs2∧some [int .i64 n1,agg cs2]=some vs0∧
 Br (decide ((n1:Int)<13)) ((decide ((0:Int)≤n1∧(n1:Int)<13))=true∧
 (Cl k0 113 #[int .i64 n1] fun k2 r1=>Gt 9 r1 fun cs3=>
 Cl k2 114 #[agg (Sy.pickL cs0 (Int.toNat n1*18+0) 18).toArray] fun k4 r3=>Gt 9 r3 fun cs4=>
 Cl k4 37 #[agg cs3,agg cs4] fun k6 r5=>Gt 9 r5 fun cs5=>
 Cl k6 36 #[agg cs2,agg cs5] fun k8 r7=>Gt 9 r7 fun cs6=>
 ∀k9,Up k8 k9→∃m,m<m0∧I0 m k9 [int .i64 (wrap .i64 (n1+1)),agg cs6])) (Rt R k0 (agg cs2))) :
  CallsG Tryz.prog 42 #[agg cs0] k R:=
  qX { opq:=[39,35,37],loops:=[(0,[.tmp 7 false [.int .i64],.blk 2 [.seg 9]])] } [.agg [.seg 0 234]] [agg cs0] [.seg 234] ⟨⟨cs0,rfl,hcs0⟩,trivial⟩ h
theorem aPl (hcs0:Seg 216 cs0)
 (h:Cl k 103 #[agg cs0,int .i64 0] fun k1 r0=>Gt 18 r0 fun cs1=>
 Cl k1 78 #[agg cs1] fun k3 r2=>Gt 9 r2 fun cs2=>
 Rt R k3 (agg cs2)) :
  CallsG Tryz.prog 100 #[agg cs0] k R:=
  qX { opq:=[80,35,37] } [.agg [.seg 0 216]] [agg cs0] [.seg 216] ⟨⟨cs0,rfl,hcs0⟩,trivial⟩ h
theorem aKk (hcs0:Seg 216 cs0) (hcs1:Seg 216 cs1) (hcs2:Seg 216 cs2)
 (h:Cl k 100 #[agg cs1] fun k1 r0=>Gt 9 r0 fun cs3=>
 Cl k1 100 #[agg cs2] fun k3 r2=>Gt 9 r2 fun cs4=>
 Cl k3 101 #[int .i64 2] fun k5 r4=>Gt 9 r4 fun cs5=>
 Cl k5 36 #[agg cs3,agg cs4] fun k7 r6=>Gt 9 r6 fun cs6=>
 Cl k7 37 #[agg cs5,agg cs6] fun k9 r8=>Gt 9 r8 fun cs7=>
 Cl k9 101 #[int .i64 2] fun k11 r10=>Gt 9 r10 fun cs8=>
 Cl k11 102 #[agg cs3,agg cs4] fun k13 r12=>Gt 9 r12 fun cs9=>
 Cl k13 37 #[agg cs8,agg cs9] fun k15 r14=>Gt 9 r14 fun cs10=>
 Rt R k15 (tuple #[agg cs7,agg cs10])) :
  CallsG Tryz.prog 32 #[agg (cs0.toList++(cs1.toList++(cs2.toList++([])))).toArray] k R:=
  qX { opq:=[80,35] } [.agg [.seg 0 216,.seg 1 216,.seg 2 216]] [agg cs0,agg cs1,agg cs2] [.seg 216,.seg 216,.seg 216] ⟨⟨cs0,rfl,hcs0⟩,⟨cs1,rfl,hcs1⟩,⟨cs2,rfl,hcs2⟩,trivial⟩ h
theorem aJo
 (h:Cl k 60 #[int .i64 1] fun k1 r0=>Gt 3 r0 fun cs0=>
 Cl k1 38 #[agg #[bool false,slice none 0 0,bool false,slice none 0 0,bool false,slice none 0 0,bool false,slice none 0 0,slice none 0 0],agg cs0] fun k3 r2=>Gt 9 r2 fun cs1=>
 Cl k3 33 #[agg (cs1.toList++(List.replicate 23 zS).flatten).toArray] fun k5 r4=>Gt 234 r4 fun cs2=>
 ∃I6:Nat→World→List Value→Prop,(∃m6,∀k6,Up k5 k6→I6 m6 k6 [int .i64 0,agg ((iK 24 zS).toList++((iK 24 zS).toList++((iK 24 zS).toList++([])))).toArray])∧
 ∀m6 k6 vs6,Up k5 k6→I6 m6 k6 vs6→∃n3,∃cs4,Seg 216 cs4∧∃cs5,Seg 216 cs5∧∃cs6,Seg 216 cs6∧some [int .i64 n3,agg (cs4.toList++(cs5.toList++(cs6.toList++([])))).toArray]=some vs6∧
 Br (decide ((n3:Int)<24)) ((decide ((0:Int)≤n3∧(n3:Int)<24))=true∧
 ((decide ((0:Int)≤n3∧(n3:Int)<24))=true∧
 (Cl k6 60 #[int .i64 30] fun k8 r7=>Gt 3 r7 fun cs7=>
 Cl k8 38 #[agg (Sy.pickL cs5 (Int.toNat n3*9+0) 9).toArray,agg cs7] fun k10 r9=>Gt 9 r9 fun cs8=>
 (decide ((0:Int)≤n3∧(n3:Int)<24))=true∧
 (Cl k10 60 #[int .i64 (-10)] fun k12 r11=>Gt 3 r11 fun cs9=>
 Cl k12 38 #[agg (Sy.pickL cs6 (Int.toNat n3*9+0) 9).toArray,agg cs9] fun k14 r13=>Gt 9 r13 fun cs10=>
 (decide ((0:Int)≤n3∧(n3:Int)<24))=true∧
 (∀k15,Up k14 k15→∃m,m<m6∧I6 m k15 [int .i64 (wrap .i64 (n3+1)),agg (cs4.toList++((Sy.over cs5 (Int.toNat n3*9+0) cs8.toList).toList++((Sy.over cs6 (Int.toNat n3*9+0) cs10.toList).toList++([])))).toArray]))))) (Cl k6 32 #[agg (cs4.toList++(cs5.toList++(cs6.toList++([])))).toArray] fun k17 r16=>∃cs7,Seg 9 cs7∧∃cs8,Seg 9 cs8∧some (tuple #[agg cs7,agg cs8])=some r16∧
 Cl k17 42 #[agg cs2] fun k19 r18=>Gt 9 r18 fun cs9=>
 Cl k19 77 #[agg cs9] fun k21 r20=>∃s10,some (Value.string s10)=some r20∧
 Br (ByteArray.toList s10 == ByteArray.toList ⟨#[49,47,50,52]⟩) (Cl k21 78 #[agg (Sy.pickL cs2 (Int.toNat 0*0+90) 18).toArray] fun k23 r22=>Gt 9 r22 fun cs11=>
 Cl k23 77 #[agg cs11] fun k25 r24=>∃s12,some (Value.string s12)=some r24∧
 Br (ByteArray.toList s12 == ByteArray.toList ⟨#[49,47,50,52]⟩) (Cl k25 77 #[agg cs7] fun k27 r26=>∃s13,some (Value.string s13)=some r26∧
 Br (ByteArray.toList s13 == ByteArray.toList ⟨#[49,48]⟩) (Cl k27 77 #[agg cs8] fun k29 r28=>∃s14,some (Value.string s14)=some r28∧
 Rt R k29 (bool (ByteArray.toList s14 == ByteArray.toList ⟨#[50,48]⟩))) (Rt R k27 (bool false))) (Rt R k25 (bool false))) (Rt R k21 (bool false)))) :
  CallsG Tryz.prog 16 #[] k R:=
  qX { opq:=[80,39,35,37,88],loops:=[(0,[.tmp 14 false [.int .i64],.blk 2 [.seg 216,.seg 216,.seg 216]])] } [] [] [] trivial h
end Go.Proofs.YtifcjpacobpdmaaGreat

namespace Go.Proofs.YtifcjpacobpdmaaGreat
open IntKind (wrap)
open Go.RowKit
open Value (agg slice int bool tuple)
open Sy (Up Sees CallsG Seg execFn_use)
set_option maxRecDepth 100000
variable {k:World}{R:World→Value→Prop}{n0:Int}
theorem aPw 
 (h:Rt R k (int .i64 (Int.tmod (wrap .i64 ((Int.tmod n0 24)+24)) 24))) :
 CallsG Tryz.prog 202 #[int .i64 n0] k R:=
 qY { opq:=[] } h
theorem aSf 
 (h:Cl k 202 #[int .i64 n0] fun k1 r0=>Gi r0 fun n1=>
 Cl k1 203 #[int .i64 n1] fun k3 r2=>Gt 9 r2 fun cs2=>
 Cl k3 202 #[int .i64 (wrap .i64 (n1-6))] fun k5 r4=>Gi r4 fun n3=>
 Cl k5 203 #[int .i64 n3] fun k7 r6=>Gt 9 r6 fun cs4=>
 Rt R k7 (agg (cs2.toList++(cs4.toList++([]))).toArray)) :
  CallsG Tryz.prog 116 #[int .i64 n0] k R:=
  qY { opq:=[35] } h
theorem bB 
 (h:Br (decide ((n0:Int) > 12)) (Br (decide (((wrap .i64 (24-n0)):Int) > 6)) (Cl k 203 #[int .i64 (wrap .i64 (12-(wrap .i64 (24-n0))))] fun k1 r0=>Gt 9 r0 fun cs1=>
 Cl k1 41 #[agg cs1] fun k3 r2=>Gt 9 r2 fun cs2=>
 Rt R k3 (agg cs2)) (Br (((wrap .i64 (24-n0)):Int) == 0) (Cl k 148 #[int .i64 1] fun k6 r5=>Gt 2 r5 fun cs1=>
 Rt R k6 (agg (cs1.toList++((bool false) :: ((slice none 0 0) :: ((bool false) :: ((slice none 0 0) :: ((bool false) :: ((slice none 0 0) :: ((slice none 0 0) :: ([]))))))))).toArray)) (Br (((wrap .i64 (24-n0)):Int) == 1) (Cl k 274 #[int .i64 1,int .u64 4] fun k9 r8=>Gt 9 r8 fun cs1=>
 Cl k9 274 #[int .i64 3,int .u64 4] fun k11 r10=>Gt 9 r10 fun cs2=>
 Cl k11 36 #[agg cs1,agg cs2] fun k13 r12=>Gt 9 r12 fun cs3=>
 Rt R k13 (agg cs3)) (Br (((wrap .i64 (24-n0)):Int) == 2) (Cl k 274 #[int .i64 2,int .u64 2] fun k16 r15=>Gt 9 r15 fun cs1=>
 Rt R k16 (agg cs1)) (Br (((wrap .i64 (24-n0)):Int) == 3) (Cl k 274 #[int .i64 1,int .u64 2] fun k19 r18=>Gt 9 r18 fun cs1=>
 Rt R k19 (agg cs1)) (Br (((wrap .i64 (24-n0)):Int) == 4) (Cl k 274 #[int .i64 0,int .u64 2] fun k22 r21=>Gt 9 r21 fun cs1=>
 Rt R k22 (agg cs1)) (Br (((wrap .i64 (24-n0)):Int) == 5) (Cl k 274 #[int .i64 3,int .u64 4] fun k25 r24=>Gt 9 r24 fun cs1=>
 Cl k25 274 #[int .i64 1,int .u64 4] fun k27 r26=>Gt 9 r26 fun cs2=>
 Cl k27 102 #[agg cs1,agg cs2] fun k29 r28=>Gt 9 r28 fun cs3=>
 Rt R k29 (agg cs3)) (Rt R k (agg #[bool false,slice none 0 0,bool false,slice none 0 0,bool false,slice none 0 0,bool false,slice none 0 0,slice none 0 0]))))))))) (Br (decide ((n0:Int) > 6)) (Cl k 203 #[int .i64 (wrap .i64 (12-n0))] fun k33 r32=>Gt 9 r32 fun cs1=>
 Cl k33 41 #[agg cs1] fun k35 r34=>Gt 9 r34 fun cs2=>
 Rt R k35 (agg cs2)) (Br ((n0:Int) == 0) (Cl k 148 #[int .i64 1] fun k38 r37=>Gt 2 r37 fun cs1=>
 Rt R k38 (agg (cs1.toList++((bool false) :: ((slice none 0 0) :: ((bool false) :: ((slice none 0 0) :: ((bool false) :: ((slice none 0 0) :: ((slice none 0 0) :: ([]))))))))).toArray)) (Br ((n0:Int) == 1) (Cl k 274 #[int .i64 1,int .u64 4] fun k41 r40=>Gt 9 r40 fun cs1=>
 Cl k41 274 #[int .i64 3,int .u64 4] fun k43 r42=>Gt 9 r42 fun cs2=>
 Cl k43 36 #[agg cs1,agg cs2] fun k45 r44=>Gt 9 r44 fun cs3=>
 Rt R k45 (agg cs3)) (Br ((n0:Int) == 2) (Cl k 274 #[int .i64 2,int .u64 2] fun k48 r47=>Gt 9 r47 fun cs1=>
 Rt R k48 (agg cs1)) (Br ((n0:Int) == 3) (Cl k 274 #[int .i64 1,int .u64 2] fun k51 r50=>Gt 9 r50 fun cs1=>
 Rt R k51 (agg cs1)) (Br ((n0:Int) == 4) (Cl k 274 #[int .i64 0,int .u64 2] fun k54 r53=>Gt 9 r53 fun cs1=>
 Rt R k54 (agg cs1)) (Br ((n0:Int) == 5) (Cl k 274 #[int .i64 3,int .u64 4] fun k57 r56=>Gt 9 r56 fun cs1=>
 Cl k57 274 #[int .i64 1,int .u64 4] fun k59 r58=>Gt 9 r58 fun cs2=>
 Cl k59 102 #[agg cs1,agg cs2] fun k61 r60=>Gt 9 r60 fun cs3=>
 Rt R k61 (agg cs3)) (Rt R k (agg #[bool false,slice none 0 0,bool false,slice none 0 0,bool false,slice none 0 0,bool false,slice none 0 0,slice none 0 0])))))))))) :
  CallsG Tryz.prog 203 #[int .i64 n0] k R:=
  qY { opq:=[35,32] } h
theorem aKx
 (h:Cl k 148 #[int .i64 1] fun k1 r0=>Gt 2 r0 fun cs0=>
 Cl k1 189 #[int .u64 4] fun k3 r2=>∃A1 l1 c1,some (slice A1 l1 c1)=some r2∧
 Rt R k3 (agg ((bool false) :: ((slice none 0 0) :: (cs0.toList++((bool false) :: ((slice none 0 0) :: ((bool false) :: ((slice none 0 0) :: ((slice A1 l1 c1) :: ([]))))))))).toArray)) :
  CallsG Tryz.prog 274 #[int .i64 1,int .u64 4] k R:=
  Sy.execFn_use_heap (cfg:={ opq:=[32] }) (args:=[.one (.lit (.int .i64 (1))),.one (.lit (.int .u64 (4)))]) (vals:=[]) (kinds:=[]) (blks:=[]) (heap:=[]) ox trivial ox trivial ox h
theorem aKz
 (h:Cl k 148 #[int .i64 1] fun k1 r0=>Gt 2 r0 fun cs0=>
 Cl k1 189 #[int .u64 4] fun k3 r2=>∃A1 l1 c1,some (slice A1 l1 c1)=some r2∧
 Rt R k3 (agg ((bool false) :: ((slice none 0 0) :: ((bool false) :: ((slice none 0 0) :: ((bool false) :: ((slice none 0 0) :: (cs0.toList++((slice A1 l1 c1) :: ([]))))))))).toArray)) :
  CallsG Tryz.prog 274 #[int .i64 3,int .u64 4] k R:=
  Sy.execFn_use_heap (cfg:={ opq:=[32] }) (args:=[.one (.lit (.int .i64 (3))),.one (.lit (.int .u64 (4)))]) (vals:=[]) (kinds:=[]) (blks:=[]) (heap:=[]) ox trivial ox trivial ox h
theorem aKy
 (h:Cl k 148 #[int .i64 1] fun k1 r0=>Gt 2 r0 fun cs0=>
 Cl k1 189 #[int .u64 2] fun k3 r2=>∃A1 l1 c1,some (slice A1 l1 c1)=some r2∧
 Rt R k3 (agg ((bool false) :: ((slice none 0 0) :: ((bool false) :: ((slice none 0 0) :: (cs0.toList++((bool false) :: ((slice none 0 0) :: ((slice A1 l1 c1) :: ([]))))))))).toArray)) :
  CallsG Tryz.prog 274 #[int .i64 2,int .u64 2] k R:=
  Sy.execFn_use_heap (cfg:={ opq:=[32] }) (args:=[.one (.lit (.int .i64 (2))),.one (.lit (.int .u64 (2)))]) (vals:=[]) (kinds:=[]) (blks:=[]) (heap:=[]) ox trivial ox trivial ox h
theorem aKw
 (h:Cl k 148 #[int .i64 1] fun k1 r0=>Gt 2 r0 fun cs0=>
 Cl k1 189 #[int .u64 2] fun k3 r2=>∃A1 l1 c1,some (slice A1 l1 c1)=some r2∧
 Rt R k3 (agg ((bool false) :: ((slice none 0 0) :: (cs0.toList++((bool false) :: ((slice none 0 0) :: ((bool false) :: ((slice none 0 0) :: ((slice A1 l1 c1) :: ([]))))))))).toArray)) :
  CallsG Tryz.prog 274 #[int .i64 1,int .u64 2] k R:=
  Sy.execFn_use_heap (cfg:={ opq:=[32] }) (args:=[.one (.lit (.int .i64 (1))),.one (.lit (.int .u64 (2)))]) (vals:=[]) (kinds:=[]) (blks:=[]) (heap:=[]) ox trivial ox trivial ox h
theorem aKv
 (h:Cl k 148 #[int .i64 1] fun k1 r0=>Gt 2 r0 fun cs0=>
 Cl k1 189 #[int .u64 2] fun k3 r2=>∃A1 l1 c1,some (slice A1 l1 c1)=some r2∧
 Rt R k3 (agg (cs0.toList++((bool false) :: ((slice none 0 0) :: ((bool false) :: ((slice none 0 0) :: ((bool false) :: ((slice none 0 0) :: ((slice A1 l1 c1) :: ([]))))))))).toArray)) :
  CallsG Tryz.prog 274 #[int .i64 0,int .u64 2] k R:=
  Sy.execFn_use_heap (cfg:={ opq:=[32] }) (args:=[.one (.lit (.int .i64 (0))),.one (.lit (.int .u64 (2)))]) (vals:=[]) (kinds:=[]) (blks:=[]) (heap:=[]) ox trivial ox trivial ox h
end Go.Proofs.YtifcjpacobpdmaaGreat

namespace Go.Proofs.YtifcjpacobpdmaaGreat
open IntKind (wrap)
open Go.RowKit Num
open Sy (Up Sees CallsG Seg)
section
variable {k k':World}{cs cs' c0 c1:Array Value}{R:World→Value→Prop}{v v':Q4}{x y:W4}{K L:Nat}
theorem IntV.cut {z:Int}(h:IntV k cs z K) (hz:z.natAbs≤1000):IntV k cs z 1:=by
 obtain⟨b,A,n,c,e,h1,h2⟩:=h;refine⟨b,A,n,c,e,h1,?_⟩;rw [h1.lim.len];exact aI (by unfold B64;omega)
theorem jZ {z:Int}{m:Nat}(hm:0<m) (h:q4s (mkRat z m)=true):m ∣ 4*z.natAbs∧4*z.natAbs≤1000*m:=by
 unfold q4s at h;rw [qo,beq_iff_eq,decide_eq_true_iff]at h;have e:(4:Rat)*mkRat z m=mkRat (z*(4:Nat)) m:=by rw [qZ z 4 hm];rfl
 rw [e,jG _ hm,gY _ hm]at h;obtain⟨h1,h2⟩:=h;have hz:(z*((4:Nat):Int)).natAbs=4*z.natAbs:=by rw [wy,zi,oa]
 rw [hz]at h1 h2;generalize hg:Nat.gcd (4*z.natAbs) m=g at h1 h2;have d1:g ∣ m:=hg▸kj _ _;have d2:g ∣ 4*z.natAbs:=hg▸xl _ _;have em:m=g:=by have:=Nat.div_mul_cancel d1;rw [h1,zk]at this;exact this.symm
 have hle:=om g h2;rw [Nat.div_mul_cancel d2]at hle;rw [em];exact⟨d2,hle⟩
theorem SurdV.cut (h:SurdV k cs v K) (hs:v.small=true):SurdV k cs v 1:=by
 obtain⟨c0,c1,c2,c3,D,d,e,y0,y1,y2,y3,m,h1,hm,hg,rfl,i0,i1,i2,i3,l,hd⟩:=h;unfold Q4.small mkQ at hs;rw [qo,qo,qo]at hs;obtain⟨⟨⟨s0,s1⟩,s2⟩,s3⟩:=hs;obtain⟨d0,b0⟩:=jZ hm s0;obtain⟨d1,b1⟩:=jZ hm s1;obtain⟨d2,b2⟩:=jZ hm s2;obtain⟨d3,b3⟩:=jZ hm s3;have hm4:m ∣ 4:=by
  have dm:m ∣ 4*m:=Nat.dvd_mul_left m 4;have:=wz (wz (wz (wz dm d0) d1) d2) d3;rw [xt,xt,xt,xt]at this;unfold gcd5 at hg;rw [hg]at this;exact this
 have hm4:=Nat.le_of_dvd oz hm4;refine⟨c0,c1,c2,c3,D,d,e,y0,y1,y2,y3,m,h1,hm,hg,rfl,i0.cut oq,i1.cut oq,i2.cut oq,i3.cut oq,l,?_⟩;rw [l.len];refine aI ?_;unfold B64;split <;> omega
theorem WaveV.nil:WaveV k #[.bool false,.slice none 0 0,.bool false,.slice none 0 0,.bool false,.slice none 0 0,.bool false,.slice none 0 0,.slice none 0 0,.bool false,.slice none 0 0,.bool false,.slice none 0 0,.bool false,.slice none 0 0,.bool false,.slice none 0 0,.slice none 0 0] W4.zero K:=
 ⟨#[.bool false,.slice none 0 0,.bool false,.slice none 0 0,.bool false,.slice none 0 0,.bool false,.slice none 0 0,.slice none 0 0],#[.bool false,.slice none 0 0,.bool false,.slice none 0 0,.bool false,.slice none 0 0,.bool false,.slice none 0 0,.slice none 0 0],rfl,SurdV.nil (jk _),SurdV.nil (jk _)⟩
theorem oS (C:∀k' ds,Up k k'→SurdV k' ds ⟨0,1/4,0,0⟩ 1→R k' (.agg ds)) :
 Cl k 274 #[.int .i64 1,.int .u64 4] R:=by
 intro k0 u0;refine aKx ?_;refine aBt oz oz fun k1 d1 u1 i1=>⟨d1,i1.seg,rfl,?_⟩;refine iJ (x:=4) oz fun k2 A l c u2 l2 hl=>⟨A,l,c,rfl,fun k3 u3=>?_⟩;exact C k3 _ (((u0.trans u1).trans u2).trans u3) ⟨#[.bool false,.slice none 0 0],d1,#[.bool false,.slice none 0 0],#[.bool false,.slice none 0 0],A,l,c,0,1,0,0,4,rfl,oz,oz,by decide +kernel,IntV.nil,(i1.up u2).up u3,IntV.nil,IntV.nil,(by rw [oh oz];exact l2.up u3),hl⟩
theorem oT (C:∀k' ds,Up k k'→SurdV k' ds ⟨0,0,0,1/4⟩ 1→R k' (.agg ds)) :
 Cl k 274 #[.int .i64 3,.int .u64 4] R:=by
 intro k0 u0;refine aKz ?_;refine aBt oz oz fun k1 d1 u1 i1=>⟨d1,i1.seg,rfl,?_⟩;refine iJ (x:=4) oz fun k2 A l c u2 l2 hl=>⟨A,l,c,rfl,fun k3 u3=>?_⟩;exact C k3 _ (((u0.trans u1).trans u2).trans u3) ⟨#[.bool false,.slice none 0 0],#[.bool false,.slice none 0 0],#[.bool false,.slice none 0 0],d1,A,l,c,0,0,0,1,4,rfl,oz,oz,by decide +kernel,IntV.nil,IntV.nil,IntV.nil,(i1.up u2).up u3,(by rw [oh oz];exact l2.up u3),hl⟩
theorem aCe (C:∀k' ds,Up k k'→SurdV k' ds ⟨0,0,1/2,0⟩ 1→R k' (.agg ds)) :
 Cl k 274 #[.int .i64 2,.int .u64 2] R:=by
 intro k0 u0;refine aKy ?_;refine aBt oz oz fun k1 d1 u1 i1=>⟨d1,i1.seg,rfl,?_⟩;refine iJ (x:=2) oz fun k2 A l c u2 l2 hl=>⟨A,l,c,rfl,fun k3 u3=>?_⟩;exact C k3 _ (((u0.trans u1).trans u2).trans u3) ⟨#[.bool false,.slice none 0 0],#[.bool false,.slice none 0 0],d1,#[.bool false,.slice none 0 0],A,l,c,0,0,1,0,2,rfl,oz,oz,by decide +kernel,IntV.nil,IntV.nil,(i1.up u2).up u3,IntV.nil,(by rw [oh oz];exact l2.up u3),hl⟩
theorem aCd (C:∀k' ds,Up k k'→SurdV k' ds ⟨0,1/2,0,0⟩ 1→R k' (.agg ds)) :
 Cl k 274 #[.int .i64 1,.int .u64 2] R:=by
 intro k0 u0;refine aKw ?_;refine aBt oz oz fun k1 d1 u1 i1=>⟨d1,i1.seg,rfl,?_⟩;refine iJ (x:=2) oz fun k2 A l c u2 l2 hl=>⟨A,l,c,rfl,fun k3 u3=>?_⟩;exact C k3 _ (((u0.trans u1).trans u2).trans u3) ⟨#[.bool false,.slice none 0 0],d1,#[.bool false,.slice none 0 0],#[.bool false,.slice none 0 0],A,l,c,0,1,0,0,2,rfl,oz,oz,by decide +kernel,IntV.nil,(i1.up u2).up u3,IntV.nil,IntV.nil,(by rw [oh oz];exact l2.up u3),hl⟩
theorem aCc (C:∀k' ds,Up k k'→SurdV k' ds ⟨1/2,0,0,0⟩ 1→R k' (.agg ds)) :
 Cl k 274 #[.int .i64 0,.int .u64 2] R:=by
 intro k0 u0;refine aKv ?_;refine aBt oz oz fun k1 d1 u1 i1=>⟨d1,i1.seg,rfl,?_⟩;refine iJ (x:=2) oz fun k2 A l c u2 l2 hl=>⟨A,l,c,rfl,fun k3 u3=>?_⟩;exact C k3 _ (((u0.trans u1).trans u2).trans u3) ⟨d1,#[.bool false,.slice none 0 0],#[.bool false,.slice none 0 0],#[.bool false,.slice none 0 0],A,l,c,1,0,0,0,2,rfl,oz,oz,by decide +kernel,(i1.up u2).up u3,IntV.nil,IntV.nil,IntV.nil,(by rw [oh oz];exact l2.up u3),hl⟩
theorem cast4 (h:SurdV k cs v K) (e:v=v'):SurdV k cs v' K:=e▸h
theorem aIl (C:∀k' ds,Up k k'→SurdV k' ds (fL 0) 1→R k' (.agg ds)) :
 Cl k 203 #[.int .i64 0] R:=by
 intro k0 u0;refine bB ⟨fun h=>absurd h (by decide +kernel),fun _=>⟨fun h=>absurd h (by decide +kernel),fun _=>⟨fun _=>?_,fun h=>absurd h (by decide +kernel)⟩⟩⟩;refine aBt oz oz fun k1 d1 u1 i1=>⟨d1,i1.seg,rfl,fun k2 u2=>?_⟩;exact C k2 _ ((u0.trans u1).trans u2) ⟨d1,#[.bool false,.slice none 0 0],#[.bool false,.slice none 0 0],#[.bool false,.slice none 0 0],none,0,0,1,0,0,0,1,rfl,oz,oz,by decide +kernel,i1.up u2,IntV.nil,IntV.nil,IntV.nil,(by rw [od rfl];exact LimR.nil),jk _⟩
theorem zN (C:∀k' ds,Up k k'→SurdV k' ds (fL 1) 1→R k' (.agg ds)) :
 Cl k 203 #[.int .i64 1] R:=by
 intro k0 u0;refine bB ⟨fun h=>absurd h (by decide +kernel),fun _=>⟨fun h=>absurd h (by decide +kernel),fun _=>⟨fun h=>absurd h (by decide +kernel),fun _=>⟨fun _=>?_,fun h=>absurd h (by decide +kernel)⟩⟩⟩⟩;refine oS fun k1 d1 u1 h1=>⟨d1,h1.seg,rfl,?_⟩;refine oT fun k2 d2 u2 h2=>⟨d2,h2.seg,rfl,?_⟩;refine mU (h1.up u2) h2 oz oz fun k3 d3 u3 h3=>⟨d3,h3.seg,rfl,fun k4 u4=>?_⟩;refine C k4 d3 ((((u0.trans u1).trans u2).trans u3).trans u4) (SurdV.cut (K:=2*1+1) (cast4 (h3.up u4) (by decide +kernel)) (by decide +kernel))
theorem zO (C:∀k' ds,Up k k'→SurdV k' ds (fL 2) 1→R k' (.agg ds)) :
 Cl k 203 #[.int .i64 2] R:=by
 intro k0 u0;refine bB ⟨fun h=>absurd h (by decide +kernel),fun _=>⟨fun h=>absurd h (by decide +kernel),fun _=>⟨fun h=>absurd h (by decide +kernel),fun _=>⟨fun h=>absurd h (by decide +kernel),fun _=>⟨fun _=>?_,fun h=>absurd h (by decide +kernel)⟩⟩⟩⟩⟩;exact aCe fun k1 d1 u1 h1=>⟨d1,h1.seg,rfl,fun k2 u2=>C k2 d1 ((u0.trans u1).trans u2) (h1.up u2)⟩
theorem zP (C:∀k' ds,Up k k'→SurdV k' ds (fL 3) 1→R k' (.agg ds)) :
 Cl k 203 #[.int .i64 3] R:=by
 intro k0 u0;refine bB ⟨fun h=>absurd h (by decide +kernel),fun _=>⟨fun h=>absurd h (by decide +kernel),fun _=>⟨fun h=>absurd h (by decide +kernel),fun _=>⟨fun h=>absurd h (by decide +kernel),fun _=>⟨fun h=>absurd h (by decide +kernel),fun _=>⟨fun _=>?_,fun h=>absurd h (by decide +kernel)⟩⟩⟩⟩⟩⟩;exact aCd fun k1 d1 u1 h1=>⟨d1,h1.seg,rfl,fun k2 u2=>C k2 d1 ((u0.trans u1).trans u2) (h1.up u2)⟩
theorem zQ (C:∀k' ds,Up k k'→SurdV k' ds (fL 4) 1→R k' (.agg ds)) :
 Cl k 203 #[.int .i64 4] R:=by
 intro k0 u0;refine bB ⟨fun h=>absurd h (by decide +kernel),fun _=>⟨fun h=>absurd h (by decide +kernel),fun _=>⟨fun h=>absurd h (by decide +kernel),fun _=>⟨fun h=>absurd h (by decide +kernel),fun _=>⟨fun h=>absurd h (by decide +kernel),fun _=>⟨fun h=>absurd h (by decide +kernel),fun _=>⟨fun _=>?_,fun h=>absurd h (by decide +kernel)⟩⟩⟩⟩⟩⟩⟩;exact aCc fun k1 d1 u1 h1=>⟨d1,h1.seg,rfl,fun k2 u2=>C k2 d1 ((u0.trans u1).trans u2) (h1.up u2)⟩
theorem zR (C:∀k' ds,Up k k'→SurdV k' ds (fL 5) 1→R k' (.agg ds)) :
 Cl k 203 #[.int .i64 5] R:=by
 intro k0 u0;refine bB ⟨fun h=>absurd h (by decide +kernel),fun _=>⟨fun h=>absurd h (by decide +kernel),fun _=>⟨fun h=>absurd h (by decide +kernel),fun _=>⟨fun h=>absurd h (by decide +kernel),fun _=>⟨fun h=>absurd h (by decide +kernel),fun _=>⟨fun h=>absurd h (by decide +kernel),fun _=>⟨fun h=>absurd h (by decide +kernel),fun _=>⟨fun _=>?_,fun h=>absurd h (by decide +kernel)⟩⟩⟩⟩⟩⟩⟩⟩;refine oT fun k1 d1 u1 h1=>⟨d1,h1.seg,rfl,?_⟩;refine oS fun k2 d2 u2 h2=>⟨d2,h2.seg,rfl,?_⟩;refine aDq (h1.up u2) h2 oz oz fun k3 d3 u3 h3=>⟨d3,h3.seg,rfl,fun k4 u4=>?_⟩;refine C k4 d3 ((((u0.trans u1).trans u2).trans u3).trans u4) (SurdV.cut (K:=2*1+1) (cast4 (h3.up u4) (by decide +kernel)) (by decide +kernel))
theorem aWq (C:∀k' ds,Up k k'→SurdV k' ds (fL 6) 1→R k' (.agg ds)) :
 Cl k 203 #[.int .i64 6] R:=by
 intro k0 u0;refine bB ⟨fun h=>absurd h (by decide +kernel),fun _=>⟨fun h=>absurd h (by decide +kernel),fun _=>⟨fun h=>absurd h (by decide +kernel),fun _=>⟨fun h=>absurd h (by decide +kernel),fun _=>⟨fun h=>absurd h (by decide +kernel),fun _=>⟨fun h=>absurd h (by decide +kernel),fun _=>⟨fun h=>absurd h (by decide +kernel),fun _=>⟨fun h=>absurd h (by decide +kernel),fun _=>?_⟩⟩⟩⟩⟩⟩⟩⟩;intro k1 u1;exact C k1 _ (u0.trans u1) (SurdV.nil (jk _))
theorem aWr (C:∀k' ds,Up k k'→SurdV k' ds (fL 7) 1→R k' (.agg ds)) :
 Cl k 203 #[.int .i64 7] R:=by
 intro k0 u0;refine bB ⟨fun h=>absurd h (by decide +kernel),fun _=>⟨fun _=>?_,fun h=>absurd h (by decide +kernel)⟩⟩;rw [show wrap .i64 (12-7)=(5:Int) from by decide +kernel];refine zR fun k1 d1 u1 h1=>⟨d1,h1.seg,rfl,?_⟩;refine gG h1 oz fun k3 d3 u3 h3=>⟨d3,h3.seg,rfl,fun k4 u4=>?_⟩;exact C k4 d3 (((u0.trans u1).trans u3).trans u4) (h3.up u4)
theorem aWs (C:∀k' ds,Up k k'→SurdV k' ds (fL 8) 1→R k' (.agg ds)) :
 Cl k 203 #[.int .i64 8] R:=by
 intro k0 u0;refine bB ⟨fun h=>absurd h (by decide +kernel),fun _=>⟨fun _=>?_,fun h=>absurd h (by decide +kernel)⟩⟩;rw [show wrap .i64 (12-8)=(4:Int) from by decide +kernel];refine zQ fun k1 d1 u1 h1=>⟨d1,h1.seg,rfl,?_⟩;refine gG h1 oz fun k3 d3 u3 h3=>⟨d3,h3.seg,rfl,fun k4 u4=>?_⟩;exact C k4 d3 (((u0.trans u1).trans u3).trans u4) (h3.up u4)
theorem aWt (C:∀k' ds,Up k k'→SurdV k' ds (fL 9) 1→R k' (.agg ds)) :
 Cl k 203 #[.int .i64 9] R:=by
 intro k0 u0;refine bB ⟨fun h=>absurd h (by decide +kernel),fun _=>⟨fun _=>?_,fun h=>absurd h (by decide +kernel)⟩⟩;rw [show wrap .i64 (12-9)=(3:Int) from by decide +kernel];refine zP fun k1 d1 u1 h1=>⟨d1,h1.seg,rfl,?_⟩;refine gG h1 oz fun k3 d3 u3 h3=>⟨d3,h3.seg,rfl,fun k4 u4=>?_⟩;exact C k4 d3 (((u0.trans u1).trans u3).trans u4) (h3.up u4)
theorem aSg (C:∀k' ds,Up k k'→SurdV k' ds (fL 10) 1→R k' (.agg ds)) :
 Cl k 203 #[.int .i64 10] R:=by
 intro k0 u0;refine bB ⟨fun h=>absurd h (by decide +kernel),fun _=>⟨fun _=>?_,fun h=>absurd h (by decide +kernel)⟩⟩;rw [show wrap .i64 (12-10)=(2:Int) from by decide +kernel];refine zO fun k1 d1 u1 h1=>⟨d1,h1.seg,rfl,?_⟩;refine gG h1 oz fun k3 d3 u3 h3=>⟨d3,h3.seg,rfl,fun k4 u4=>?_⟩;exact C k4 d3 (((u0.trans u1).trans u3).trans u4) (h3.up u4)
theorem aSh (C:∀k' ds,Up k k'→SurdV k' ds (fL 11) 1→R k' (.agg ds)) :
 Cl k 203 #[.int .i64 11] R:=by
 intro k0 u0;refine bB ⟨fun h=>absurd h (by decide +kernel),fun _=>⟨fun _=>?_,fun h=>absurd h (by decide +kernel)⟩⟩;rw [show wrap .i64 (12-11)=(1:Int) from by decide +kernel];refine zN fun k1 d1 u1 h1=>⟨d1,h1.seg,rfl,?_⟩;refine gG h1 oz fun k3 d3 u3 h3=>⟨d3,h3.seg,rfl,fun k4 u4=>?_⟩;exact C k4 d3 (((u0.trans u1).trans u3).trans u4) (h3.up u4)
theorem aSi (C:∀k' ds,Up k k'→SurdV k' ds (fL 12) 1→R k' (.agg ds)) :
 Cl k 203 #[.int .i64 12] R:=by
 intro k0 u0;refine bB ⟨fun h=>absurd h (by decide +kernel),fun _=>⟨fun _=>?_,fun h=>absurd h (by decide +kernel)⟩⟩;rw [show wrap .i64 (12-12)=(0:Int) from by decide +kernel];refine aIl fun k1 d1 u1 h1=>⟨d1,h1.seg,rfl,?_⟩;refine gG h1 oz fun k3 d3 u3 h3=>⟨d3,h3.seg,rfl,fun k4 u4=>?_⟩;exact C k4 d3 (((u0.trans u1).trans u3).trans u4) (h3.up u4)
theorem aSj (C:∀k' ds,Up k k'→SurdV k' ds (fL 13) 1→R k' (.agg ds)) :
 Cl k 203 #[.int .i64 13] R:=by
 intro k0 u0;refine bB ⟨fun _=>⟨fun _=>?_,fun h=>absurd h (by decide +kernel)⟩,fun h=>absurd h (by decide +kernel)⟩;rw [show wrap .i64 (12-(wrap .i64 (24-13)))=(1:Int) from by decide +kernel];refine zN fun k1 d1 u1 h1=>⟨d1,h1.seg,rfl,?_⟩;refine gG h1 oz fun k3 d3 u3 h3=>⟨d3,h3.seg,rfl,fun k4 u4=>?_⟩;exact C k4 d3 (((u0.trans u1).trans u3).trans u4) (h3.up u4)
theorem aSk (C:∀k' ds,Up k k'→SurdV k' ds (fL 14) 1→R k' (.agg ds)) :
 Cl k 203 #[.int .i64 14] R:=by
 intro k0 u0;refine bB ⟨fun _=>⟨fun _=>?_,fun h=>absurd h (by decide +kernel)⟩,fun h=>absurd h (by decide +kernel)⟩;rw [show wrap .i64 (12-(wrap .i64 (24-14)))=(2:Int) from by decide +kernel];refine zO fun k1 d1 u1 h1=>⟨d1,h1.seg,rfl,?_⟩;refine gG h1 oz fun k3 d3 u3 h3=>⟨d3,h3.seg,rfl,fun k4 u4=>?_⟩;exact C k4 d3 (((u0.trans u1).trans u3).trans u4) (h3.up u4)
theorem aSl (C:∀k' ds,Up k k'→SurdV k' ds (fL 15) 1→R k' (.agg ds)) :
 Cl k 203 #[.int .i64 15] R:=by
 intro k0 u0;refine bB ⟨fun _=>⟨fun _=>?_,fun h=>absurd h (by decide +kernel)⟩,fun h=>absurd h (by decide +kernel)⟩;rw [show wrap .i64 (12-(wrap .i64 (24-15)))=(3:Int) from by decide +kernel];refine zP fun k1 d1 u1 h1=>⟨d1,h1.seg,rfl,?_⟩;refine gG h1 oz fun k3 d3 u3 h3=>⟨d3,h3.seg,rfl,fun k4 u4=>?_⟩;exact C k4 d3 (((u0.trans u1).trans u3).trans u4) (h3.up u4)
theorem aSm (C:∀k' ds,Up k k'→SurdV k' ds (fL 16) 1→R k' (.agg ds)) :
 Cl k 203 #[.int .i64 16] R:=by
 intro k0 u0;refine bB ⟨fun _=>⟨fun _=>?_,fun h=>absurd h (by decide +kernel)⟩,fun h=>absurd h (by decide +kernel)⟩;rw [show wrap .i64 (12-(wrap .i64 (24-16)))=(4:Int) from by decide +kernel];refine zQ fun k1 d1 u1 h1=>⟨d1,h1.seg,rfl,?_⟩;refine gG h1 oz fun k3 d3 u3 h3=>⟨d3,h3.seg,rfl,fun k4 u4=>?_⟩;exact C k4 d3 (((u0.trans u1).trans u3).trans u4) (h3.up u4)
theorem aSn (C:∀k' ds,Up k k'→SurdV k' ds (fL 17) 1→R k' (.agg ds)) :
 Cl k 203 #[.int .i64 17] R:=by
 intro k0 u0;refine bB ⟨fun _=>⟨fun _=>?_,fun h=>absurd h (by decide +kernel)⟩,fun h=>absurd h (by decide +kernel)⟩;rw [show wrap .i64 (12-(wrap .i64 (24-17)))=(5:Int) from by decide +kernel];refine zR fun k1 d1 u1 h1=>⟨d1,h1.seg,rfl,?_⟩;refine gG h1 oz fun k3 d3 u3 h3=>⟨d3,h3.seg,rfl,fun k4 u4=>?_⟩;exact C k4 d3 (((u0.trans u1).trans u3).trans u4) (h3.up u4)
theorem aSo (C:∀k' ds,Up k k'→SurdV k' ds (fL 18) 1→R k' (.agg ds)) :
 Cl k 203 #[.int .i64 18] R:=by
 intro k0 u0;refine bB ⟨fun _=>⟨fun h=>absurd h (by decide +kernel),fun _=>⟨fun h=>absurd h (by decide +kernel),fun _=>⟨fun h=>absurd h (by decide +kernel),fun _=>⟨fun h=>absurd h (by decide +kernel),fun _=>⟨fun h=>absurd h (by decide +kernel),fun _=>⟨fun h=>absurd h (by decide +kernel),fun _=>⟨fun h=>absurd h (by decide +kernel),fun _=>?_⟩⟩⟩⟩⟩⟩⟩,fun h=>absurd h (by decide +kernel)⟩;intro k1 u1;exact C k1 _ (u0.trans u1) (SurdV.nil (jk _))
theorem aSp (C:∀k' ds,Up k k'→SurdV k' ds (fL 19) 1→R k' (.agg ds)) :
 Cl k 203 #[.int .i64 19] R:=by
 intro k0 u0;refine bB ⟨fun _=>⟨fun h=>absurd h (by decide +kernel),fun _=>⟨fun h=>absurd h (by decide +kernel),fun _=>⟨fun h=>absurd h (by decide +kernel),fun _=>⟨fun h=>absurd h (by decide +kernel),fun _=>⟨fun h=>absurd h (by decide +kernel),fun _=>⟨fun h=>absurd h (by decide +kernel),fun _=>⟨fun _=>?_,fun h=>absurd h (by decide +kernel)⟩⟩⟩⟩⟩⟩⟩,fun h=>absurd h (by decide +kernel)⟩;refine oT fun k1 d1 u1 h1=>⟨d1,h1.seg,rfl,?_⟩;refine oS fun k2 d2 u2 h2=>⟨d2,h2.seg,rfl,?_⟩;refine aDq (h1.up u2) h2 oz oz fun k3 d3 u3 h3=>⟨d3,h3.seg,rfl,fun k4 u4=>?_⟩;refine C k4 d3 ((((u0.trans u1).trans u2).trans u3).trans u4) (SurdV.cut (K:=2*1+1) (cast4 (h3.up u4) (by decide +kernel)) (by decide +kernel))
theorem aSq (C:∀k' ds,Up k k'→SurdV k' ds (fL 20) 1→R k' (.agg ds)) :
 Cl k 203 #[.int .i64 20] R:=by
 intro k0 u0;refine bB ⟨fun _=>⟨fun h=>absurd h (by decide +kernel),fun _=>⟨fun h=>absurd h (by decide +kernel),fun _=>⟨fun h=>absurd h (by decide +kernel),fun _=>⟨fun h=>absurd h (by decide +kernel),fun _=>⟨fun h=>absurd h (by decide +kernel),fun _=>⟨fun _=>?_,fun h=>absurd h (by decide +kernel)⟩⟩⟩⟩⟩⟩,fun h=>absurd h (by decide +kernel)⟩;exact aCc fun k1 d1 u1 h1=>⟨d1,h1.seg,rfl,fun k2 u2=>C k2 d1 ((u0.trans u1).trans u2) (h1.up u2)⟩
theorem aSr (C:∀k' ds,Up k k'→SurdV k' ds (fL 21) 1→R k' (.agg ds)) :
 Cl k 203 #[.int .i64 21] R:=by
 intro k0 u0;refine bB ⟨fun _=>⟨fun h=>absurd h (by decide +kernel),fun _=>⟨fun h=>absurd h (by decide +kernel),fun _=>⟨fun h=>absurd h (by decide +kernel),fun _=>⟨fun h=>absurd h (by decide +kernel),fun _=>⟨fun _=>?_,fun h=>absurd h (by decide +kernel)⟩⟩⟩⟩⟩,fun h=>absurd h (by decide +kernel)⟩;exact aCd fun k1 d1 u1 h1=>⟨d1,h1.seg,rfl,fun k2 u2=>C k2 d1 ((u0.trans u1).trans u2) (h1.up u2)⟩
theorem aSs (C:∀k' ds,Up k k'→SurdV k' ds (fL 22) 1→R k' (.agg ds)) :
 Cl k 203 #[.int .i64 22] R:=by
 intro k0 u0;refine bB ⟨fun _=>⟨fun h=>absurd h (by decide +kernel),fun _=>⟨fun h=>absurd h (by decide +kernel),fun _=>⟨fun h=>absurd h (by decide +kernel),fun _=>⟨fun _=>?_,fun h=>absurd h (by decide +kernel)⟩⟩⟩⟩,fun h=>absurd h (by decide +kernel)⟩;exact aCe fun k1 d1 u1 h1=>⟨d1,h1.seg,rfl,fun k2 u2=>C k2 d1 ((u0.trans u1).trans u2) (h1.up u2)⟩
theorem aSt (C:∀k' ds,Up k k'→SurdV k' ds (fL 23) 1→R k' (.agg ds)) :
 Cl k 203 #[.int .i64 23] R:=by
 intro k0 u0;refine bB ⟨fun _=>⟨fun h=>absurd h (by decide +kernel),fun _=>⟨fun h=>absurd h (by decide +kernel),fun _=>⟨fun _=>?_,fun h=>absurd h (by decide +kernel)⟩⟩⟩,fun h=>absurd h (by decide +kernel)⟩;refine oS fun k1 d1 u1 h1=>⟨d1,h1.seg,rfl,?_⟩;refine oT fun k2 d2 u2 h2=>⟨d2,h2.seg,rfl,?_⟩;refine mU (h1.up u2) h2 oz oz fun k3 d3 u3 h3=>⟨d3,h3.seg,rfl,fun k4 u4=>?_⟩;refine C k4 d3 ((((u0.trans u1).trans u2).trans u3).trans u4) (SurdV.cut (K:=2*1+1) (cast4 (h3.up u4) (by decide +kernel)) (by decide +kernel))
theorem aSu {n:Nat}(hn:n<24) (C:∀k' ds,Up k k'→SurdV k' ds (fL n) 1→R k' (.agg ds)) :
 Cl k 203 #[.int .i64 (n:Int)] R:=by
 match n,hn with
 | 0,_=>exact aIl C
 | 1,_=>exact zN C
 | 2,_=>exact zO C
 | 3,_=>exact zP C
 | 4,_=>exact zQ C
 | 5,_=>exact zR C
 | 6,_=>exact aWq C
 | 7,_=>exact aWr C
 | 8,_=>exact aWs C
 | 9,_=>exact aWt C
 | 10,_=>exact aSg C
 | 11,_=>exact aSh C
 | 12,_=>exact aSi C
 | 13,_=>exact aSj C
 | 14,_=>exact aSk C
 | 15,_=>exact aSl C
 | 16,_=>exact aSm C
 | 17,_=>exact aSn C
 | 18,_=>exact aSo C
 | 19,_=>exact aSp C
 | 20,_=>exact aSq C
 | 21,_=>exact aSr C
 | 22,_=>exact aSs C
 | 23,_=>exact aSt C
 | n+24,h=>exact absurd h oq
theorem aZn {n:Int}:Int.tmod (wrap .i64 ((Int.tmod n 24)+24)) 24=(plc n:Int):=by
 have h:Int.tmod n 24=n % 24∨Int.tmod n 24=n % 24-24:=by
  rw [Int.tmod_eq_emod];split
  ·left;omega
  ·right;rfl
 have hw:wrap .i64 ((Int.tmod n 24)+24)=Int.tmod n 24+24:=by rw [qt];omega
 rw [hw,Int.tmod_eq_emod_of_nonneg oq];unfold plc;omega
theorem aHt {n:Int}(C:∀k',Up k k'→R k' (.int .i64 (plc n:Int))) :
 Cl k 202 #[.int .i64 n] R:=by
 intro k0 u0;refine aPw fun k1 u1=>?_;rw [aZn];exact C k1 (u0.trans u1)
theorem aPx {m:Nat}(h:m<24):plc (wrap .i64 ((m:Int)-6))=(m+18) % 24:=by
 have hw:wrap .i64 ((m:Int)-6)=(m:Int)-6:=by rw [qt];omega
 rw [hw];unfold plc;omega
theorem aWx {n:Int}(C:∀k' ds,Up k k'→WaveV k' ds (aDb (plc n)) 1→R k' (.agg ds)) :
 Cl k 116 #[.int .i64 n] R:=by
 intro k0 u0;have hl:=aZo n;refine aSf (aHt fun k1 u1=>⟨_,rfl,?_⟩);refine aSu hl fun k2 d2 u2 h2=>⟨d2,h2.seg,rfl,?_⟩;have e:=aPx hl;refine aHt fun k3 u3=>⟨_,rfl,?_⟩;rw [e];refine aSu (qy _ oz) fun k4 d4 u4 h4=>⟨d4,h4.seg,rfl,fun k5 u5=>?_⟩;exact C k5 _ (((((u0.trans u1).trans u2).trans u3).trans u4).trans u5) ⟨d2,d4,rfl,((h2.up u3).up u4).up u5,h4.up u5⟩
end
def Bel (v:Q4) (b:Nat):Prop:=∃(y0 y1 y2 y3:Int) (m:Nat),0<m∧v=mkQ y0 y1 y2 y3 m∧y0.natAbs<b∧y1.natAbs<b∧y2.natAbs<b∧y3.natAbs<b∧m<b
section
variable {k k':World}{cs cs':Array Value}{R:World→Value→Prop}{v v':Q4}{x y:W4}{K L M b c:Nat}
theorem Bel.mono (h:Bel v b) (hb:b≤c):Bel v c:=by
 obtain⟨y0,y1,y2,y3,m,hm,e,h0,h1,h2,h3,h4⟩:=h;exact⟨y0,y1,y2,y3,m,hm,e,oq,oq,oq,oq,oq⟩
theorem IntV.lt {z:Int}(h:IntV k cs z K):z.natAbs<B64^K:=by
 obtain⟨s,A,n,c,e,h1,h2⟩:=h;refine oo (cS _) (oc aH ?_);rw [←h1.lim.len];exact h2
theorem SurdV.bel (h:SurdV k cs v K) (hK:1≤K):Bel v (B64^K):=by
 obtain⟨c0,c1,c2,c3,D,d,e,y0,y1,y2,y3,m,h1,hm,hg,hv,i0,i1,i2,i3,l,hd⟩:=h;refine⟨y0,y1,y2,y3,m,hm,hv,i0.lt,i1.lt,i2.lt,i3.lt,?_⟩
 by_cases e:m=1
 ·subst e;exact oo (show 1<B64^1 by decide) (oc aH hK)
 ·rw [oh e]at l;refine oo (cS _) (oc aH ?_);rw [←l.len];exact hd
theorem IntV.cutW {z:Int}(h:IntV k cs z K) (hz:z.natAbs<B64^L):IntV k cs z L:=by
 obtain⟨b,A,n,c,e,h1,h2⟩:=h;refine⟨b,A,n,c,e,h1,?_⟩;rw [h1.lim.len];exact aI hz
theorem iO {x y:Int}{m n:Nat}(hm:0<m) (hn:0<n) (h:mkRat x m=mkRat y n):x*n=y*m:=(Rat.mkRat_eq_iff oq oq).1 h
theorem SurdV.cutB (h:SurdV k cs v K) (hb:Bel v (B64^L)):SurdV k cs v L:=by
 obtain⟨c0,c1,c2,c3,D,d,e,y0,y1,y2,y3,m,h1,hm,hg,rfl,i0,i1,i2,i3,l,hd⟩:=h;obtain⟨z0,z1,z2,z3,n,hn,e,b0,b1,b2,b3,b4⟩:=hb;have e0:=iO hm hn (congrArg Q4.a e);have e1:=iO hm hn (congrArg Q4.b e);have e2:=iO hm hn (congrArg Q4.c e);have e3:=iO hm hn (congrArg Q4.d e);have dv:∀ {y z:Int},y*n=z*m→m ∣ n*y.natAbs:=by
  intro y z h;have:=congrArg Int.natAbs h;rw [wy,wy,zi,zi]at this;exact⟨z.natAbs,by rw [oa,this,oa]⟩
 have hmn:m ∣ n:=by
  have dm:m ∣ n*m:=Nat.dvd_mul_left m n;have:=wz (wz (wz (wz dm (dv e0)) (dv e1)) (dv e2)) (dv e3);rw [xt,xt,xt,xt]at this;unfold gcd5 at hg;rw [hg,jj]at this;exact this
 have le:∀ {y z:Int},y*n=z*m→y.natAbs≤z.natAbs:=by
  intro y z h;obtain⟨t,rfl⟩:=hmn;have:=congrArg Int.natAbs h;rw [wy,wy,zi,zi]at this;have ht:0<t:=Nat.pos_of_mul_pos_left hn |> fun _=>jr fun e=>by subst e;simp at hn
  have h3:y.natAbs*t*m=z.natAbs*m:=by rw [←this,qf,oa t]
  have h4:=Nat.eq_of_mul_eq_mul_right hm h3;have:=zm y.natAbs ht;omega
 have hmle:=Nat.le_of_dvd hn hmn;refine⟨c0,c1,c2,c3,D,d,_,y0,y1,y2,y3,m,h1,hm,hg,rfl,i0.cutW (qe (le e0) b0),i1.cutW (qe (le e1) b1),i2.cutW (qe (le e2) b2),i3.cutW (qe (le e3) b3),l,?_⟩;rw [l.len];refine aI ?_;split <;> omega
theorem cG {a b:Nat}{x y:Int}(hx:x.natAbs<a) (hy:y.natAbs<b):(x*y).natAbs<a*b:=by
 rw [wy];exact xp hx hy
theorem aUx (x0 x1 x2 x3 y0 y1 y2 y3:Int) {m n:Nat}(hm:0<m) (hn:0<n):mkQ (x0*n+y0*m) (x1*n+y1*m) (x2*n+y2*m) (x3*n+y3*m) (m*n)=(mkQ x0 x1 x2 x3 m).add (mkQ y0 y1 y2 y3 n):=by
 unfold mkQ Q4.add;simp only [tX _ _ hm hn]
theorem Bel.add (h:Bel v b) (h':Bel v' c):Bel (v.add v') (2*(b*c)):=by
 obtain⟨x0,x1,x2,x3,m,hm,rfl,a0,a1,a2,a3,a4⟩:=h;obtain⟨y0,y1,y2,y3,n,hn,rfl,b0,b1,b2,b3,b4⟩:=h';have p:∀ {x y:Int},x.natAbs<b→y.natAbs<c→(x*n+y*m).natAbs<2*(b*c):=by
  intro x y hx hy;have h1:=cG (x:=x) (y:=(n:Int)) hx (by rw [zi];exact b4);have h2:=cG (x:=y) (y:=(m:Int)) hy (by rw [zi];exact a4);rw [oa c b]at h2;have:=Int.natAbs_add_le (x*n) (y*m);omega
 have q:=xp a4 b4;exact⟨_,_,_,_,m*n,zb hm hn,(aUx _ _ _ _ _ _ _ _ hm hn).symm,p a0 b0,p a1 b1,p a2 b2,p a3 b3,oq⟩
theorem Bel.neg (h:Bel v b):Bel v.neg b:=by
 obtain⟨x0,x1,x2,x3,m,hm,rfl,a0,a1,a2,a3,a4⟩:=h;refine⟨-x0,-x1,-x2,-x3,m,hm,?_,oq,oq,oq,oq,a4⟩;unfold mkQ Q4.neg;simp only [tY]
theorem Bel.mul (h:Bel v b) (h':Bel v' c):Bel (v.mul v') (12*(b*c)):=by
 obtain⟨x0,x1,x2,x3,m,hm,rfl,a0,a1,a2,a3,a4⟩:=h;obtain⟨y0,y1,y2,y3,n,hn,rfl,b0,b1,b2,b3,b4⟩:=h';have q:=xp a4 b4;refine⟨_,_,_,_,m*n,zb hm hn,(aHo _ _ _ _ _ _ _ _ hm hn).symm,?_,?_,?_,?_,oq⟩
 ·have h1:=cG a0 b0;have h2:=cG a1 b1;have h3:=cG a2 b2;have h4:=cG a3 b3;omega
 ·have h1:=cG a0 b1;have h2:=cG a1 b0;have h3:=cG a2 b3;have h4:=cG a3 b2;omega
 ·have h1:=cG a0 b2;have h2:=cG a2 b0;have h3:=cG a1 b3;have h4:=cG a3 b1;omega
 ·have h1:=cG a0 b3;have h2:=cG a3 b0;have h3:=cG a1 b2;have h4:=cG a2 b1;omega
theorem pow3 (K L:Nat):12*(B64^K*B64^L)≤B64^(K+L+1):=by
 have e:B64^(K+L+1)=B64^K*B64^L*B64:=by rw [ql,oi]
 rw [e,oa 12];exact qu _ oz
theorem pow2 (K L:Nat):2*(B64^K*B64^L)≤B64^(K+L+1):=qb (om _ oz) (pow3 K L)
theorem aMw (hx:SurdV k cs v K) (hy:SurdV k cs' v' L) (hK1:1≤K) (hL1:1≤L) (hK:K≤100000000) (hL:L≤100000000) (C:∀k' ds,Up k k'→SurdV k' ds (v.add v') (K+L+1)→R k' (.agg ds)) :
 Cl k 36 #[.agg cs,.agg cs'] R:=
 mU (hx.mono (Nat.le_max_left K L)) (hy.mono (yk K L)) oq oq fun k' ds u h=>C k' ds u (h.cutB (((hx.bel hK1).add (hy.bel hL1)).mono (pow2 K L)))
theorem aXo (hx:SurdV k cs v K) (hy:SurdV k cs' v' L) (hK1:1≤K) (hL1:1≤L) (hK:K≤100000000) (hL:L≤100000000) (C:∀k' ds,Up k k'→SurdV k' ds (v.sub v') (K+L+1)→R k' (.agg ds)) :
 Cl k 102 #[.agg cs,.agg cs'] R:=
 aDq (hx.mono (Nat.le_max_left K L)) (hy.mono (yk K L)) oq oq fun k' ds u h=>C k' ds u (h.cutB (((hx.bel hK1).add (hy.bel hL1).neg).mono (pow2 K L)))
theorem sU (hx:SurdV k cs v K) (hy:SurdV k cs' v' L) (hK1:1≤K) (hL1:1≤L) (hK:K≤100000000) (hL:L≤100000000) (C:∀k' ds,Up k k'→SurdV k' ds (v.mul v') (K+L+1)→R k' (.agg ds)) :
 Cl k 37 #[.agg cs,.agg cs'] R:=
 aDp (hx.mono (Nat.le_max_left K L)) (hy.mono (yk K L)) oq oq fun k' ds u h=>C k' ds u (h.cutB (((hx.bel hK1).mul (hy.bel hL1)).mono (pow3 K L)))
theorem WaveV.cutB (h:WaveV k cs x K) (h0:Bel x.re (B64^L)) (h1:Bel x.im (B64^L)):WaveV k cs x L:=by
 obtain⟨c0,c1,e,a,b⟩:=h;exact⟨c0,c1,e,a.cutB h0,b.cutB h1⟩
theorem WaveV.bel (h:WaveV k cs x K) (hK:1≤K):Bel x.re (B64^K)∧Bel x.im (B64^K):=by
 obtain⟨c0,c1,e,a,b⟩:=h;exact⟨a.bel hK,b.bel hK⟩
theorem aXs (hx:WaveV k cs x K) (hy:WaveV k cs' y L) (hK1:1≤K) (hL1:1≤L) (hK:K≤30000000) (hL:L≤30000000) (C:∀k' ds,Up k k'→WaveV k' ds (x.add y) (K+L+1)→R k' (.agg ds)) :
 Cl k 187 #[.agg cs,.agg cs'] R:=
 aXr (hx.mono (Nat.le_max_left K L)) (hy.mono (yk K L)) oq oq fun k' ds u h=>C k' ds u (h.cutB (((hx.bel hK1).1.add (hy.bel hL1).1).mono (pow2 K L)) (((hx.bel hK1).2.add (hy.bel hL1).2).mono (pow2 K L)))
end
open Num Plain
namespace Q23L
theorem add_comm (a b:Q23):a+b=b+a:=by (refine Q23.ext' (Q2.ext' ?_ ?_) (Q2.ext' ?_ ?_) <;> (simp only [Q23.add_re,Q23.add_im,Q2.add_re,Q2.add_im];grind))
theorem mul_comm (a b:Q23):a*b=b*a:=by (refine Q23.ext' (Q2.ext' ?_ ?_) (Q2.ext' ?_ ?_) <;> (simp only [Q23.mul_re,Q23.mul_im,Q2.add_re,Q2.add_im,Q2.mul_re,Q2.mul_im,Q2.three_re,Q2.three_im];grind))
end Q23L
open Q23L
theorem Q4.add_comm (x y:Q4):x.add y=y.add x:=zH (by rw [sQ,sQ,Q23L.add_comm])
theorem Q4.mul_comm (x y:Q4):x.mul y=y.mul x:=zH (by rw [gS,gS,Q23L.mul_comm])
open Num Plain Q23L
noncomputable def sgd (a b:Q4):Int:=C.sg (a.sub b).toQ
def fAt (x:W4) (k:Nat):Q4:=(x.mul (aDb ((24-k) % 24))).re
noncomputable def hi (x:W4):Nat→Nat×Q4
 | 0=>(0,x.re)
 | j+1=>if 0<sgd (fAt x (j+1)) (hi x j).2 then (j+1,fAt x (j+1)) else hi x j
noncomputable def cnt (x:W4) (s:Q4) (k:Nat):Nat:=((List.range k).filter fun i=>decide (sgd (fAt x i) s=0)).length
def sg2F (a b:Rat):Int:=iI a.num.sign b.num.sign (a*a-2*(b*b)).num.sign
def sgF (v:Q4):Int:=iI (sg2F v.a v.b) (sg2F v.c v.d) (sg2F (v.a*v.a+2*(v.b*v.b)-3*(v.c*v.c+2*(v.d*v.d))) (v.a*v.b+v.b*v.a-3*(v.c*v.d+v.d*v.c)))
theorem Q4.zero_add (x:Q4):Q4.zero.add x=x:=by
 refine Q4.ext' ?_ ?_ ?_ ?_ <;> (simp only [Q4.add,Q4.zero];grind)
theorem Q4.add_zero (x:Q4):x.add Q4.zero=x:=by rw [Q4.add_comm,Q4.zero_add]
theorem Q4.zero_mul (x:Q4):Q4.zero.mul x=Q4.zero:=by
 refine Q4.ext' ?_ ?_ ?_ ?_ <;> (simp only [Q4.mul,Q4.zero];grind)
theorem Q4.one_mul (x:Q4):(Q4.real 1).mul x=x:=by
 refine Q4.ext' ?_ ?_ ?_ ?_ <;> (simp only [Q4.mul,Q4.real];grind)
theorem Q4.sub_zero (x:Q4):x.sub Q4.zero=x:=by
 refine Q4.ext' ?_ ?_ ?_ ?_ <;> (simp only [Q4.sub,Q4.add,Q4.neg,Q4.zero];grind)
theorem W4.zero_add (x:W4):W4.zero.add x=x:=W4.ext' (Q4.zero_add _) (Q4.zero_add _)
theorem W4.add_zero (x:W4):x.add W4.zero=x:=W4.ext' (Q4.add_zero _) (Q4.add_zero _)
theorem W4.zero_mul (x:W4):W4.zero.mul x=W4.zero:=by
 refine W4.ext' ?_ ?_ <;> simp only [W4.mul,W4.zero,Q4.zero_mul,Q4.sub_zero,Q4.add_zero]
def ofR (q:Q4):W4:=⟨q,Q4.zero⟩
theorem yN (q:Q4) (w:W4):(ofR q).mul w=⟨q.mul w.re,q.mul w.im⟩:=by
 refine W4.ext' ?_ ?_ <;> simp only [W4.mul,ofR,Q4.zero_mul,Q4.sub_zero,Q4.add_zero]
theorem aPj:ofR Q4.zero=W4.zero:=rfl
def pF (f:Nat→W4):Nat→W4
 | 0=>W4.zero
 | n+1=>(pF f n).add (f n)
def vB (f:Nat→Q4):Nat→Q4
 | 0=>Q4.zero
 | n+1=>(vB f n).add (f n)
theorem vC {f g:Nat→W4}:∀ {n:Nat},(∀k,k<n→f k=g k)→pF f n=pF g n
 | 0,_=>rfl
 | n+1,h=>by
  show (pF f n).add (f n)=(pF g n).add (g n);rw [vC fun k hk=>h k oq,h n oq]
theorem nP {f g:Nat→Q4}:∀ {n:Nat},(∀k,k<n→f k=g k)→vB f n=vB g n
 | 0,_=>rfl
 | n+1,h=>by
  show (vB f n).add (f n)=(vB g n).add (g n);rw [nP fun k hk=>h k oq,h n oq]
theorem aCy:∀n,pF (fun _=>W4.zero) n=W4.zero
 | 0=>rfl
 | n+1=>by show (pF _ n).add _=_;rw [aCy n,W4.add_zero]
theorem rS {f:Nat→W4}{m:Nat}:∀ {n:Nat},m<n→(∀j,j<n→j≠m→f j=W4.zero)→pF f n=f m
 | 0,h,_=>absurd h (Nat.not_lt_zero _)
 | n+1,h,hz=>by
  show (pF f n).add (f n)=f m
  by_cases e:m=n
  ·subst e;rw [vC (g:=fun _=>W4.zero) fun k hk=>hz k oq oq,aCy,W4.zero_add]
  ·rw [rS (n:=n) oq fun j hj=>hz j oq,hz n oq oq,W4.add_zero]
theorem aIg (f:Nat→W4):∀n,(pF f n).re=vB (fun k=>(f k).re) n
 | 0=>rfl
 | n+1=>by
  show ((pF f n).re).add (f n).re=(vB _ n).add (f n).re;rw [aIg f n]
def trn (k:Nat):W4:=aDb (k % 24)
def nF (f:Nat→Q4) (n:Nat):W4:=(ofR (Q4.real (1/24))).mul (pF (fun k=>(ofR (f k)).mul (trn (23*n*k))) 24)
def wt (n:Nat):Q4:=Q4.real (if n=0∨n=12 then 1 else 2)
def bCi (g:Nat→W4) (k:Nat):Q4:=vB (fun n=>(wt n).mul ((g n).mul (trn (n*k))).re) 13
def aUc (g:Nat→W4):Q4:=vB (fun n=>(wt n).mul (g n).norm) 13
theorem aEa {f g:Nat→W4}(h:∀k,k<13→f k=g k):aUc f=aUc g:=nP fun k hk=>by rw [h k hk]
def bCd (n:Nat) (w:W4) (m:Nat):W4:=if m=n then w else W4.zero
def bCm (f:Nat→Q4) (n k:Nat):Q4:=bCi (bCd n (nF f n)) k
theorem oO (f:Nat→Q4):(nF f 0).re=(Q4.real (1/24)).mul (vB f 24):=by
 unfold nF;rw [yN];show (Q4.real (1/24)).mul (pF _ 24).re=_;rw [aIg];refine congrArg (Q4.mul (Q4.real (1/24))) ?_;refine nP fun k _=>?_;rw [yN,Nat.mul_zero,je];show (f k).mul (trn 0).re=f k;have:(trn 0).re=Q4.real 1:=by decide +kernel
 rw [this,Q4.mul_comm,Q4.one_mul]
noncomputable def aZg (f:Nat→Q4):Nat→Q4
 | 0=>f 0
 | j+1=>if sgd (f (j+1)) (aZg f j)<0 then f (j+1) else aZg f j
noncomputable def aOb (f:Nat→Q4):Nat→Q4
 | 0=>f 0
 | j+1=>if 0<sgd (f (j+1)) (aOb f j) then f (j+1) else aOb f j
noncomputable def bCn (f:Nat→Q4):Q4:=(aOb f 23).sub (aZg f 23)
section
variable {k k':World}{R:World→Value→Prop}{K L:Nat}{cs cs' ds:Array Value}{f g F:Nat→Q4}{p q:Nat→W4}{x y:W4}{v v':Q4}
def RoundV (k:World) (cs:Array Value) (f:Nat→Q4) (K:Nat):Prop:=ArrV 24 9 (fun a v=>SurdV k a v K) cs f
def SpecV (k:World) (cs:Array Value) (p:Nat→W4) (K:Nat):Prop:=ArrV 13 18 (fun a w=>WaveV k a w K) cs p
theorem RoundV.up (h:RoundV k cs f K) (u:Up k k'):RoundV k' cs f K:=ArrV.mono h fun _ _ h=>h.up u
theorem RoundV.seg (h:RoundV k cs f K):Seg 216 cs:=ArrV.seg h fun _ _ h=>h.seg
theorem SpecV.up (h:SpecV k cs p K) (u:Up k k'):SpecV k' cs p K:=ArrV.mono h fun _ _ h=>h.up u
theorem SpecV.seg (h:SpecV k cs p K):Seg 234 cs:=ArrV.seg h fun _ _ h=>h.seg
theorem RoundV.zero:RoundV k (iK 24 zS) (fun _=>Q4.zero) K:=ArrV.zero (P:=fun a v=>SurdV k a v K) (z:=zS) rfl Q4.zero (SurdV.nil (jk _))
theorem SpecV.zero:SpecV k (iK 13 (zS++zS)) (fun _=>W4.zero) K:=ArrV.zero (P:=fun a w=>WaveV k a w K) (z:=zS++zS) rfl W4.zero WaveV.nil
theorem bAp (h:WaveV k cs x K) (e:x=y):WaveV k cs y K:=e▸h
theorem aBx (hx:SurdV k cs v K) (hy:WaveV k cs' y L) (hK1:1≤K) (hL1:1≤L) (hK:K≤100000000) (hL:L≤100000000) (C:∀k' ds,Up k k'→WaveV k' ds ((ofR v).mul y) (K+L+1)→R k' (.agg ds)) :
 Cl k 188 #[.agg cs,.agg cs'] R:=by
 intro k0 u0;rw [yN]at C;refine aKs hx.seg hy.seg (aGl (hy.up u0) fun k1 d1 u1 h1=>⟨d1,h1.seg,rfl,?_⟩);refine sU ((hx.up u0).up u1) h1 hK1 hL1 hK hL fun k2 d2 u2 h2=>⟨d2,h2.seg,rfl,?_⟩;refine aXa (((hy.up u0).up u1).up u2) fun k3 d3 u3 h3=>⟨d3,h3.seg,rfl,?_⟩;refine sU ((((hx.up u0).up u1).up u2).up u3) h3 hK1 hL1 hK hL fun k4 d4 u4 h4=>⟨d4,h4.seg,rfl,?_⟩;refine aPt ((h2.up u3).up u4) h4 fun k5 d5 u5 h5=>⟨d5,h5.seg,rfl,fun k6 u6=>?_⟩;exact C k6 d5 ((((((u0.trans u1).trans u2).trans u3).trans u4).trans u5).trans u6) (h5.up u6)
theorem yO {n:Int}(h0:-9223372036854775808≤n) (h1:n<9223372036854775808) (C:∀k' ds,Up k k'→SurdV k' ds (Q4.real ((1:Int) / (n:Rat))) 1→R k' (.agg ds)) :
 Cl k 101 #[.int .i64 n] R:=by
 intro k0 u0;refine aPo (aXl oz oz h0 h1 fun k1 d1 u1 q1=>⟨d1,q1.seg,_,rfl,?_⟩);refine sV (SurdV.nil (K:=1) (jk _)) q1 fun k2 d2 u2 h2=>⟨d2,h2.seg,rfl,fun k3 u3=>?_⟩;exact C k3 d2 (((u0.trans u1).trans u2).trans u3) (h2.up u3)
theorem uH {n:Int}(h0:-9223372036854775808≤n) (h1:n<9223372036854775808) (C:∀k' ds,Up k k'→SurdV k' ds (Q4.real (n:Rat)) 1→R k' (.agg ds)) :
 Cl k 99 #[.int .i64 n] R:=by
 intro k0 u0;refine aKu (xM h0 h1 fun k1 d1 u1 q1=>⟨d1,q1.seg,rfl,?_⟩);refine sV (SurdV.nil (K:=1) (jk _)) q1 fun k2 d2 u2 h2=>⟨d2,h2.seg,rfl,fun k3 u3=>?_⟩;exact C k3 d2 (((u0.trans u1).trans u2).trans u3) (h2.up u3)
theorem aVl {n j:Nat}(hn:n<13) (hj:j<24):aDb (plc (wrap .i64 (wrap .i64 (0-(n:Int))*(j:Int))))=trn (23*n*j):=by
 have hp:n*j≤12*23:=vo oq oq;have e1:wrap .i64 (0-(n:Int))=- (n:Int):=by rw [qt];omega
 have e2:-(n:Int)*(j:Int)=-((n*j:Nat):Int):=by rw [yh,vk]
 rw [e1,e2,qf];generalize n*j=t at hp;have e3:wrap .i64 (-(t:Int))=-(t:Int):=by rw [qt];omega
 rw [e3];unfold trn plc
 congr 1
 omega
theorem aPn {n:Nat}(hx:RoundV k cs f K) (hn:n<13) (hK1:1≤K) (hK:K≤100000) (C:∀k' ds,Up k k'→WaveV k' ds (nF f n) (24*K+75)→R k' (.agg ds)) :
 Cl k 103 #[.agg cs,.int .i64 (n:Int)] R:=by
 intro k0 u0;replace hx:=hx.up u0;replace C:=fun k' ds u=>C k' ds (u0.trans u);refine aKn hx.seg ⟨fun m k' vs=>∃j c,j+m=24∧vs=[.int .i64 (j:Int),.agg c]∧WaveV k' c (pF (fun i=>(ofR (f i)).mul (trn (23*n*i))) j) (1+j*(K+3)),⟨24,fun k' u=>⟨0,_,rfl,rfl,WaveV.nil⟩⟩,?_⟩;rintro m k1 vs u1 ⟨j,c,hj,rfl,hc⟩;refine⟨_,c,hc.seg,rfl,fun hlt=>?_,fun hge=>?_⟩
 ·have hlt:=lt24 hlt;refine⟨ix24 hlt,aWx fun k2 d2 u2 hT=>⟨d2,hT.seg,rfl,?_⟩⟩;rw [aVl hn hlt]at hT;have hje:=om (K+3) (xr hlt);have hjs:(j+1)*(K+3)=j*(K+3)+(K+3):=zd _ _;refine aBx (ArrV.get ((hx.up u1).up u2) hlt) hT hK1 oz oq oz fun k3 d3 u3 h3=>⟨d3,h3.seg,rfl,?_⟩;refine aXs ((hc.up u2).up u3) h3 oq oq oq oq fun k4 d4 u4 h4=>⟨d4,h4.seg,rfl,fun k5 u5=>?_⟩;exact⟨m-1,oq,j+1,d4,oq,by rw [wup oq],(h4.up u5).mono oq⟩
 ·have hge:=ge24 hge;have e:j=24:=oq
  subst e;refine yO (n:=24) oz oz fun k2 d2 u2 h2=>⟨d2,h2.seg,rfl,?_⟩;refine aBx h2 (hc.up u2) oz oq oz oq fun k3 d3 u3 h3=>⟨d3,h3.seg,rfl,fun k4 u4=>?_⟩;exact C k4 d3 (((u1.trans u2).trans u3).trans u4) ((h3.up u4).mono oq)
theorem aIr (hx:RoundV k cs f K) (hK1:1≤K) (hK:K≤100000) (C:∀k' ds,Up k k'→SpecV k' ds (nF f) (24*K+75)→R k' (.agg ds)) :
 Cl k 33 #[.agg cs] R:=by
 intro k0 u0;replace hx:=hx.up u0;replace C:=fun k' ds u=>C k' ds (u0.trans u);refine aBr hx.seg ⟨fun m k' vs=>∃j c,j+m=13∧vs=[.int .i64 (j:Int),.agg c]∧SpecV k' c (cut j (nF f) fun _=>W4.zero) (24*K+75),⟨13,fun k' u=>⟨0,_,rfl,rfl,ArrV.start SpecV.zero⟩⟩,?_⟩;rintro m k1 vs u1 ⟨j,c,hj,rfl,hc⟩;refine⟨_,c,hc.seg,rfl,fun hlt=>?_,fun hge=>?_⟩
 ·have hlt:=lt13 hlt;refine aPn (hx.up u1) hlt hK1 hK fun k2 d2 u2 h2=>⟨d2,h2.seg,rfl,ix13 hlt,fun k3 u3=>?_⟩;exact⟨m-1,oq,j+1,_,oq,by rw [wup oq],ArrV.step ((hc.up u2).up u3) hlt h2.seg.1 (h2.up u3)⟩
 ·exact fun k2 u2=>C k2 c (u1.trans u2) (ArrV.done (hc.up u2) (ge13 hge))
theorem aSc {n:Nat}(_hn:n<13) (C:∀k' ds,Up k k'→SurdV k' ds (wt n) 1→R k' (.agg ds)) :
 Cl k 113 #[.int .i64 (n:Int)] R:=by
 intro k0 u0;unfold wt at C;refine aFa ⟨fun h=>?_,fun h=>⟨fun h'=>?_,fun h'=>?_⟩⟩
 ·have h:n=0:=by have:=eq_of_beq h;omega
  rw [od (Or.inl h)]at C;exact uH oz oz fun k1 d1 u1 h1=>⟨d1,h1.seg,rfl,fun k2 u2=>C k2 d1 ((u0.trans u1).trans u2) (h1.up u2)⟩
 ·have h':n=12:=by have:=eq_of_beq h';omega
  rw [od (Or.inr h')]at C;exact uH oz oz fun k1 d1 u1 h1=>⟨d1,h1.seg,rfl,fun k2 u2=>C k2 d1 ((u0.trans u1).trans u2) (h1.up u2)⟩
 ·have h0:¬ ((n:Int)=0):=fun e=>by rw [e]at h;exact absurd h oz
  have h2:¬ ((n:Int)=12):=fun e=>by rw [e]at h';exact absurd h' oz
  rw [oh oq]at C;exact uH oz oz fun k1 d1 u1 h1=>⟨d1,h1.seg,rfl,fun k2 u2=>C k2 d1 ((u0.trans u1).trans u2) (h1.up u2)⟩
theorem aNq (hx:SpecV k cs p K) (hK1:1≤K) (hK:K≤1000000) (C:∀k' ds,Up k k'→SurdV k' ds (aUc p) (52*K+157)→R k' (.agg ds)) :
 Cl k 42 #[.agg cs] R:=by
 intro k0 u0;replace hx:=hx.up u0;replace C:=fun k' ds u=>C k' ds (u0.trans u);refine aEu hx.seg ⟨fun m k' vs=>∃j c,j+m=13∧vs=[.int .i64 (j:Int),.agg c]∧SurdV k' c (vB (fun n=>(wt n).mul (p n).norm) j) (1+j*(4*K+12)),⟨13,fun k' u=>⟨0,_,rfl,rfl,SurdV.nil (jk _)⟩⟩,?_⟩;rintro m k1 vs u1 ⟨j,c,hj,rfl,hc⟩;refine⟨_,c,hc.seg,rfl,fun hlt=>?_,fun hge=>?_⟩
 ·have hlt:=lt13 hlt;refine⟨ix13 hlt,aSc hlt fun k2 d2 u2 h2=>⟨d2,h2.seg,rfl,?_⟩⟩;have hje:=om (4*K+12) (xr hlt);have hjs:(j+1)*(4*K+12)=j*(4*K+12)+(4*K+12):=zd _ _;refine aTe (ArrV.get ((hx.up u1).up u2) hlt) hK1 oq fun k3 d3 u3 h3=>⟨d3,h3.seg,rfl,?_⟩;refine sU (h2.up u3) h3 oz oq oz oq fun k4 d4 u4 h4=>⟨d4,h4.seg,rfl,?_⟩;refine aMw (((hc.up u2).up u3).up u4) h4 oq oq oq oq fun k5 d5 u5 h5=>⟨d5,h5.seg,rfl,fun k6 u6=>?_⟩;exact⟨m-1,oq,j+1,d5,oq,by rw [wup oq],(h5.up u6).mono oq⟩
 ·have e:j=13:=by have:=ge13 hge;omega
  subst e;exact fun k2 u2=>C k2 c (u1.trans u2) ((hc.up u2).mono oq)
def trQ (f:Nat→Q4) (c i:Nat):Q4:=f ((i+(24-c)) % 24)
def miQ (f:Nat→Q4) (i:Nat):Q4:=f ((24-i) % 24)
def Mix (k:World) (cs:Array Value) (f:Nat→Q4×Nat):Prop:=ArrV 24 9 (fun a p=>SurdV k a p.1 p.2) cs f
theorem aOs (hx:RoundV k cs f K) (hK1:1≤K) (hK:K≤100000) (C:∀k' ds,Up k k'→SurdV k' ds (nF f 0).re (24*K+75)→R k' (.agg ds)) :
 Cl k 100 #[.agg cs] R:=by
 intro k0 u0;refine aPl hx.seg (aPn (n:=0) (hx.up u0) oz hK1 hK fun k1 d1 u1 h1=>⟨d1,h1.seg,rfl,?_⟩);exact aGl h1 fun k2 d2 u2 h2=>⟨d2,h2.seg,rfl,fun k3 u3=>C k3 d2 (((u0.trans u1).trans u2).trans u3) (h2.up u3)⟩
def cone (f g:Nat→Q4):Q4:=(Q4.real (1/2)).mul ((nF f 0).re.add (nF g 0).re)
def steer (f g:Nat→Q4):Q4:=(Q4.real (1/2)).mul ((nF f 0).re.sub (nF g 0).re)
theorem aWa {c0 c1 c2:Array Value}(h0:Seg 216 c0) (hx:RoundV k c1 f K) (hy:RoundV k c2 g K) (hK1:1≤K) (hK:K≤100000) (C:∀k' ds es,Up k k'→SurdV k' ds (cone f g) (48*K+153)→SurdV k' es (steer f g) (48*K+153)→R k' (.tuple #[.agg ds,.agg es])) :
 Cl k 32 #[.agg (c0.toList++(c1.toList++(c2.toList++([])))).toArray] R:=by
 intro k0 u0;replace hx:=hx.up u0;replace hy:=hy.up u0;replace C:=fun k' ds es u=>C k' ds es (u0.trans u);have e2:((1:Int):Rat) / ((2:Int):Rat)=1/2:=rfl;refine aKk h0 hx.seg hy.seg (aOs hx hK1 hK fun k1 d1 u1 h1=>⟨d1,h1.seg,rfl,?_⟩);refine aOs (hy.up u1) hK1 hK fun k2 d2 u2 h2=>⟨d2,h2.seg,rfl,?_⟩;refine yO (n:=2) oz oz fun k3 d3 u3 h3=>⟨d3,h3.seg,rfl,?_⟩;refine aMw ((h1.up u2).up u3) (h2.up u3) oq oq oq oq fun k4 d4 u4 h4=>⟨d4,h4.seg,rfl,?_⟩;refine sU (h3.up u4) h4 oz oq oz oq fun k5 d5 u5 h5=>⟨d5,h5.seg,rfl,?_⟩;refine yO (n:=2) oz oz fun k6 d6 u6 h6=>⟨d6,h6.seg,rfl,?_⟩;have u36:=(((u3.trans u4).trans u5).trans u6);refine aXo ((h1.up u2).up u36) (h2.up u36) oq oq oq oq fun k7 d7 u7 h7=>⟨d7,h7.seg,rfl,?_⟩;refine sU (h6.up u7) h7 oz oq oz oq fun k8 d8 u8 h8=>⟨d8,h8.seg,rfl,fun k9 u9=>?_⟩;exact C k9 d5 d8 ((((u1.trans u2).trans u36).trans u7).trans (u8.trans u9)) (((((h5.up u6).up u7).up u8).up u9).mono oq) ((h8.up u9).mono oq)
end
open Value (agg slice int bool tuple)
open Sy (Up Sees CallsG Seg execFn_use)
set_option maxRecDepth 100000
variable {k:World}{R:World→Value→Prop}{cs0 cs1:Array Value}
theorem aQp
 (h:Cl k 89 #[int .i64 0] fun k1 r0=>Gt 3 r0 fun cs0=>
 Cl k1 259 #[agg cs0] fun k3 r2=>Gt 24 r2 fun cs1=>
 Rt R k3 (agg cs1)) :
  CallsG Tryz.prog 168 #[] k R:=
  qX { opq:=[46,42] } [] [] [] trivial h
theorem aEh (hcs0:Seg 234 cs0) (hcs1:Seg 312 cs1)
 (h:∃I0:Nat→World→List Value→Prop,(∃m0,∀k0,Up k k0→I0 m0 k0 [int .i64 0])∧
 ∀m0 k0 vs0,Up k k0→I0 m0 k0 vs0→∃n2,some [int .i64 n2]=some vs0∧
 Br (decide ((n2:Int)<13)) ((decide ((0:Int)≤n2∧(n2:Int)<13))=true∧
 ((decide ((0:Int)≤n2∧(n2:Int)<13))=true∧
 (Cl k0 84 #[agg (Sy.pickL cs0 (Int.toNat n2*18+0) 18).toArray,agg (Sy.pickL cs1 (Int.toNat n2*24+0) 24).toArray] fun k2 r1=>Gb r1 fun b3=>
 Br (!b3) (Rt R k2 (bool false)) (∀k4,Up k2 k4→∃m,m<m0∧I0 m k4 [int .i64 (wrap .i64 (n2+1))])))) (Rt R k0 (bool true))) :
  CallsG Tryz.prog 20 #[agg cs0,agg cs1] k R:=
  qX { opq:=[39,48,37,46],loops:=[(0,[.tmp 6 false [.int .i64]])] } [.agg [.seg 0 234],.agg [.seg 1 312]] [agg cs0,agg cs1] [.seg 234,.seg 312] ⟨⟨cs0,rfl,hcs0⟩,⟨cs1,rfl,hcs1⟩,trivial⟩ h
end Go.Proofs.YtifcjpacobpdmaaGreat

namespace Go.Proofs.YtifcjpacobpdmaaGreat.W32
open Go.RowKit Num
open Sy (Up Sees CallsG Seg)
section
variable {k k':World}{cs cs' c0 c1:Array Value}{R:World→Value→Prop}{v v':Q4}{x y:W4}{K L:Nat}
end
end Go.Proofs.YtifcjpacobpdmaaGreat.W32

namespace Go.Proofs.YtifcjpacobpdmaaGreat
open Go.RowKit Num Plain W32
open Sy (Up Sees CallsG Seg)
section
variable {k k':World}{R:World→Value→Prop}{K L:Nat}{cs cs' ds:Array Value}{f g F:Nat→Q4}{p q:Nat→W4}{x y:W4}{v v':Q4}
def bBx (k:World) (cs:Array Value) (f:Nat→Q4) (K:Nat):Prop:=ArrV 24 12 (fun a v=>SQ k a v K) cs f
def SpecQ (k:World) (cs:Array Value) (p:Nat→W4) (K:Nat):Prop:=ArrV 13 24 (fun a w=>WQ k a w K) cs p
def bCo (k:World) (cs:Array Value) (f:Nat→Option (Q4×Nat)):Prop:=ArrV 24 12 (optP 12 fun a p=>SQ k a p.1 p.2) cs f
def SpecM (k:World) (cs:Array Value) (p:Nat→Option W4) (K:Nat):Prop:=ArrV 13 24 (optP 24 fun a w=>WQ k a w K) cs p
theorem SpecQ.up (h:SpecQ k cs p K) (u:Up k k'):SpecQ k' cs p K:=ArrV.mono h fun _ _ h=>h.up u
theorem SpecQ.seg (h:SpecQ k cs p K):Seg 312 cs:=ArrV.seg h fun _ _ h=>h.seg
theorem SpecM.up {p:Nat→Option W4}(h:SpecM k cs p K) (u:Up k k'):SpecM k' cs p K:=ArrV.mono h fun _ v h=>by
 cases v with
 | none=>exact h
 | some v=>exact WQ.up h u
theorem SpecM.seg {p:Nat→Option W4}(h:SpecM k cs p K):Seg 312 cs:=ArrV.seg h fun _ _ h=>optP.seg (fun _ h=>WQ.seg h) h
theorem SpecM.spec (h:SpecM k cs (fun i=>some (p i)) K):SpecQ k cs p K:=h
theorem SpecM.zero:SpecM k (iK 13 (zT++zT)) (fun _=>none) K:=ArrV.zero (P:=optP 24 fun a w=>WQ k a w K) (z:=zT++zT) rfl none ⟨rfl,by simp [zT,Value.scalar,Value.noWord]⟩
theorem aVo (C:∀k' ds,Up k k'→WQ k' ds W4.zero 2→R k' (.agg ds)) :
 Cl k 168 #[] R:=by
 intro k0 u0;refine aQp (mH (z:=0) oz oz fun k1 d1 u1 q1=>⟨d1,q1.seg,rfl,?_⟩);refine aWo q1 oz fun k2 d2 u2 h2=>⟨d2,h2.seg,rfl,fun k3 u3=>?_⟩;exact C k3 d2 (((u0.trans u1).trans u2).trans u3) (h2.up u3)
def trO (f:Nat→Q4) (K c j i:Nat):Option (Q4×Nat):=if (i+(24-c)) % 24<j then some (trQ f c i,K) else none
def miO (f:Nat→Q4) (K j i:Nat):Option (Q4×Nat):=if (24-i) % 24<j then some (miQ f i,K) else none
end
section
variable {k k':World}{R:World→Value→Prop}{K L:Nat}{cs cs' ds:Array Value}{f g F:Nat→Q4}{p q:Nat→W4}{x y:W4}{v v':Q4}
def bBt (a:Array Value) (v:Q4):Prop:=∃n0 n1 n2 n3 n4 n5 n6 n7:Int,(In64 n0∧In64 n1∧In64 n2∧In64 n3∧In64 n4∧In64 n5∧In64 n6∧In64 n7)∧a=#[.int .i64 n0,.int .i64 n1,.int .i64 n2,.int .i64 n3,.int .i64 n4,.int .i64 n5,.int .i64 n6,.int .i64 n7]∧v=⟨ofQ n0 n1,ofQ n2 n3,ofQ n4 n5,ofQ n6 n7⟩
theorem aAu (h:SurdV k ds v K):RoundV k (ds.toList++(List.replicate 23 zS).flatten).toArray (fun i=>if i=0 then v else Q4.zero) K:=by
 have h0:=ArrV.set (n:=24) (s:=9) (i:=0) (g:=fun i=>if i=0 then v else Q4.zero) (RoundV.zero (k:=k) (K:=K)) oz h.seg.1 h (fun j _ hj=>(oh hj).symm);have hl:ds.toList.length=9:=by rw [zl];exact h.seg.1
 have e:(ds.toList++(List.replicate 23 zS).flatten).toArray=Sy.over (iK 24 zS) (Int.toNat ((0:Nat):Int)*9+0) ds.toList:=by
  have z:(iK 24 zS).toList=zS++(List.replicate 23 zS).flatten:=by unfold iK;rw [show 24=23+1 from rfl,List.replicate_succ,List.flatten_cons]
  rw [←Array.toList_inj,Sy.over_eq _ _ _ (by rw [hl];have:=(RoundV.zero (k:=k) (K:=K)).seg.1;omega),hl,z,show Int.toNat ((0:Nat):Int)*9+0=0 from rfl,List.take_zero,jx,wn,List.drop_left' (show zS.length=9 from rfl)]
 rw [e];exact h0
theorem xV (n a b:Nat) (h:n=10*a+b) (ha:0<a) (ha':a<10) (hb:b<10):dec n=[UInt8.ofNat (48+a),UInt8.ofNat (48+b)]:=by
 unfold dec;rw [oh oq,fX oq,fX (n:=n/10) oq,show n/10/10=0 by omega,cU,show n/10 % 10=a by omega,show n % 10=b by omega];rfl
theorem bAu:dec 1=[49]:=by
 unfold dec;rw [oh oq,fX oq,show 1/10=0 from rfl,cU];rfl
theorem qD (q:Rat) (h:q≠0):bW (Q4.real q)=aE q:=by
 have hn:aE q≠[]:=by
  unfold aE;intro e;have e1:=List.append_eq_nil_iff.1 (List.append_eq_nil_iff.1 e).2;have:=lN (q.num.natAbs);have h2:dec q.num.natAbs≠[]:=by
   unfold dec;split
   ·simp
   ·rename_i hq;rw [fX hq];simp
  exact h2 e1.1
 have p1:aG [] q []=aE q:=by
  unfold aG;rw [oh h,oh (by simp),ju];rfl
 have p3:∀s m:List UInt8,aG s 0 m=s:=fun s m=>by
  unfold aG;rw [od rfl]
 unfold bW Q4.real;simp only [body];rw [p1,p3,p3,p3,oh hn]
theorem aIh:bW (Q4.real (1/24))=[49,47,50,52]:=by
 rw [qD _ (by decide +kernel)];unfold aE;rw [show ((1/24:Rat)).num=1 by decide +kernel,show ((1/24:Rat)).den=24 by decide +kernel,oh oz,oh oz,show (1:Int).natAbs=1 from rfl,bAu,xV 24 2 4 rfl oz oz oz];rfl
theorem aWh:bW (Q4.real 10)=[49,48]:=by
 rw [qD _ (by decide +kernel)];unfold aE;rw [show (10:Rat).num=10 from rfl,show (10:Rat).den=1 from rfl,oh oz,od rfl,show (10:Int).natAbs=10 from rfl,xV 10 1 0 rfl oz oz oz];rfl
theorem aWi:bW (Q4.real 20)=[50,48]:=by
 rw [qD _ (by decide +kernel)];unfold aE;rw [show (20:Rat).num=20 from rfl,show (20:Rat).den=1 from rfl,oh oz,od rfl,show (20:Int).natAbs=20 from rfl,xV 20 2 0 rfl oz oz oz];rfl
theorem txt {l:List UInt8}(h:bW v=l):(ByteArray.toList (str (bW v)) == ByteArray.toList ⟨l.toArray⟩)=true:=by
 rw [h];exact beq_self_eq_true _
def xI (i:Nat):Q4:=if i=0 then Q4.real 1 else Q4.zero
theorem aDc (n:Nat):nF xI n=ofR (Q4.real (1/24)):=by
 unfold nF;rw [rS (m:=0) oz fun j _ hj=>by unfold xI;rw [oh hj,aPj,W4.zero_mul]];have e:(ofR (xI 0)).mul (trn (23*n*0))=W4.real 1:=by rw [Nat.mul_zero];decide +kernel
 rw [e];decide +kernel
theorem aRs:aUc (nF xI)=Q4.real (1/24):=by
 rw [aEa (g:=fun _=>ofR (Q4.real (1/24))) fun n _=>aDc n];decide +kernel
theorem aTy:cone (fun _=>Q4.real 30) (fun _=>Q4.real (-10))=Q4.real 10:=by
 unfold cone;rw [oO,oO];decide +kernel
theorem aRk:steer (fun _=>Q4.real 30) (fun _=>Q4.real (-10))=Q4.real 20:=by
 unfold steer;rw [oO,oO];decide +kernel
theorem aOk (C:∀k',Up k k'→R k' (.bool true)):Cl k 16 #[] R:=by
 intro k0 u0;replace C:=fun k' u=>C k' (u0.trans u);refine aJo (xM (z:=1) oq oq fun k1 d1 u1 h1=>⟨d1,h1.seg,rfl,?_⟩);refine sV (SurdV.nil (K:=1) (jk _)) h1 fun k2 d2 u2 h2=>⟨d2,h2.seg,rfl,?_⟩;refine aIr (K:=1) (f:=xI) (aAu h2) oz oz fun k3 d3 u3 h3=>⟨d3,h3.seg,rfl,?_⟩;replace C:=fun k' u=>C k' (((u1.trans u2).trans u3).trans u);clear u1 u2 u3 h1 h2;refine⟨fun m k' vs=>∃j a b c,j+m=24∧vs=[.int .i64 (j:Int),.agg (a.toList++(b.toList++(c.toList++([])))).toArray]∧Seg 216 a∧RoundV k' b (cut j (fun _=>Q4.real 30) fun _=>Q4.zero) 1∧RoundV k' c (cut j (fun _=>Q4.real (-10)) fun _=>Q4.zero) 1,⟨24,fun k' u=>⟨0,iK 24 zS,iK 24 zS,iK 24 zS,rfl,rfl,(RoundV.zero (k:=k') (K:=1)).seg,ArrV.start RoundV.zero,ArrV.start RoundV.zero⟩⟩,?_⟩;rintro m k4 vs u4 ⟨j,a,b,c,hj,rfl,ha,hb,hc⟩;refine⟨_,a,ha,b,hb.seg,c,hc.seg,rfl,fun hlt=>?_,fun hge=>?_⟩
 ·have hlt:=lt24 hlt;refine⟨ix24 hlt,ix24 hlt,xM (z:=30) oq oq fun k5 d5 u5 h5=>⟨d5,h5.seg,rfl,?_⟩⟩;refine sV (ArrV.at (hb.up u5) hlt) h5 fun k6 d6 u6 h6=>⟨d6,h6.seg,rfl,ix24 hlt,?_⟩;refine xM (z:=-10) oq oq fun k7 d7 u7 h7=>⟨d7,h7.seg,rfl,?_⟩;refine sV (ArrV.at (((hc.up u5).up u6).up u7) hlt) h7 fun k8 d8 u8 h8=>⟨d8,h8.seg,rfl,ix24 hlt,fun k9 u9=>?_⟩;have u59:=(((u5.trans u6).trans u7).trans u8).trans u9;exact⟨m-1,oq,j+1,_,_,_,oq,by rw [wup oq],ha,ArrV.step (hb.up u59) hlt h6.seg.1 (((h6.up u7).up u8).up u9),ArrV.step (hc.up u59) hlt h8.seg.1 (h8.up u9)⟩
 ·have hb:RoundV k4 b (fun _=>Q4.real 30) 1:=ArrV.done hb (ge24 hge);have hc:RoundV k4 c (fun _=>Q4.real (-10)) 1:=ArrV.done hc (ge24 hge);refine aWa ha hb hc oz oz fun k5 d5 e5 u5 h5 g5=>⟨d5,h5.seg,e5,g5.seg,rfl,?_⟩;rw [aTy]at h5;rw [aRk]at g5;refine aNq ((h3.up u4).up u5) oz oz fun k6 d6 u6 h6=>⟨d6,h6.seg,rfl,?_⟩;rw [aRs]at h6;refine nR h6 oz oz fun k7 u7=>⟨_,rfl,fun _=>?_,fun h=>absurd (txt aIh) (by rw [h];decide)⟩;have h3':WaveV k7 (Sy.pickL d3 (Int.toNat 0*0+90) 18).toArray (nF xI 5) (24*1+75):=ArrV.get (i:=5) ((((h3.up u4).up u5).up u6).up u7) oz;rw [aDc]at h3';refine aGl h3' fun k8 d8 u8 h8=>⟨d8,h8.seg,rfl,?_⟩;refine nR (v:=Q4.real (1/24)) h8 oz oz fun k9 u9=>⟨_,rfl,fun _=>?_,fun h=>absurd (txt aIh) (by rw [h];decide)⟩;have u69:=((u6.trans u7).trans u8).trans u9;refine nR (h5.up u69) oz oz fun k10 u10=>⟨_,rfl,fun _=>?_,fun h=>absurd (txt aWh) (by rw [h];decide)⟩;refine nR ((g5.up u69).up u10) oz oz fun k11 u11=>⟨_,rfl,fun k12 u12=>?_⟩;have:=C k12 (((((u4.trans u5).trans u69).trans u10).trans u11).trans u12);rw [show (ByteArray.toList (str (bW (Q4.real 20))) == ByteArray.toList ⟨#[50,48]⟩)=true from txt aWi];exact this
end
section
variable {k k':World}{R:World→Value→Prop}{K L:Nat}{cs cs' cs'':Array Value}{f g h:Nat→Q4}
def okP (a b:Int):Prop:=(0≤a∧a<24)∧(0≤b∧b<24)
instance {a b:Int}:Decidable (okP a b):=by unfold okP;infer_instance
def bCl (f g h:Nat→Q4) (a b:Int) (i:Nat):Q4:=((trQ f (plc a) i).add (trQ g (plc b) i)).add (h i)
end
section
variable {k k':World}{R:World→Value→Prop}{K L:Nat}{cs cs' ds:Array Value}{f g:Nat→Q4}{p q:Nat→W4}{x y:W4}{v v':Q4}
def bCr (j:Nat) (a:Q4×Nat) (F:Nat→Option (Q4×Nat)) (i:Nat):Option (Q4×Nat):=if i=j then some a else F i
end
section
variable {k k':World}{R:World→Value→Prop}{K L:Nat}{cs cs' ds es:Array Value}{f g:Nat→Q4}{p q:Nat→W4}{x y:W4}{v v':Q4}
def bBs (a:Array Value) (w:W4):Prop:=∃n0 n1 n2 n3 n4 n5 n6 n7 n8 n9 n10 n11 n12 n13 n14 n15:Int,(In64 n0∧In64 n1∧In64 n2∧In64 n3∧In64 n4∧In64 n5∧In64 n6∧In64 n7∧In64 n8∧In64 n9∧In64 n10∧In64 n11∧In64 n12∧In64 n13∧In64 n14∧In64 n15)∧a=#[.int .i64 n0,.int .i64 n1,.int .i64 n2,.int .i64 n3,.int .i64 n4,.int .i64 n5,.int .i64 n6,.int .i64 n7,.int .i64 n8,.int .i64 n9,.int .i64 n10,.int .i64 n11,.int .i64 n12,.int .i64 n13,.int .i64 n14,.int .i64 n15]∧w=⟨⟨ofQ n0 n1,ofQ n2 n3,ofQ n4 n5,ofQ n6 n7⟩,⟨ofQ n8 n9,ofQ n10 n11,ofQ n12 n13,ofQ n14 n15⟩⟩
def bBn (p:Nat→W4) (n:Nat):W4:=if n=0∨n=12 then ofR (p n).re else p n
end
open Value (agg slice int bool tuple)
open Sy (Up Sees CallsG Seg execFn_use)
set_option maxRecDepth 100000
variable {k:World}{R:World→Value→Prop}
end Go.Proofs.YtifcjpacobpdmaaGreat

namespace Go.Proofs.YtifcjpacobpdmaaGreat
open Go.RowKit Num Plain W32
open Sy (Up Sees CallsG Seg)
section
variable {k k':World}{R:World→Value→Prop}{K L:Nat}{cs cs' ds es:Array Value}{f g:Nat→Q4}{p q:Nat→W4}{x y:W4}{v v':Q4}
end
section
variable {k k':World}{R:World→Value→Prop}{K L:Nat}{cs cs' ds es:Array Value}{f g:Nat→Q4}{p q:Nat→W4}
theorem aBc (hx:SpecV k cs p K) (hy:SpecQ k cs' q L) (e:∀i,i<13→p i=q i) (hK1:1≤K) (hK:K≤268435456) (hL:L≤10000000000) (C:∀k',Up k k'→R k' (.bool true)) :
 Cl k 20 #[.agg cs,.agg cs'] R:=by
 intro k0 u0;replace hx:=hx.up u0;replace hy:=hy.up u0;refine aEh hx.seg hy.seg ⟨fun m k' vs=>∃j,j+m=13∧vs=[.int .i64 ((j:Nat):Int)],⟨13,fun k' u=>⟨0,rfl,rfl⟩⟩,?_⟩;rintro m k1 vs u1 ⟨j,hj,rfl⟩;refine⟨_,rfl,fun hlt=>?_,fun hge=>fun k2 u2=>C k2 ((u0.trans u1).trans u2)⟩;have hlt:=lt13 hlt;refine⟨ix13 hlt,ix13 hlt,?_⟩;refine aOi (bAp (ArrV.get (hx.up u1) hlt) (e j hlt)) hK1 hK (ArrV.get (hy.up u1) hlt) hL fun k2 u2=>⟨_,rfl,fun h=>(nomatch h),fun _ k3 u3=>?_⟩
 exact⟨m-1,oq,j+1,oq,by rw [wup oq]⟩
end
