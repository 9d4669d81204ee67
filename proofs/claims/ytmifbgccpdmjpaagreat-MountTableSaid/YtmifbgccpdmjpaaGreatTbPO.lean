/- Several texts in one. (Printed by prep.py.) -/
import Derived.Test.YtmifbgccpdmjpaaGreatTbLW
namespace Go.Proofs.YtmifbgccpdmjpaaGreat
open Num Plain
namespace Q23L
theorem add_comm (a b:Q23):a+b=b+a:=by (refine Q23.ext' (Q2.ext' ?_ ?_) (Q2.ext' ?_ ?_) <;> (simp only [Q23.add_re,Q23.add_im,Q2.add_re,Q2.add_im];grind))
theorem add_assoc (a b c:Q23):a+b+c=a+(b+c):=by (refine Q23.ext' (Q2.ext' ?_ ?_) (Q2.ext' ?_ ?_) <;> (simp only [Q23.add_re,Q23.add_im,Q2.add_re,Q2.add_im];grind))
theorem mul_assoc (a b c:Q23):a*b*c=a*(b*c):=by (refine Q23.ext' (Q2.ext' ?_ ?_) (Q2.ext' ?_ ?_) <;> (simp only [Q23.mul_re,Q23.mul_im,Q2.add_re,Q2.add_im,Q2.mul_re,Q2.mul_im,Q2.three_re,Q2.three_im];grind))
theorem add_mul (a b c:Q23):(a+b)*c=a*c+b*c:=by (refine Q23.ext' (Q2.ext' ?_ ?_) (Q2.ext' ?_ ?_) <;> (simp only [Q23.add_re,Q23.add_im,Q23.mul_re,Q23.mul_im,Q2.add_re,Q2.add_im,Q2.mul_re,Q2.mul_im,Q2.three_re,Q2.three_im];grind))
theorem mul_add (a b c:Q23):a*(b+c)=a*b+a*c:=by (refine Q23.ext' (Q2.ext' ?_ ?_) (Q2.ext' ?_ ?_) <;> (simp only [Q23.add_re,Q23.add_im,Q23.mul_re,Q23.mul_im,Q2.add_re,Q2.add_im,Q2.mul_re,Q2.mul_im,Q2.three_re,Q2.three_im];grind))
theorem lE (a b:Q23):a-b=a+-b:=by (refine Q23.ext' (Q2.ext' ?_ ?_) (Q2.ext' ?_ ?_) <;> (simp only [Q23.add_re,Q23.add_im,Q23.neg_re,Q23.neg_im,Q23.sub_re,Q23.sub_im,Q2.add_re,Q2.add_im,Q2.neg_re,Q2.neg_im,Q2.sub_re,Q2.sub_im];grind))
theorem aUp (a b:Q23):-(a+b)=-a+-b:=by (refine Q23.ext' (Q2.ext' ?_ ?_) (Q2.ext' ?_ ?_) <;> (simp only [Q23.add_re,Q23.add_im,Q23.neg_re,Q23.neg_im,Q2.add_re,Q2.add_im,Q2.neg_re,Q2.neg_im];grind))
theorem neg_mul (a b:Q23):-a*b=-(a*b):=by (refine Q23.ext' (Q2.ext' ?_ ?_) (Q2.ext' ?_ ?_) <;> (simp only [Q23.mul_re,Q23.mul_im,Q23.neg_re,Q23.neg_im,Q2.add_re,Q2.add_im,Q2.mul_re,Q2.mul_im,Q2.neg_re,Q2.neg_im,Q2.three_re,Q2.three_im];grind))
theorem mul_neg (a b:Q23):a*-b=-(a*b):=by (refine Q23.ext' (Q2.ext' ?_ ?_) (Q2.ext' ?_ ?_) <;> (simp only [Q23.mul_re,Q23.mul_im,Q23.neg_re,Q23.neg_im,Q2.add_re,Q2.add_im,Q2.mul_re,Q2.mul_im,Q2.neg_re,Q2.neg_im,Q2.three_re,Q2.three_im];grind))
theorem aLe (a b c:Q23):a+(b+c)=b+(a+c):=by (refine Q23.ext' (Q2.ext' ?_ ?_) (Q2.ext' ?_ ?_) <;> (simp only [Q23.add_re,Q23.add_im,Q2.add_re,Q2.add_im];grind))
end Q23L
open Q23L
theorem W4.mul_assoc (x y z:W4):(x.mul y).mul z=x.mul (y.mul z):=by
 refine W4.ext' (lW ?_) (lW ?_)
 ·simp only [W4.mul,lX,eO,oM,Q23L.lE,Q23L.add_mul,Q23L.mul_add,Q23L.neg_mul,Q23L.mul_neg,Q23L.aUp,Q23L.mul_assoc,Q23L.add_assoc];simp only [Q23L.add_assoc,Q23L.add_comm]
 ·simp only [W4.mul,lX,eO,oM,Q23L.lE,Q23L.add_mul,Q23L.mul_add,Q23L.neg_mul,Q23L.mul_neg,Q23L.mul_assoc,Q23L.add_assoc];simp only [Q23L.add_assoc,Q23L.add_comm,Q23L.aLe]
noncomputable def sgd (a b:Q4):Int:=C.sg (a.sub b).toQ
theorem aBn {a b:Q4}:sgd a b=0↔a=b:=by
 unfold sgd;rw [C.aDy];constructor
 ·intro h;exact Q4.sub_zero_iff.1 (lW (h.trans toQ_zero.symm))
 ·intro h;rw [Q4.sub_zero_iff.2 h,toQ_zero]
theorem oH (a:Q4):sgd a a=0:=aBn.2 rfl
theorem xY (a b:Q4):sgd b a=- sgd a b:=by
 unfold sgd;rw [←C.aBm,lX,lX]
 congr 1
 generalize a.toQ=p;generalize b.toQ=q
 (refine Q23.ext' (Q2.ext' ?_ ?_) (Q2.ext' ?_ ?_) <;> (simp only [Q23.neg_re,Q23.neg_im,Q23.sub_re,Q23.sub_im,Q2.neg_re,Q2.neg_im,Q2.sub_re,Q2.sub_im];grind))
theorem wC {a b c:Q4}(h:sgd a b≤0) (h':sgd b c≤0):sgd a c≤0:=by
 unfold sgd at *
 rw [lX]at *
 exact C.ord6 h h'
theorem aDz {a b c:Q4}(h:sgd a b≤0) (h':sgd b c<0):sgd a c<0:=by
 have h1:=wC h (Int.le_of_lt h');have hne:sgd a c≠0:=fun e=>by
  have:=aBn.1 e;subst this;rw [xY]at h';omega
 omega
theorem wH:oN 0=W4.real 1:=by decide +kernel
theorem W4.mul_one (x:W4):x.mul (W4.real 1)=x:=by
 refine W4.ext' (lW ?_) (lW ?_)
 ·show ((x.re.mul (Q4.real 1)).sub (x.im.mul Q4.zero)).toQ=_;rw [lX,eO,eO,toQ_zero,show (Q4.real 1).toQ=1 from rfl];generalize x.re.toQ=p;generalize x.im.toQ=q
  (refine Q23.ext' (Q2.ext' ?_ ?_) (Q2.ext' ?_ ?_) <;> (simp only [Q23.mul_re,Q23.mul_im,Q23.sub_re,Q23.sub_im,Q23.one_re,Q23.one_im,Q23.zero_re,Q23.zero_im,Q2.add_re,Q2.add_im,Q2.mul_re,Q2.mul_im,Q2.sub_re,Q2.sub_im,Q2.one_re,Q2.one_im,Q2.zero_re,Q2.zero_im,Q2.three_re,Q2.three_im];grind))
 ·show ((x.re.mul Q4.zero).add (x.im.mul (Q4.real 1))).toQ=_;rw [oM,eO,eO,toQ_zero,show (Q4.real 1).toQ=1 from rfl];generalize x.re.toQ=p;generalize x.im.toQ=q
  (refine Q23.ext' (Q2.ext' ?_ ?_) (Q2.ext' ?_ ?_) <;> (simp only [Q23.add_re,Q23.add_im,Q23.mul_re,Q23.mul_im,Q23.one_re,Q23.one_im,Q23.zero_re,Q23.zero_im,Q2.add_re,Q2.add_im,Q2.mul_re,Q2.mul_im,Q2.one_re,Q2.one_im,Q2.zero_re,Q2.zero_im,Q2.three_re,Q2.three_im];grind))
def fAt (x:W4) (k:Nat):Q4:=(x.mul (oN ((24-k) % 24))).re
theorem zQ (x:W4):fAt x 0=x.re:=by
 unfold fAt;rw [show (24-0) % 24=0 from rfl,wH,W4.mul_one]
noncomputable def hi (x:W4):Nat→Nat×Q4
 | 0=>(0,x.re)
 | j+1=>if 0<sgd (fAt x (j+1)) (hi x j).2 then (j+1,fAt x (j+1)) else hi x j
theorem aFj (x:W4) (j:Nat):(hi x j).1≤j∧(hi x j).2=fAt x (hi x j).1∧(∀i,i≤j→sgd (fAt x i) (hi x j).2≤0)∧∀i,i<(hi x j).1→sgd (fAt x i) (hi x j).2<0:=by
 induction j with
 | zero=>
  refine⟨oy _,(zQ x).symm,fun i hi=>?_,fun i hi=>absurd hi (yw _)⟩;have:i=0:=oq
  subst this;rw [zQ];show sgd x.re x.re≤0;rw [oH];decide
 | succ j ih=>
  obtain⟨h1,h2,h3,h4⟩:=ih
  by_cases hc:0<sgd (fAt x (j+1)) (hi x j).2
  ·have e:hi x (j+1)=(j+1,fAt x (j+1)):=by show (if _ then _ else _)=_;rw [od hc]
   rw [e];have hb:sgd (hi x j).2 (fAt x (j+1))<0:=by rw [xY];omega
   have hs:∀i,i≤j→sgd (fAt x i) (fAt x (j+1))<0:=fun i hi=>aDz (h3 i hi) hb;refine⟨oy _,rfl,fun i hi=>?_,fun i hi=>hs i (by have:i<j+1:=hi;omega)⟩
   by_cases e2:i=j+1
   ·subst e2;show sgd (fAt x (j+1)) (fAt x (j+1))≤0;rw [oH];decide
   ·exact Int.le_of_lt (hs i oq)
  ·have e:hi x (j+1)=hi x j:=by show (if _ then _ else _)=_;rw [oh hc]
   rw [e];refine⟨oq,h2,fun i hi=>?_,h4⟩
   by_cases e2:i=j+1
   ·subst e2;omega
   ·exact h3 i oq
noncomputable def cnt (x:W4) (s:Q4) (k:Nat):Nat:=((List.range k).filter fun i=>decide (sgd (fAt x i) s=0)).length
def sg2F (a b:Rat):Int:=cQ a.num.sign b.num.sign (a*a-2*(b*b)).num.sign
theorem aDw (a b:Rat):B.sg (⟨a,b⟩:Q2)=sg2F a b:=by rw [←aQm,tU,tU,tU];rfl
def sgF (v:Q4):Int:=cQ (sg2F v.a v.b) (sg2F v.c v.d) (sg2F (v.a*v.a+2*(v.b*v.b)-3*(v.c*v.c+2*(v.d*v.d))) (v.a*v.b+v.b*v.a-3*(v.c*v.d+v.d*v.c)))
theorem aZz (v:Q4):C.sg v.toQ=sgF v:=by
 show C.sg (⟨⟨v.a,v.b⟩,⟨v.c,v.d⟩⟩:Q23)=_;rw [←xX,aDw,aDw];unfold sgF;rw [←aDw (v.a*v.a+2*(v.b*v.b)-3*(v.c*v.c+2*(v.d*v.d)))]
 congr 1
 congr 1
 refine Q2.ext' ?_ ?_ <;> (simp only [Q2.mul_re,Q2.mul_im,Q2.sub_re,Q2.sub_im,Q2.three_re,Q2.three_im];grind)
def ofR (q:Q4):W4:=⟨q,Q4.zero⟩
def bCh (f:Nat→W4):Nat→W4
 | 0=>W4.zero
 | n+1=>(bCh f n).add (f n)
def bAf (f:Nat→Q4):Nat→Q4
 | 0=>Q4.zero
 | n+1=>(bAf f n).add (f n)
def trn (k:Nat):W4:=oN (k % 24)
def bDa (f:Nat→Q4) (n:Nat):W4:=(ofR (Q4.real (1/24))).mul (bCh (fun k=>(ofR (f k)).mul (trn (23*n*k))) 24)
def wt (n:Nat):Q4:=Q4.real (if n=0∨n=12 then 1 else 2)
def bDj (g:Nat→W4) (k:Nat):Q4:=bAf (fun n=>(wt n).mul ((g n).mul (trn (n*k))).re) 13
def bDr (g:Nat→W4):Q4:=bAf (fun n=>(wt n).mul (g n).norm) 13
def bCz (n:Nat) (w:W4) (m:Nat):W4:=if m=n then w else W4.zero
def bDp (f:Nat→Q4) (n k:Nat):Q4:=bDj (bCz n (bDa f n)) k
noncomputable def aYz (f:Nat→Q4):Nat→Q4
 | 0=>f 0
 | j+1=>if sgd (f (j+1)) (aYz f j)<0 then f (j+1) else aYz f j
noncomputable def aMg (f:Nat→Q4):Nat→Q4
 | 0=>f 0
 | j+1=>if 0<sgd (f (j+1)) (aMg f j) then f (j+1) else aMg f j
noncomputable def bDq (f:Nat→Q4):Q4:=(aMg f 23).sub (aYz f 23)
open Go.RowKit
open Sy (Seg)
def zS:List Value:=[.bool false,.slice none 0 0,.bool false,.slice none 0 0,.bool false,.slice none 0 0,.bool false,.slice none 0 0,.slice none 0 0]
def zT:List Value:=[.bool false,.slice none 0 0,.slice none 0 0,.bool false,.slice none 0 0,.slice none 0 0,.bool false,.slice none 0 0,.slice none 0 0,.bool false,.slice none 0 0,.slice none 0 0]
def aWv (n:Nat) (z:List Value):Array Value:=(List.replicate n z).flatten.toArray
def elt (cs:Array Value) (s i:Nat):Array Value:=(Sy.pickL cs (i*s+0) s).toArray
structure Arr (n s:Nat) (E:Nat→Array Value→Prop) (cs:Array Value):Prop where
 size:cs.size=n*s
 el:∀i,i<n→E i (elt cs s i)
section
variable {n s i:Nat}{E E':Nat→Array Value→Prop}{cs ys:Array Value}
theorem aAs:∀(l:List Value) (cs:Array Value) (o q:Nat),o+l.length≤cs.size→(Sy.over cs o l)[q]?=if o≤q∧q<o+l.length then l[q-o]? else cs[q]?:=by
 intro l cs o q h;rw [←qc,Sy.over_eq l cs o h,←qc];have hl:cs.toList.length=cs.size:=zb;simp only [jb,og,xx,zd,vm,hl];have e:min o cs.size=o:=oq
 rw [e]
 by_cases h1:q<o
 ·rw [od oq,od h1,od h1,oh oq]
 ·by_cases h2:q<o+l.length
  ·rw [od h2,oh h1,od ⟨oq,h2⟩]
  ·rw [oh h2,oh oq]
   congr 1
   omega
theorem fW (cs:Array Value) (s i q:Nat) (hq:q<s) (hs:(i+1)*s≤cs.size):(elt cs s i)[q]?=cs[i*s+q]?:=by
 have hm:(i+1)*s=i*s+s:=zp _ _;unfold elt Sy.pickL;rw [←qc,jl,vp hq,jv];simp only [jm];rw [oo oq];rfl
theorem kK (cs:Array Value) (s i:Nat):(elt cs s i).size=s:=by simp [elt,Sy.pickL]
theorem lL {a:Array Value}(ha:a.size=s) (h:∀q,q<s→(elt cs s i)[q]?=a[q]?):elt cs s i=a:=by
 apply jo;intro q
 by_cases hq:q<s
 ·exact h q hq
 ·rw [jq (by rw [kK];omega),jq oq]
theorem aLw {j:Nat}(hs:cs.size=n*s) (hi:i<n) (hj:j<n) (hy:ys.size=s):elt (Sy.over cs (i*s+0) ys.toList) s j=if j=i then ys else elt cs s j:=by
 have h1:(i+1)*s≤n*s:=oi s hi;have h2:(j+1)*s≤n*s:=oi s hj;have h3:(i+1)*s=i*s+s:=zp _ _;have h4:(j+1)*s=j*s+s:=zp _ _;have hl:ys.toList.length=s:=by simpa using hy
 by_cases e:j=i
 ·subst e;rw [od rfl];refine lL hy fun q hq=>?_;rw [fW _ _ _ _ hq (by rw [Sy.over_size];omega),aAs _ _ _ _ oq,od ⟨oq,oq⟩];rw [←qc]
  congr 1
  omega
 ·rw [oh e];refine lL (kK _ _ _) fun q hq=>?_;rw [fW _ _ _ _ hq (by rw [Sy.over_size];omega),aAs _ _ _ _ oq,fW _ _ _ _ hq oq,oh];rintro⟨a,b⟩;rcases Nat.lt_or_gt_of_ne e with e|e
  ·have:=oi s e;have h5:(j.succ)*s=j*s+s:=zp _ _;omega
  ·have:=oi s e;have h5:(i.succ)*s=i*s+s:=zp _ _;omega
theorem Arr.mono (h:Arr n s E cs) (hE:∀i a,i<n→E i a→E' i a):Arr n s E' cs:=⟨h.size,fun i hi=>hE i _ hi (h.el i hi)⟩
theorem Arr.set (h:Arr n s E cs) (hi:i<n) (hy:ys.size=s) (h1:E' i ys) (h2:∀j a,j<n→j≠i→E j a→E' j a):Arr n s E' (Sy.over cs (Int.toNat (i:Int)*s+0) ys.toList):=by
 refine⟨by rw [Sy.over_size];exact h.size,fun j hj=>?_⟩;show E' j (elt (Sy.over cs (i*s+0) ys.toList) s j);rw [aLw h.size hi hj hy];split
 ·rename_i e;subst e;exact h1
 ·rename_i e;exact h2 j _ hj e (h.el j hj)
theorem Arr.seg (h:Arr n s E cs) (hE:∀i a,i<n→E i a→Seg s a):Seg (n*s) cs:=by
 refine⟨h.size,fun u hu=>?_⟩;obtain⟨p,hp,rfl⟩:=List.getElem_of_mem hu;have hp':p<n*s:=by rw [←h.size];simpa using hp
 have hs:0<s:=jr fun e=>by subst e;omega
 have hi:p/s<n:=(qp hs).2 hp';have hsg:=hE _ _ hi (h.el _ hi);have hq:=qg p hs;have hd:=jd p s;have e:(elt cs s (p/s))[p % s]?=cs[p]?:=by
  have h1:(p/s+1)*s≤n*s:=oi s hi;rw [fW _ _ _ _ hq (by rw [h.size];exact h1)]
  congr 1
  rw [qx];exact hd
 have hc:cs[p]?=some cs.toList[p]:=by rw [←qc];exact qi hp
 refine hsg.2 _ ?_;rw [hc,←qc]at e;exact za e
theorem Arr.rep {a:Array Value}(n:Nat) (ha:a.size=s) (h:∀i,i<n→E i a):Arr n s E (List.replicate n a.toList).flatten.toArray:=by
 have hl:∀m,(List.replicate m a.toList).flatten.length=m*s:=fun m=>by
  induction m with
  | zero=>simp
  | succ m ih=>rw [List.replicate_succ,List.flatten_cons,og,ih,zb,ha,zp,vg]
 have hg:∀m i q,i<m→q<s→(List.replicate m a.toList).flatten[i*s+q]?=a[q]?:=by
  intro m
  induction m with
  | zero=>intro i q hi;omega
  | succ m ih=>
   intro i q hi hq;rw [List.replicate_succ,List.flatten_cons,jb,zb,ha];cases i with
   | zero=>rw [od oq,xg,qt,qc]
   | succ i=>
    have h3:(i+1)*s=i*s+s:=zp _ _;rw [oh oq];have:=ih i q oq hq;rw [←this]
    congr 1
    omega
 refine⟨by simpa using hl n,fun i hi=>?_⟩;have e:elt (List.replicate n a.toList).flatten.toArray s i=a:=by
  refine lL ha fun q hq=>?_;have h1:(i+1)*s≤n*s:=oi s hi;rw [fW _ _ _ _ hq (by simpa [hl] using h1)];have:=hg n i q hi hq;rw [←qc];exact this
 rw [e];exact h i hi
end
def ArrV {α:Type}(n s:Nat) (P:Array Value→α→Prop) (cs:Array Value) (f:Nat→α):Prop:=Arr n s (fun i a=>P a (f i)) cs
def cut {α:Type}(j:Nat) (F G:Nat→α) (i:Nat):α:=if i<j then F i else G i
section
variable {α:Type}{n s i j:Nat}{P Q:Array Value→α→Prop}{cs ys:Array Value}{f g F G:Nat→α}
theorem ArrV.mono (h:ArrV n s P cs f) (hP:∀a v,P a v→Q a v):ArrV n s Q cs f:=Arr.mono h fun _ _ _=>hP _ _
theorem ArrV.congr (h:ArrV n s P cs f) (e:∀i,i<n→f i=g i):ArrV n s P cs g:=Arr.mono h fun i _ hi h=>by rw [←e i hi];exact h
theorem ArrV.seg (h:ArrV n s P cs f) (hP:∀a v,P a v→Seg s a):Seg (n*s) cs:=Arr.seg h fun _ _ _=>hP _ _
theorem ArrV.set (h:ArrV n s P cs f) (hi:i<n) (hs:ys.size=s) (hy:P ys (g i)) (e:∀j,j<n→j≠i→f j=g j):ArrV n s P (Sy.over cs (Int.toNat (i:Int)*s+0) ys.toList) g:=
 Arr.set h hi hs hy fun j _ hj hne h=>by rw [←e j hj hne];exact h
theorem ArrV.step (h:ArrV n s P cs (cut j F G)) (hj:j<n) (hs:ys.size=s) (hy:P ys (F j)):ArrV n s P (Sy.over cs (Int.toNat (j:Int)*s+0) ys.toList) (cut (j+1) F G):=
 ArrV.set h hj hs (by unfold cut;rw [od (wh j)];exact hy) fun i _ hne=>by
  unfold cut
  by_cases c:i<j
  ·rw [od c,od oq]
  ·rw [oh c,oh oq]
theorem ArrV.start (h:ArrV n s P cs G):ArrV n s P cs (cut 0 F G):=h.congr fun _ _=>(oh (yw _)).symm
theorem ArrV.done (h:ArrV n s P cs (cut j F G)) (hj:n≤j):ArrV n s P cs F:=h.congr fun _ hi=>od oq
theorem ArrV.zero {z:List Value}(hz:z.length=s) (v:α) (h:P z.toArray v):ArrV n s P (aWv n z) fun _=>v:=Arr.rep (a:=z.toArray) n (by simpa using hz) fun _ _=>h
def optP (s:Nat) (P:Array Value→α→Prop) (a:Array Value):Option α→Prop
 | none=>Seg s a
 | some v=>P a v
theorem ArrV.all (h:ArrV n s (optP s P) cs fun i=>some (f i)):ArrV n s P cs f:=h
theorem optP.seg {a:Array Value}{v:Option α}(hP:∀v,P a v→Seg s a) (h:optP s P a v):Seg s a:=by
 cases v with
 | none=>exact h
 | some v=>exact hP v h
end
open Sy (Seg Up RowAt ReadAt ReadIn cellAt flat RowC)
section
variable {α:Type}{k k':World}{A:Option Addr}{n s i j m p:Nat}{P Q:Array Value→α→Prop}{xs cs:Array Value}{f g:Nat→α}{x:Value}
def InAt (k:World) (A:Option Addr) (xs:Array Value):Prop:=∀(p:Nat) u,xs[p]?=some u→∃b o,A=some ⟨b,o,none⟩∧b<k.heap.size∧k.cell? ⟨b,o+p,none⟩=some u
theorem InAt.up (h:InAt k A xs) (u:Up k k'):InAt k' A xs:=fun p v hp=>by
 obtain⟨b,o,e,hb,hc⟩:=h p v hp;exact⟨b,o,e,qu hb u.size,u.cell hc⟩
theorem InAt.of (h:RowAt k A xs):InAt k A xs:=fun p v hp=>by
 obtain⟨b,e,hb,hc⟩:=h p v hp;exact⟨b,0,e,hb,by rw [qt];exact hc⟩
theorem zU {u:Value}(h:u.scalar=true):flat (some u)=some u:=by
 cases u <;> first|rfl|cases h
theorem InAt.at (h:InAt k A xs) (hc:RowC xs) {u:Value}(hx:xs[p]?=some u):cellAt k.cell? A p=some u:=by
 obtain⟨b,o,rfl,_,hb⟩:=h _ _ hx;show flat (k.cell? ⟨b,o+p,none⟩)=some u;rw [hb];exact zU (hc u (za (by rw [qc];exact hx))).1
theorem InAt.read (h:InAt k A xs) (hc:RowC xs) (hm:x.cells.size=m) (hq:∀(q:Nat) u,x.cells[q]?=some u→xs[p+q]?=some u):ReadAt k.cell? A p m x:=
 ⟨hm,fun q u hu=>h.at hc (hq q u hu)⟩
def Els (k:World) (A:Option Addr) (n s:Nat) (P:Array Value→α→Prop) (f:Nat→α):Prop:=∃xs,InAt k A xs∧RowC xs∧ArrV n s P xs f
theorem Els.up (h:Els k A n s P f) (u:Up k k'):Els k' A n s P f:=by
 obtain⟨xs,h1,h2,h3⟩:=h;exact⟨xs,h1.up u,h2,h3⟩
theorem Els.mono (h:Els k A n s P f) (hP:∀a v,P a v→Q a v):Els k A n s Q f:=by
 obtain⟨xs,h1,h2,h3⟩:=h;exact⟨xs,h1,h2,h3.mono hP⟩
theorem ArrV.el (h:ArrV n s P xs f) (hi:i<n):∃a:Array Value,a.size=s∧P a (f i)∧∀(q:Nat) u,a[q]?=some u→xs[i*s+q]?=some u:=by
 refine⟨elt xs s i,kK _ _ _,Arr.el h i hi,fun q u hu=>?_⟩;have hq:q<s:=by have:=(qs.1 hu).1;rwa [kK]at this
 rw [←hu,fW _ _ _ _ hq (by rw [h.size];exact oi s hi)]
theorem Els.el (h:Els k A n s P f) (hi:i<n) (hs:0<s):∃a:Array Value,a.size=s∧P a (f i)∧(∃b o,A=some ⟨b,o,none⟩)∧
 ∀k',Up k k'→∀(j m:Nat) x,x.cells.size=m→(∀(q:Nat) u,x.cells[q]?=some u→a[j+q]?=some u)→ReadAt k'.cell? A (Int.toNat (i:Int)*s+j) m x:=by
 obtain⟨xs,h1,hc,h2⟩:=h;obtain⟨a,ha,hp,hx⟩:=h2.el hi;refine⟨a,ha,hp,?_,fun k' u j m x hm hq=>(h1.up u).read hc hm fun q v hv=>?_⟩
 ·obtain⟨b,o,e,_⟩:=h1 (i*s+0) a[0] (hx 0 _ (oo oq));exact⟨b,o,e⟩
 ·rw [wy];exact hx _ _ (hq q v hv)
theorem ArrV.rowC (h:ArrV n s P xs f) (hP:∀a v,P a v→Seg s a):RowC xs:=(ArrV.seg h hP).2
theorem ArrV.els (h:ArrV n s P xs f) (hP:∀a v,P a v→Seg s a) (hr:RowAt k A xs):Els k A n s P f:=⟨xs,.of hr,h.rowC hP,h⟩
theorem ArrV.push {a:Array Value}(h:ArrV n s P xs f) (ha:a.size=s) (hp:P a (f n)):ArrV (n+1) s P (xs++a.toList.toArray) f:=by
 have hz:=h.size;have h3:(n+1)*s=n*s+s:=zp _ _;refine⟨by simp [hz,ha,h3],fun i hi=>?_⟩;have h4:(i+1)*s≤(n+1)*s:=Nat.mul_le_mul_right s hi;have hsz:(xs++a.toList.toArray).size=(n+1)*s:=by simp [hz,ha,h3]
 by_cases e:i=n
 ·subst e;have:elt (xs++a.toList.toArray) s i=a:=lL ha fun q hq=>by
   rw [fW _ _ _ _ hq (by rw [hsz];exact h4),Array.getElem?_append_right oq];rw [hz,Nat.add_sub_cancel_left]
  show P (elt _ s i) (f i);rw [this];exact hp
 ·have hlt:i<n:=oq
  have h5:(i+1)*s≤n*s:=oi s hlt;have h6:(i+1)*s=i*s+s:=zp _ _;have:elt (xs++a.toList.toArray) s i=elt xs s i:=lL (kK _ _ _) fun q hq=>by
   rw [fW _ _ _ _ hq (by rw [hsz];exact h4),fW _ _ _ _ hq oq,kf oq]
  show P (elt _ s i) (f i);rw [this];exact Arr.el h i hlt
theorem ArrV.empty:ArrV 0 s P #[] f:=⟨by simp,fun i hi=>absurd hi (yw _)⟩
theorem aIa (z:List Value):∀n,madeCells z.toArray (n*z.length)=aWv n z:=by
 intro n
 by_cases hz:z.length=0
 ·have:z=[]:=xd hz;subst this;apply jo;intro i;simp [madeCells,aWv]
 apply jo;intro i;have hl:∀m,(List.replicate m z).flatten.length=m*z.length:=fun m=>by simp
 have hg:∀m i,i<m*z.length→(List.replicate m z).flatten[i]?=z[i % z.length]?:=by
  intro m
  induction m with
  | zero=>intro i hi;omega
  | succ m ih=>
   intro i hi;rw [List.replicate_succ,List.flatten_cons,jb]
   by_cases h:i<z.length
   ·rw [od h,qz h]
   ·rw [oh h,ih _ (by rw [zp]at hi;omega),←Nat.mod_eq_sub_mod oq]
 unfold aWv;have e:((List.replicate n z).flatten.toArray)[i]?=(List.replicate n z).flatten[i]?:=kn ..;rw [e]
 by_cases hi:i<n*z.length
 ·rw [hg n i hi];have:i % z.length<z.length:=qg _ oq;simp [madeCells,hi,this]
 ·rw [ot (by rw [hl];omega),jq (by simp [madeCells];omega)]
theorem ArrV.made {z:List Value}(hz:z.length=s) (v:α) (h:P z.toArray v):ArrV n s P (madeCells z.toArray (n*s)) fun _=>v:=by
 subst hz;rw [aIa];exact ArrV.zero rfl v h
end
open IntKind (wrap)
open Value (agg slice int bool tuple)
open Sy (Up Sees CallsG Seg execFn_use)
set_option maxRecDepth 100000
variable {k:World}{R:World→Value→Prop}{n0:Int}
theorem aNu 
 (h:Rt R k (int .i64 (Int.tmod (wrap .i64 ((Int.tmod n0 24)+24)) 24))) :
 CallsG Tryz.prog 285 #[int .i64 n0] k R:=
 qY { opq:=[] } h
theorem aRs 
 (h:Cl k 285 #[int .i64 n0] fun k1 r0=>Gi r0 fun n1=>
 Cl k1 286 #[int .i64 n1] fun k3 r2=>Gt 9 r2 fun cs2=>
 Cl k3 285 #[int .i64 (wrap .i64 (n1-6))] fun k5 r4=>Gi r4 fun n3=>
 Cl k5 286 #[int .i64 n3] fun k7 r6=>Gt 9 r6 fun cs4=>
 Rt R k7 (agg (cs2.toList++(cs4.toList++([]))).toArray)) :
  CallsG Tryz.prog 177 #[int .i64 n0] k R:=
  qY { opq:=[36] } h
theorem bP 
 (h:Br (decide ((n0:Int) > 12)) (Br (decide (((wrap .i64 (24-n0)):Int) > 6)) (Cl k 286 #[int .i64 (wrap .i64 (12-(wrap .i64 (24-n0))))] fun k1 r0=>Gt 9 r0 fun cs1=>
 Cl k1 225 #[agg cs1] fun k3 r2=>Gt 9 r2 fun cs2=>
 Rt R k3 (agg cs2)) (Br (((wrap .i64 (24-n0)):Int) == 0) (Cl k 169 #[int .i64 1] fun k6 r5=>Gt 2 r5 fun cs1=>
 Rt R k6 (agg (cs1.toList++((bool false) :: ((slice none 0 0) :: ((bool false) :: ((slice none 0 0) :: ((bool false) :: ((slice none 0 0) :: ((slice none 0 0) :: ([]))))))))).toArray)) (Br (((wrap .i64 (24-n0)):Int) == 1) (Cl k 363 #[int .i64 1,int .u64 4] fun k9 r8=>Gt 9 r8 fun cs1=>
 Cl k9 363 #[int .i64 3,int .u64 4] fun k11 r10=>Gt 9 r10 fun cs2=>
 Cl k11 74 #[agg cs1,agg cs2] fun k13 r12=>Gt 9 r12 fun cs3=>
 Rt R k13 (agg cs3)) (Br (((wrap .i64 (24-n0)):Int) == 2) (Cl k 363 #[int .i64 2,int .u64 2] fun k16 r15=>Gt 9 r15 fun cs1=>
 Rt R k16 (agg cs1)) (Br (((wrap .i64 (24-n0)):Int) == 3) (Cl k 363 #[int .i64 1,int .u64 2] fun k19 r18=>Gt 9 r18 fun cs1=>
 Rt R k19 (agg cs1)) (Br (((wrap .i64 (24-n0)):Int) == 4) (Cl k 363 #[int .i64 0,int .u64 2] fun k22 r21=>Gt 9 r21 fun cs1=>
 Rt R k22 (agg cs1)) (Br (((wrap .i64 (24-n0)):Int) == 5) (Cl k 363 #[int .i64 3,int .u64 4] fun k25 r24=>Gt 9 r24 fun cs1=>
 Cl k25 363 #[int .i64 1,int .u64 4] fun k27 r26=>Gt 9 r26 fun cs2=>
 Cl k27 113 #[agg cs1,agg cs2] fun k29 r28=>Gt 9 r28 fun cs3=>
 Rt R k29 (agg cs3)) (Rt R k (agg #[bool false,slice none 0 0,bool false,slice none 0 0,bool false,slice none 0 0,bool false,slice none 0 0,slice none 0 0]))))))))) (Br (decide ((n0:Int) > 6)) (Cl k 286 #[int .i64 (wrap .i64 (12-n0))] fun k33 r32=>Gt 9 r32 fun cs1=>
 Cl k33 225 #[agg cs1] fun k35 r34=>Gt 9 r34 fun cs2=>
 Rt R k35 (agg cs2)) (Br ((n0:Int) == 0) (Cl k 169 #[int .i64 1] fun k38 r37=>Gt 2 r37 fun cs1=>
 Rt R k38 (agg (cs1.toList++((bool false) :: ((slice none 0 0) :: ((bool false) :: ((slice none 0 0) :: ((bool false) :: ((slice none 0 0) :: ((slice none 0 0) :: ([]))))))))).toArray)) (Br ((n0:Int) == 1) (Cl k 363 #[int .i64 1,int .u64 4] fun k41 r40=>Gt 9 r40 fun cs1=>
 Cl k41 363 #[int .i64 3,int .u64 4] fun k43 r42=>Gt 9 r42 fun cs2=>
 Cl k43 74 #[agg cs1,agg cs2] fun k45 r44=>Gt 9 r44 fun cs3=>
 Rt R k45 (agg cs3)) (Br ((n0:Int) == 2) (Cl k 363 #[int .i64 2,int .u64 2] fun k48 r47=>Gt 9 r47 fun cs1=>
 Rt R k48 (agg cs1)) (Br ((n0:Int) == 3) (Cl k 363 #[int .i64 1,int .u64 2] fun k51 r50=>Gt 9 r50 fun cs1=>
 Rt R k51 (agg cs1)) (Br ((n0:Int) == 4) (Cl k 363 #[int .i64 0,int .u64 2] fun k54 r53=>Gt 9 r53 fun cs1=>
 Rt R k54 (agg cs1)) (Br ((n0:Int) == 5) (Cl k 363 #[int .i64 3,int .u64 4] fun k57 r56=>Gt 9 r56 fun cs1=>
 Cl k57 363 #[int .i64 1,int .u64 4] fun k59 r58=>Gt 9 r58 fun cs2=>
 Cl k59 113 #[agg cs1,agg cs2] fun k61 r60=>Gt 9 r60 fun cs3=>
 Rt R k61 (agg cs3)) (Rt R k (agg #[bool false,slice none 0 0,bool false,slice none 0 0,bool false,slice none 0 0,bool false,slice none 0 0,slice none 0 0])))))))))) :
  CallsG Tryz.prog 286 #[int .i64 n0] k R:=
  qY { opq:=[36,33] } h
theorem aOl 
 (h:Cl k 192 #[int .i64 (Int.tmod (wrap .i64 ((Int.tmod n0 24)+24)) 24)] fun k1 r0=>Gt 12 r0 fun cs1=>
 Cl k1 192 #[int .i64 (Int.tmod (wrap .i64 ((Int.tmod (wrap .i64 ((Int.tmod n0 24)+24)) 24)+18)) 24)] fun k3 r2=>Gt 12 r2 fun cs2=>
 Rt R k3 (agg (cs1.toList++(cs2.toList++([]))).toArray)) :
  CallsG Tryz.prog 84 #[int .i64 n0] k R:=
  qY { opq:=[51] } h
theorem aOm
 (h:Cl k 197 #[int .i64 4,int .i64 4] fun k1 r0=>∃cs0,Seg 3 cs0∧∃n1,some (tuple #[agg cs0,int .i64 n1])=some r0∧
 Cl k1 197 #[int .i64 0,int .i64 4] fun k3 r2=>∃cs2,Seg 3 cs2∧∃n3,some (tuple #[agg cs2,int .i64 n3])=some r2∧
 Cl k3 197 #[int .i64 0,int .i64 4] fun k5 r4=>∃cs4,Seg 3 cs4∧∃n5,some (tuple #[agg cs4,int .i64 n5])=some r4∧
 Cl k5 197 #[int .i64 0,int .i64 4] fun k7 r6=>∃cs6,Seg 3 cs6∧∃n7,some (tuple #[agg cs6,int .i64 n7])=some r6∧
 Rt R k7 (Rg cs0 cs2 cs4 cs6)) :
  CallsG Tryz.prog 192 #[int .i64 0] k R:=
  Sy.execFn_use_heap (cfg:={ opq:=[49] }) (args:=[.one (.lit (.int .i64 (0)))]) (vals:=[]) (kinds:=[]) (blks:=[]) (heap:=[]) ox trivial ox trivial ox h
theorem aOx
 (h:Cl k 197 #[int .i64 0,int .i64 4] fun k1 r0=>∃cs0,Seg 3 cs0∧∃n1,some (tuple #[agg cs0,int .i64 n1])=some r0∧
 Cl k1 197 #[int .i64 1,int .i64 4] fun k3 r2=>∃cs2,Seg 3 cs2∧∃n3,some (tuple #[agg cs2,int .i64 n3])=some r2∧
 Cl k3 197 #[int .i64 0,int .i64 4] fun k5 r4=>∃cs4,Seg 3 cs4∧∃n5,some (tuple #[agg cs4,int .i64 n5])=some r4∧
 Cl k5 197 #[int .i64 1,int .i64 4] fun k7 r6=>∃cs6,Seg 3 cs6∧∃n7,some (tuple #[agg cs6,int .i64 n7])=some r6∧
 Rt R k7 (Rg cs0 cs2 cs4 cs6)) :
  CallsG Tryz.prog 192 #[int .i64 1] k R:=
  Sy.execFn_use_heap (cfg:={ opq:=[49] }) (args:=[.one (.lit (.int .i64 (1)))]) (vals:=[]) (kinds:=[]) (blks:=[]) (heap:=[]) ox trivial ox trivial ox h
theorem aPc
 (h:Cl k 197 #[int .i64 0,int .i64 4] fun k1 r0=>∃cs0,Seg 3 cs0∧∃n1,some (tuple #[agg cs0,int .i64 n1])=some r0∧
 Cl k1 197 #[int .i64 0,int .i64 4] fun k3 r2=>∃cs2,Seg 3 cs2∧∃n3,some (tuple #[agg cs2,int .i64 n3])=some r2∧
 Cl k3 197 #[int .i64 2,int .i64 4] fun k5 r4=>∃cs4,Seg 3 cs4∧∃n5,some (tuple #[agg cs4,int .i64 n5])=some r4∧
 Cl k5 197 #[int .i64 0,int .i64 4] fun k7 r6=>∃cs6,Seg 3 cs6∧∃n7,some (tuple #[agg cs6,int .i64 n7])=some r6∧
 Rt R k7 (Rg cs0 cs2 cs4 cs6)) :
  CallsG Tryz.prog 192 #[int .i64 2] k R:=
  Sy.execFn_use_heap (cfg:={ opq:=[49] }) (args:=[.one (.lit (.int .i64 (2)))]) (vals:=[]) (kinds:=[]) (blks:=[]) (heap:=[]) ox trivial ox trivial ox h
theorem aPd
 (h:Cl k 197 #[int .i64 0,int .i64 4] fun k1 r0=>∃cs0,Seg 3 cs0∧∃n1,some (tuple #[agg cs0,int .i64 n1])=some r0∧
 Cl k1 197 #[int .i64 2,int .i64 4] fun k3 r2=>∃cs2,Seg 3 cs2∧∃n3,some (tuple #[agg cs2,int .i64 n3])=some r2∧
 Cl k3 197 #[int .i64 0,int .i64 4] fun k5 r4=>∃cs4,Seg 3 cs4∧∃n5,some (tuple #[agg cs4,int .i64 n5])=some r4∧
 Cl k5 197 #[int .i64 0,int .i64 4] fun k7 r6=>∃cs6,Seg 3 cs6∧∃n7,some (tuple #[agg cs6,int .i64 n7])=some r6∧
 Rt R k7 (Rg cs0 cs2 cs4 cs6)) :
  CallsG Tryz.prog 192 #[int .i64 3] k R:=
  Sy.execFn_use_heap (cfg:={ opq:=[49] }) (args:=[.one (.lit (.int .i64 (3)))]) (vals:=[]) (kinds:=[]) (blks:=[]) (heap:=[]) ox trivial ox trivial ox h
theorem aPe
 (h:Cl k 197 #[int .i64 2,int .i64 4] fun k1 r0=>∃cs0,Seg 3 cs0∧∃n1,some (tuple #[agg cs0,int .i64 n1])=some r0∧
 Cl k1 197 #[int .i64 0,int .i64 4] fun k3 r2=>∃cs2,Seg 3 cs2∧∃n3,some (tuple #[agg cs2,int .i64 n3])=some r2∧
 Cl k3 197 #[int .i64 0,int .i64 4] fun k5 r4=>∃cs4,Seg 3 cs4∧∃n5,some (tuple #[agg cs4,int .i64 n5])=some r4∧
 Cl k5 197 #[int .i64 0,int .i64 4] fun k7 r6=>∃cs6,Seg 3 cs6∧∃n7,some (tuple #[agg cs6,int .i64 n7])=some r6∧
 Rt R k7 (Rg cs0 cs2 cs4 cs6)) :
  CallsG Tryz.prog 192 #[int .i64 4] k R:=
  Sy.execFn_use_heap (cfg:={ opq:=[49] }) (args:=[.one (.lit (.int .i64 (4)))]) (vals:=[]) (kinds:=[]) (blks:=[]) (heap:=[]) ox trivial ox trivial ox h
theorem aPf
 (h:Cl k 197 #[int .i64 0,int .i64 4] fun k1 r0=>∃cs0,Seg 3 cs0∧∃n1,some (tuple #[agg cs0,int .i64 n1])=some r0∧
 Cl k1 197 #[int .i64 (-1),int .i64 4] fun k3 r2=>∃cs2,Seg 3 cs2∧∃n3,some (tuple #[agg cs2,int .i64 n3])=some r2∧
 Cl k3 197 #[int .i64 0,int .i64 4] fun k5 r4=>∃cs4,Seg 3 cs4∧∃n5,some (tuple #[agg cs4,int .i64 n5])=some r4∧
 Cl k5 197 #[int .i64 1,int .i64 4] fun k7 r6=>∃cs6,Seg 3 cs6∧∃n7,some (tuple #[agg cs6,int .i64 n7])=some r6∧
 Rt R k7 (Rg cs0 cs2 cs4 cs6)) :
  CallsG Tryz.prog 192 #[int .i64 5] k R:=
  Sy.execFn_use_heap (cfg:={ opq:=[49] }) (args:=[.one (.lit (.int .i64 (5)))]) (vals:=[]) (kinds:=[]) (blks:=[]) (heap:=[]) ox trivial ox trivial ox h
theorem aPg
 (h:Cl k 197 #[int .i64 0,int .i64 4] fun k1 r0=>∃cs0,Seg 3 cs0∧∃n1,some (tuple #[agg cs0,int .i64 n1])=some r0∧
 Cl k1 197 #[int .i64 0,int .i64 4] fun k3 r2=>∃cs2,Seg 3 cs2∧∃n3,some (tuple #[agg cs2,int .i64 n3])=some r2∧
 Cl k3 197 #[int .i64 0,int .i64 4] fun k5 r4=>∃cs4,Seg 3 cs4∧∃n5,some (tuple #[agg cs4,int .i64 n5])=some r4∧
 Cl k5 197 #[int .i64 0,int .i64 4] fun k7 r6=>∃cs6,Seg 3 cs6∧∃n7,some (tuple #[agg cs6,int .i64 n7])=some r6∧
 Rt R k7 (Rg cs0 cs2 cs4 cs6)) :
  CallsG Tryz.prog 192 #[int .i64 6] k R:=
  Sy.execFn_use_heap (cfg:={ opq:=[49] }) (args:=[.one (.lit (.int .i64 (6)))]) (vals:=[]) (kinds:=[]) (blks:=[]) (heap:=[]) ox trivial ox trivial ox h
theorem aPh
 (h:Cl k 192 #[int .i64 5] fun k1 r0=>∃cs0,Seg 3 cs0∧∃cs1,Seg 3 cs1∧∃cs2,Seg 3 cs2∧∃cs3,Seg 3 cs3∧some (Rg cs0 cs1 cs2 cs3)=some r0∧
 Cl k1 297 #[Rg cs0 cs1 cs2 cs3] fun k3 r2=>∃cs4,Seg 3 cs4∧∃cs5,Seg 3 cs5∧∃cs6,Seg 3 cs6∧∃cs7,Seg 3 cs7∧some (Rg cs4 cs5 cs6 cs7)=some r2∧
 Rt R k3 (Rg cs4 cs5 cs6 cs7)) :
  CallsG Tryz.prog 192 #[int .i64 7] k R:=
  Sy.execFn_use_heap (cfg:={ opq:=[49] }) (args:=[.one (.lit (.int .i64 (7)))]) (vals:=[]) (kinds:=[]) (blks:=[]) (heap:=[]) ox trivial ox trivial ox h
theorem aPi
 (h:Cl k 192 #[int .i64 4] fun k1 r0=>∃cs0,Seg 3 cs0∧∃cs1,Seg 3 cs1∧∃cs2,Seg 3 cs2∧∃cs3,Seg 3 cs3∧some (Rg cs0 cs1 cs2 cs3)=some r0∧
 Cl k1 297 #[Rg cs0 cs1 cs2 cs3] fun k3 r2=>∃cs4,Seg 3 cs4∧∃cs5,Seg 3 cs5∧∃cs6,Seg 3 cs6∧∃cs7,Seg 3 cs7∧some (Rg cs4 cs5 cs6 cs7)=some r2∧
 Rt R k3 (Rg cs4 cs5 cs6 cs7)) :
  CallsG Tryz.prog 192 #[int .i64 8] k R:=
  Sy.execFn_use_heap (cfg:={ opq:=[49] }) (args:=[.one (.lit (.int .i64 (8)))]) (vals:=[]) (kinds:=[]) (blks:=[]) (heap:=[]) ox trivial ox trivial ox h
theorem aPj
 (h:Cl k 192 #[int .i64 3] fun k1 r0=>∃cs0,Seg 3 cs0∧∃cs1,Seg 3 cs1∧∃cs2,Seg 3 cs2∧∃cs3,Seg 3 cs3∧some (Rg cs0 cs1 cs2 cs3)=some r0∧
 Cl k1 297 #[Rg cs0 cs1 cs2 cs3] fun k3 r2=>∃cs4,Seg 3 cs4∧∃cs5,Seg 3 cs5∧∃cs6,Seg 3 cs6∧∃cs7,Seg 3 cs7∧some (Rg cs4 cs5 cs6 cs7)=some r2∧
 Rt R k3 (Rg cs4 cs5 cs6 cs7)) :
  CallsG Tryz.prog 192 #[int .i64 9] k R:=
  Sy.execFn_use_heap (cfg:={ opq:=[49] }) (args:=[.one (.lit (.int .i64 (9)))]) (vals:=[]) (kinds:=[]) (blks:=[]) (heap:=[]) ox trivial ox trivial ox h
theorem aJg
 (h:Cl k 192 #[int .i64 2] fun k1 r0=>∃cs0,Seg 3 cs0∧∃cs1,Seg 3 cs1∧∃cs2,Seg 3 cs2∧∃cs3,Seg 3 cs3∧some (Rg cs0 cs1 cs2 cs3)=some r0∧
 Cl k1 297 #[Rg cs0 cs1 cs2 cs3] fun k3 r2=>∃cs4,Seg 3 cs4∧∃cs5,Seg 3 cs5∧∃cs6,Seg 3 cs6∧∃cs7,Seg 3 cs7∧some (Rg cs4 cs5 cs6 cs7)=some r2∧
 Rt R k3 (Rg cs4 cs5 cs6 cs7)) :
  CallsG Tryz.prog 192 #[int .i64 10] k R:=
  Sy.execFn_use_heap (cfg:={ opq:=[49] }) (args:=[.one (.lit (.int .i64 (10)))]) (vals:=[]) (kinds:=[]) (blks:=[]) (heap:=[]) ox trivial ox trivial ox h
theorem aJh
 (h:Cl k 192 #[int .i64 1] fun k1 r0=>∃cs0,Seg 3 cs0∧∃cs1,Seg 3 cs1∧∃cs2,Seg 3 cs2∧∃cs3,Seg 3 cs3∧some (Rg cs0 cs1 cs2 cs3)=some r0∧
 Cl k1 297 #[Rg cs0 cs1 cs2 cs3] fun k3 r2=>∃cs4,Seg 3 cs4∧∃cs5,Seg 3 cs5∧∃cs6,Seg 3 cs6∧∃cs7,Seg 3 cs7∧some (Rg cs4 cs5 cs6 cs7)=some r2∧
 Rt R k3 (Rg cs4 cs5 cs6 cs7)) :
  CallsG Tryz.prog 192 #[int .i64 11] k R:=
  Sy.execFn_use_heap (cfg:={ opq:=[49] }) (args:=[.one (.lit (.int .i64 (11)))]) (vals:=[]) (kinds:=[]) (blks:=[]) (heap:=[]) ox trivial ox trivial ox h
theorem aJi
 (h:Cl k 192 #[int .i64 0] fun k1 r0=>∃cs0,Seg 3 cs0∧∃cs1,Seg 3 cs1∧∃cs2,Seg 3 cs2∧∃cs3,Seg 3 cs3∧some (Rg cs0 cs1 cs2 cs3)=some r0∧
 Cl k1 297 #[Rg cs0 cs1 cs2 cs3] fun k3 r2=>∃cs4,Seg 3 cs4∧∃cs5,Seg 3 cs5∧∃cs6,Seg 3 cs6∧∃cs7,Seg 3 cs7∧some (Rg cs4 cs5 cs6 cs7)=some r2∧
 Rt R k3 (Rg cs4 cs5 cs6 cs7)) :
  CallsG Tryz.prog 192 #[int .i64 12] k R:=
  Sy.execFn_use_heap (cfg:={ opq:=[49] }) (args:=[.one (.lit (.int .i64 (12)))]) (vals:=[]) (kinds:=[]) (blks:=[]) (heap:=[]) ox trivial ox trivial ox h
theorem aJj
 (h:Cl k 192 #[int .i64 1] fun k1 r0=>∃cs0,Seg 3 cs0∧∃cs1,Seg 3 cs1∧∃cs2,Seg 3 cs2∧∃cs3,Seg 3 cs3∧some (Rg cs0 cs1 cs2 cs3)=some r0∧
 Cl k1 297 #[Rg cs0 cs1 cs2 cs3] fun k3 r2=>∃cs4,Seg 3 cs4∧∃cs5,Seg 3 cs5∧∃cs6,Seg 3 cs6∧∃cs7,Seg 3 cs7∧some (Rg cs4 cs5 cs6 cs7)=some r2∧
 Rt R k3 (Rg cs4 cs5 cs6 cs7)) :
  CallsG Tryz.prog 192 #[int .i64 13] k R:=
  Sy.execFn_use_heap (cfg:={ opq:=[49] }) (args:=[.one (.lit (.int .i64 (13)))]) (vals:=[]) (kinds:=[]) (blks:=[]) (heap:=[]) ox trivial ox trivial ox h
theorem aJk
 (h:Cl k 192 #[int .i64 2] fun k1 r0=>∃cs0,Seg 3 cs0∧∃cs1,Seg 3 cs1∧∃cs2,Seg 3 cs2∧∃cs3,Seg 3 cs3∧some (Rg cs0 cs1 cs2 cs3)=some r0∧
 Cl k1 297 #[Rg cs0 cs1 cs2 cs3] fun k3 r2=>∃cs4,Seg 3 cs4∧∃cs5,Seg 3 cs5∧∃cs6,Seg 3 cs6∧∃cs7,Seg 3 cs7∧some (Rg cs4 cs5 cs6 cs7)=some r2∧
 Rt R k3 (Rg cs4 cs5 cs6 cs7)) :
  CallsG Tryz.prog 192 #[int .i64 14] k R:=
  Sy.execFn_use_heap (cfg:={ opq:=[49] }) (args:=[.one (.lit (.int .i64 (14)))]) (vals:=[]) (kinds:=[]) (blks:=[]) (heap:=[]) ox trivial ox trivial ox h
theorem aJl
 (h:Cl k 192 #[int .i64 3] fun k1 r0=>∃cs0,Seg 3 cs0∧∃cs1,Seg 3 cs1∧∃cs2,Seg 3 cs2∧∃cs3,Seg 3 cs3∧some (Rg cs0 cs1 cs2 cs3)=some r0∧
 Cl k1 297 #[Rg cs0 cs1 cs2 cs3] fun k3 r2=>∃cs4,Seg 3 cs4∧∃cs5,Seg 3 cs5∧∃cs6,Seg 3 cs6∧∃cs7,Seg 3 cs7∧some (Rg cs4 cs5 cs6 cs7)=some r2∧
 Rt R k3 (Rg cs4 cs5 cs6 cs7)) :
  CallsG Tryz.prog 192 #[int .i64 15] k R:=
  Sy.execFn_use_heap (cfg:={ opq:=[49] }) (args:=[.one (.lit (.int .i64 (15)))]) (vals:=[]) (kinds:=[]) (blks:=[]) (heap:=[]) ox trivial ox trivial ox h
theorem aJm
 (h:Cl k 192 #[int .i64 4] fun k1 r0=>∃cs0,Seg 3 cs0∧∃cs1,Seg 3 cs1∧∃cs2,Seg 3 cs2∧∃cs3,Seg 3 cs3∧some (Rg cs0 cs1 cs2 cs3)=some r0∧
 Cl k1 297 #[Rg cs0 cs1 cs2 cs3] fun k3 r2=>∃cs4,Seg 3 cs4∧∃cs5,Seg 3 cs5∧∃cs6,Seg 3 cs6∧∃cs7,Seg 3 cs7∧some (Rg cs4 cs5 cs6 cs7)=some r2∧
 Rt R k3 (Rg cs4 cs5 cs6 cs7)) :
  CallsG Tryz.prog 192 #[int .i64 16] k R:=
  Sy.execFn_use_heap (cfg:={ opq:=[49] }) (args:=[.one (.lit (.int .i64 (16)))]) (vals:=[]) (kinds:=[]) (blks:=[]) (heap:=[]) ox trivial ox trivial ox h
theorem aJn
 (h:Cl k 192 #[int .i64 5] fun k1 r0=>∃cs0,Seg 3 cs0∧∃cs1,Seg 3 cs1∧∃cs2,Seg 3 cs2∧∃cs3,Seg 3 cs3∧some (Rg cs0 cs1 cs2 cs3)=some r0∧
 Cl k1 297 #[Rg cs0 cs1 cs2 cs3] fun k3 r2=>∃cs4,Seg 3 cs4∧∃cs5,Seg 3 cs5∧∃cs6,Seg 3 cs6∧∃cs7,Seg 3 cs7∧some (Rg cs4 cs5 cs6 cs7)=some r2∧
 Rt R k3 (Rg cs4 cs5 cs6 cs7)) :
  CallsG Tryz.prog 192 #[int .i64 17] k R:=
  Sy.execFn_use_heap (cfg:={ opq:=[49] }) (args:=[.one (.lit (.int .i64 (17)))]) (vals:=[]) (kinds:=[]) (blks:=[]) (heap:=[]) ox trivial ox trivial ox h
theorem aJo
 (h:Cl k 197 #[int .i64 0,int .i64 4] fun k1 r0=>∃cs0,Seg 3 cs0∧∃n1,some (tuple #[agg cs0,int .i64 n1])=some r0∧
 Cl k1 197 #[int .i64 0,int .i64 4] fun k3 r2=>∃cs2,Seg 3 cs2∧∃n3,some (tuple #[agg cs2,int .i64 n3])=some r2∧
 Cl k3 197 #[int .i64 0,int .i64 4] fun k5 r4=>∃cs4,Seg 3 cs4∧∃n5,some (tuple #[agg cs4,int .i64 n5])=some r4∧
 Cl k5 197 #[int .i64 0,int .i64 4] fun k7 r6=>∃cs6,Seg 3 cs6∧∃n7,some (tuple #[agg cs6,int .i64 n7])=some r6∧
 Rt R k7 (Rg cs0 cs2 cs4 cs6)) :
  CallsG Tryz.prog 192 #[int .i64 18] k R:=
  Sy.execFn_use_heap (cfg:={ opq:=[49] }) (args:=[.one (.lit (.int .i64 (18)))]) (vals:=[]) (kinds:=[]) (blks:=[]) (heap:=[]) ox trivial ox trivial ox h
theorem aJp
 (h:Cl k 197 #[int .i64 0,int .i64 4] fun k1 r0=>∃cs0,Seg 3 cs0∧∃n1,some (tuple #[agg cs0,int .i64 n1])=some r0∧
 Cl k1 197 #[int .i64 (-1),int .i64 4] fun k3 r2=>∃cs2,Seg 3 cs2∧∃n3,some (tuple #[agg cs2,int .i64 n3])=some r2∧
 Cl k3 197 #[int .i64 0,int .i64 4] fun k5 r4=>∃cs4,Seg 3 cs4∧∃n5,some (tuple #[agg cs4,int .i64 n5])=some r4∧
 Cl k5 197 #[int .i64 1,int .i64 4] fun k7 r6=>∃cs6,Seg 3 cs6∧∃n7,some (tuple #[agg cs6,int .i64 n7])=some r6∧
 Rt R k7 (Rg cs0 cs2 cs4 cs6)) :
  CallsG Tryz.prog 192 #[int .i64 19] k R:=
  Sy.execFn_use_heap (cfg:={ opq:=[49] }) (args:=[.one (.lit (.int .i64 (19)))]) (vals:=[]) (kinds:=[]) (blks:=[]) (heap:=[]) ox trivial ox trivial ox h
theorem aJq
 (h:Cl k 197 #[int .i64 2,int .i64 4] fun k1 r0=>∃cs0,Seg 3 cs0∧∃n1,some (tuple #[agg cs0,int .i64 n1])=some r0∧
 Cl k1 197 #[int .i64 0,int .i64 4] fun k3 r2=>∃cs2,Seg 3 cs2∧∃n3,some (tuple #[agg cs2,int .i64 n3])=some r2∧
 Cl k3 197 #[int .i64 0,int .i64 4] fun k5 r4=>∃cs4,Seg 3 cs4∧∃n5,some (tuple #[agg cs4,int .i64 n5])=some r4∧
 Cl k5 197 #[int .i64 0,int .i64 4] fun k7 r6=>∃cs6,Seg 3 cs6∧∃n7,some (tuple #[agg cs6,int .i64 n7])=some r6∧
 Rt R k7 (Rg cs0 cs2 cs4 cs6)) :
  CallsG Tryz.prog 192 #[int .i64 20] k R:=
  Sy.execFn_use_heap (cfg:={ opq:=[49] }) (args:=[.one (.lit (.int .i64 (20)))]) (vals:=[]) (kinds:=[]) (blks:=[]) (heap:=[]) ox trivial ox trivial ox h
theorem aJr
 (h:Cl k 197 #[int .i64 0,int .i64 4] fun k1 r0=>∃cs0,Seg 3 cs0∧∃n1,some (tuple #[agg cs0,int .i64 n1])=some r0∧
 Cl k1 197 #[int .i64 2,int .i64 4] fun k3 r2=>∃cs2,Seg 3 cs2∧∃n3,some (tuple #[agg cs2,int .i64 n3])=some r2∧
 Cl k3 197 #[int .i64 0,int .i64 4] fun k5 r4=>∃cs4,Seg 3 cs4∧∃n5,some (tuple #[agg cs4,int .i64 n5])=some r4∧
 Cl k5 197 #[int .i64 0,int .i64 4] fun k7 r6=>∃cs6,Seg 3 cs6∧∃n7,some (tuple #[agg cs6,int .i64 n7])=some r6∧
 Rt R k7 (Rg cs0 cs2 cs4 cs6)) :
  CallsG Tryz.prog 192 #[int .i64 21] k R:=
  Sy.execFn_use_heap (cfg:={ opq:=[49] }) (args:=[.one (.lit (.int .i64 (21)))]) (vals:=[]) (kinds:=[]) (blks:=[]) (heap:=[]) ox trivial ox trivial ox h
theorem aJs
 (h:Cl k 197 #[int .i64 0,int .i64 4] fun k1 r0=>∃cs0,Seg 3 cs0∧∃n1,some (tuple #[agg cs0,int .i64 n1])=some r0∧
 Cl k1 197 #[int .i64 0,int .i64 4] fun k3 r2=>∃cs2,Seg 3 cs2∧∃n3,some (tuple #[agg cs2,int .i64 n3])=some r2∧
 Cl k3 197 #[int .i64 2,int .i64 4] fun k5 r4=>∃cs4,Seg 3 cs4∧∃n5,some (tuple #[agg cs4,int .i64 n5])=some r4∧
 Cl k5 197 #[int .i64 0,int .i64 4] fun k7 r6=>∃cs6,Seg 3 cs6∧∃n7,some (tuple #[agg cs6,int .i64 n7])=some r6∧
 Rt R k7 (Rg cs0 cs2 cs4 cs6)) :
  CallsG Tryz.prog 192 #[int .i64 22] k R:=
  Sy.execFn_use_heap (cfg:={ opq:=[49] }) (args:=[.one (.lit (.int .i64 (22)))]) (vals:=[]) (kinds:=[]) (blks:=[]) (heap:=[]) ox trivial ox trivial ox h
theorem aJt
 (h:Cl k 197 #[int .i64 0,int .i64 4] fun k1 r0=>∃cs0,Seg 3 cs0∧∃n1,some (tuple #[agg cs0,int .i64 n1])=some r0∧
 Cl k1 197 #[int .i64 1,int .i64 4] fun k3 r2=>∃cs2,Seg 3 cs2∧∃n3,some (tuple #[agg cs2,int .i64 n3])=some r2∧
 Cl k3 197 #[int .i64 0,int .i64 4] fun k5 r4=>∃cs4,Seg 3 cs4∧∃n5,some (tuple #[agg cs4,int .i64 n5])=some r4∧
 Cl k5 197 #[int .i64 1,int .i64 4] fun k7 r6=>∃cs6,Seg 3 cs6∧∃n7,some (tuple #[agg cs6,int .i64 n7])=some r6∧
 Rt R k7 (Rg cs0 cs2 cs4 cs6)) :
  CallsG Tryz.prog 192 #[int .i64 23] k R:=
  Sy.execFn_use_heap (cfg:={ opq:=[49] }) (args:=[.one (.lit (.int .i64 (23)))]) (vals:=[]) (kinds:=[]) (blks:=[]) (heap:=[]) ox trivial ox trivial ox h
theorem aIv
 (h:Cl k 169 #[int .i64 1] fun k1 r0=>Gt 2 r0 fun cs0=>
 Cl k1 195 #[int .u64 4] fun k3 r2=>∃A1 l1 c1,some (slice A1 l1 c1)=some r2∧
 Rt R k3 (agg ((bool false) :: ((slice none 0 0) :: (cs0.toList++((bool false) :: ((slice none 0 0) :: ((bool false) :: ((slice none 0 0) :: ((slice A1 l1 c1) :: ([]))))))))).toArray)) :
  CallsG Tryz.prog 363 #[int .i64 1,int .u64 4] k R:=
  Sy.execFn_use_heap (cfg:={ opq:=[33] }) (args:=[.one (.lit (.int .i64 (1))),.one (.lit (.int .u64 (4)))]) (vals:=[]) (kinds:=[]) (blks:=[]) (heap:=[]) ox trivial ox trivial ox h
theorem aIx
 (h:Cl k 169 #[int .i64 1] fun k1 r0=>Gt 2 r0 fun cs0=>
 Cl k1 195 #[int .u64 4] fun k3 r2=>∃A1 l1 c1,some (slice A1 l1 c1)=some r2∧
 Rt R k3 (agg ((bool false) :: ((slice none 0 0) :: ((bool false) :: ((slice none 0 0) :: ((bool false) :: ((slice none 0 0) :: (cs0.toList++((slice A1 l1 c1) :: ([]))))))))).toArray)) :
  CallsG Tryz.prog 363 #[int .i64 3,int .u64 4] k R:=
  Sy.execFn_use_heap (cfg:={ opq:=[33] }) (args:=[.one (.lit (.int .i64 (3))),.one (.lit (.int .u64 (4)))]) (vals:=[]) (kinds:=[]) (blks:=[]) (heap:=[]) ox trivial ox trivial ox h
theorem aIw
 (h:Cl k 169 #[int .i64 1] fun k1 r0=>Gt 2 r0 fun cs0=>
 Cl k1 195 #[int .u64 2] fun k3 r2=>∃A1 l1 c1,some (slice A1 l1 c1)=some r2∧
 Rt R k3 (agg ((bool false) :: ((slice none 0 0) :: ((bool false) :: ((slice none 0 0) :: (cs0.toList++((bool false) :: ((slice none 0 0) :: ((slice A1 l1 c1) :: ([]))))))))).toArray)) :
  CallsG Tryz.prog 363 #[int .i64 2,int .u64 2] k R:=
  Sy.execFn_use_heap (cfg:={ opq:=[33] }) (args:=[.one (.lit (.int .i64 (2))),.one (.lit (.int .u64 (2)))]) (vals:=[]) (kinds:=[]) (blks:=[]) (heap:=[]) ox trivial ox trivial ox h
theorem aIu
 (h:Cl k 169 #[int .i64 1] fun k1 r0=>Gt 2 r0 fun cs0=>
 Cl k1 195 #[int .u64 2] fun k3 r2=>∃A1 l1 c1,some (slice A1 l1 c1)=some r2∧
 Rt R k3 (agg ((bool false) :: ((slice none 0 0) :: (cs0.toList++((bool false) :: ((slice none 0 0) :: ((bool false) :: ((slice none 0 0) :: ((slice A1 l1 c1) :: ([]))))))))).toArray)) :
  CallsG Tryz.prog 363 #[int .i64 1,int .u64 2] k R:=
  Sy.execFn_use_heap (cfg:={ opq:=[33] }) (args:=[.one (.lit (.int .i64 (1))),.one (.lit (.int .u64 (2)))]) (vals:=[]) (kinds:=[]) (blks:=[]) (heap:=[]) ox trivial ox trivial ox h
theorem aIt
 (h:Cl k 169 #[int .i64 1] fun k1 r0=>Gt 2 r0 fun cs0=>
 Cl k1 195 #[int .u64 2] fun k3 r2=>∃A1 l1 c1,some (slice A1 l1 c1)=some r2∧
 Rt R k3 (agg (cs0.toList++((bool false) :: ((slice none 0 0) :: ((bool false) :: ((slice none 0 0) :: ((bool false) :: ((slice none 0 0) :: ((slice A1 l1 c1) :: ([]))))))))).toArray)) :
  CallsG Tryz.prog 363 #[int .i64 0,int .u64 2] k R:=
  Sy.execFn_use_heap (cfg:={ opq:=[33] }) (args:=[.one (.lit (.int .i64 (0))),.one (.lit (.int .u64 (2)))]) (vals:=[]) (kinds:=[]) (blks:=[]) (heap:=[]) ox trivial ox trivial ox h
end Go.Proofs.YtmifbgccpdmjpaaGreat

namespace Go.Proofs.YtmifbgccpdmjpaaGreat
open IntKind (wrap)
open Go.RowKit Num
open Sy (Up Sees CallsG Seg)
section
variable {k k':World}{cs cs' c0 c1:Array Value}{R:World→Value→Prop}{v v':Q4}{x y:W4}{K L:Nat}
theorem IntV.cut {z:Int}(h:IntV k cs z K) (hz:z.natAbs≤1000):IntV k cs z 1:=by
 obtain⟨b,A,n,c,e,h1,h2⟩:=h;refine⟨b,A,n,c,e,h1,?_⟩;rw [h1.lim.len];exact aQ (by unfold B64;omega)
theorem jQ {z:Int}{m:Nat}(hm:0<m) (h:q4s (mkRat z m)=true):m ∣ 4*z.natAbs∧4*z.natAbs≤1000*m:=by
 unfold q4s at h;rw [qf,beq_iff_eq,decide_eq_true_iff]at h;have e:(4:Rat)*mkRat z m=mkRat (z*(4:Nat)) m:=by rw [qE z 4 hm];rfl
 rw [e,kR _ hm,iT _ hm]at h;obtain⟨h1,h2⟩:=h;have hz:(z*((4:Nat):Int)).natAbs=4*z.natAbs:=by rw [Int.natAbs_mul,Int.natAbs_natCast,qx]
 rw [hz]at h1 h2;generalize hg:Nat.gcd (4*z.natAbs) m=g at h1 h2;have d1:g ∣ m:=hg▸wk _ _;have d2:g ∣ 4*z.natAbs:=hg▸kw _ _;have em:m=g:=by have:=Nat.div_mul_cancel d1;rw [h1,zy]at this;exact this.symm
 have hle:=oi g h2;rw [Nat.div_mul_cancel d2]at hle;rw [em];exact⟨d2,hle⟩
theorem SurdV.cut (h:SurdV k cs v K) (hs:v.small=true):SurdV k cs v 1:=by
 obtain⟨c0,c1,c2,c3,D,d,e,y0,y1,y2,y3,m,h1,hm,hg,rfl,i0,i1,i2,i3,l,hd⟩:=h;unfold Q4.small mkQ at hs;rw [qf,qf,qf]at hs;obtain⟨⟨⟨s0,s1⟩,s2⟩,s3⟩:=hs;obtain⟨d0,b0⟩:=jQ hm s0;obtain⟨d1,b1⟩:=jQ hm s1;obtain⟨d2,b2⟩:=jQ hm s2;obtain⟨d3,b3⟩:=jQ hm s3;have hm4:m ∣ 4:=by
  have dm:m ∣ 4*m:=Nat.dvd_mul_left m 4;have:=Nat.dvd_gcd (Nat.dvd_gcd (Nat.dvd_gcd (Nat.dvd_gcd dm d0) d1) d2) d3;rw [Nat.gcd_mul_left,Nat.gcd_mul_left,Nat.gcd_mul_left,Nat.gcd_mul_left]at this;unfold gcd5 at hg;rw [hg]at this;exact this
 have hm4:=Nat.le_of_dvd oz hm4;refine⟨c0,c1,c2,c3,D,d,e,y0,y1,y2,y3,m,h1,hm,hg,rfl,i0.cut oq,i1.cut oq,i2.cut oq,i3.cut oq,l,?_⟩;rw [l.len];refine aQ ?_;unfold B64;split <;> omega
theorem nZ (C:∀k' ds,Up k k'→SurdV k' ds ⟨0,1/4,0,0⟩ 1→R k' (.agg ds)) :
 Cl k 363 #[.int .i64 1,.int .u64 4] R:=by
 intro k0 u0;refine aIv ?_;refine aIn oz oz fun k1 d1 u1 i1=>⟨d1,i1.seg,rfl,?_⟩;refine pR (x:=4) oz fun k2 A l c u2 l2 hl=>⟨A,l,c,rfl,fun k3 u3=>?_⟩;exact C k3 _ (((u0.trans u1).trans u2).trans u3) ⟨#[.bool false,.slice none 0 0],d1,#[.bool false,.slice none 0 0],#[.bool false,.slice none 0 0],A,l,c,0,1,0,0,4,rfl,oz,oz,by decide +kernel,IntV.nil,(i1.up u2).up u3,IntV.nil,IntV.nil,(by rw [oh oz];exact l2.up u3),hl⟩
theorem oA (C:∀k' ds,Up k k'→SurdV k' ds ⟨0,0,0,1/4⟩ 1→R k' (.agg ds)) :
 Cl k 363 #[.int .i64 3,.int .u64 4] R:=by
 intro k0 u0;refine aIx ?_;refine aIn oz oz fun k1 d1 u1 i1=>⟨d1,i1.seg,rfl,?_⟩;refine pR (x:=4) oz fun k2 A l c u2 l2 hl=>⟨A,l,c,rfl,fun k3 u3=>?_⟩;exact C k3 _ (((u0.trans u1).trans u2).trans u3) ⟨#[.bool false,.slice none 0 0],#[.bool false,.slice none 0 0],#[.bool false,.slice none 0 0],d1,A,l,c,0,0,0,1,4,rfl,oz,oz,by decide +kernel,IntV.nil,IntV.nil,IntV.nil,(i1.up u2).up u3,(by rw [oh oz];exact l2.up u3),hl⟩
theorem aAx (C:∀k' ds,Up k k'→SurdV k' ds ⟨0,0,1/2,0⟩ 1→R k' (.agg ds)) :
 Cl k 363 #[.int .i64 2,.int .u64 2] R:=by
 intro k0 u0;refine aIw ?_;refine aIn oz oz fun k1 d1 u1 i1=>⟨d1,i1.seg,rfl,?_⟩;refine pR (x:=2) oz fun k2 A l c u2 l2 hl=>⟨A,l,c,rfl,fun k3 u3=>?_⟩;exact C k3 _ (((u0.trans u1).trans u2).trans u3) ⟨#[.bool false,.slice none 0 0],#[.bool false,.slice none 0 0],d1,#[.bool false,.slice none 0 0],A,l,c,0,0,1,0,2,rfl,oz,oz,by decide +kernel,IntV.nil,IntV.nil,(i1.up u2).up u3,IntV.nil,(by rw [oh oz];exact l2.up u3),hl⟩
theorem aAw (C:∀k' ds,Up k k'→SurdV k' ds ⟨0,1/2,0,0⟩ 1→R k' (.agg ds)) :
 Cl k 363 #[.int .i64 1,.int .u64 2] R:=by
 intro k0 u0;refine aIu ?_;refine aIn oz oz fun k1 d1 u1 i1=>⟨d1,i1.seg,rfl,?_⟩;refine pR (x:=2) oz fun k2 A l c u2 l2 hl=>⟨A,l,c,rfl,fun k3 u3=>?_⟩;exact C k3 _ (((u0.trans u1).trans u2).trans u3) ⟨#[.bool false,.slice none 0 0],d1,#[.bool false,.slice none 0 0],#[.bool false,.slice none 0 0],A,l,c,0,1,0,0,2,rfl,oz,oz,by decide +kernel,IntV.nil,(i1.up u2).up u3,IntV.nil,IntV.nil,(by rw [oh oz];exact l2.up u3),hl⟩
theorem aAv (C:∀k' ds,Up k k'→SurdV k' ds ⟨1/2,0,0,0⟩ 1→R k' (.agg ds)) :
 Cl k 363 #[.int .i64 0,.int .u64 2] R:=by
 intro k0 u0;refine aIt ?_;refine aIn oz oz fun k1 d1 u1 i1=>⟨d1,i1.seg,rfl,?_⟩;refine pR (x:=2) oz fun k2 A l c u2 l2 hl=>⟨A,l,c,rfl,fun k3 u3=>?_⟩;exact C k3 _ (((u0.trans u1).trans u2).trans u3) ⟨d1,#[.bool false,.slice none 0 0],#[.bool false,.slice none 0 0],#[.bool false,.slice none 0 0],A,l,c,1,0,0,0,2,rfl,oz,oz,by decide +kernel,(i1.up u2).up u3,IntV.nil,IntV.nil,IntV.nil,(by rw [oh oz];exact l2.up u3),hl⟩
theorem cast4 (h:SurdV k cs v K) (e:v=v'):SurdV k cs v' K:=e▸h
theorem aGs (C:∀k' ds,Up k k'→SurdV k' ds (cJ 0) 1→R k' (.agg ds)) :
 Cl k 286 #[.int .i64 0] R:=by
 intro k0 u0;refine bP ⟨fun h=>absurd h (by decide +kernel),fun _=>⟨fun h=>absurd h (by decide +kernel),fun _=>⟨fun _=>?_,fun h=>absurd h (by decide +kernel)⟩⟩⟩;refine aIn oz oz fun k1 d1 u1 i1=>⟨d1,i1.seg,rfl,fun k2 u2=>?_⟩;exact C k2 _ ((u0.trans u1).trans u2) ⟨d1,#[.bool false,.slice none 0 0],#[.bool false,.slice none 0 0],#[.bool false,.slice none 0 0],none,0,0,1,0,0,0,1,rfl,oz,oz,by decide +kernel,i1.up u2,IntV.nil,IntV.nil,IntV.nil,(by rw [od rfl];exact LimR.nil),zk _⟩
theorem yK (C:∀k' ds,Up k k'→SurdV k' ds (cJ 1) 1→R k' (.agg ds)) :
 Cl k 286 #[.int .i64 1] R:=by
 intro k0 u0;refine bP ⟨fun h=>absurd h (by decide +kernel),fun _=>⟨fun h=>absurd h (by decide +kernel),fun _=>⟨fun h=>absurd h (by decide +kernel),fun _=>⟨fun _=>?_,fun h=>absurd h (by decide +kernel)⟩⟩⟩⟩;refine nZ fun k1 d1 u1 h1=>⟨d1,h1.seg,rfl,?_⟩;refine oA fun k2 d2 u2 h2=>⟨d2,h2.seg,rfl,?_⟩;refine mN (h1.up u2) h2 oz oz fun k3 d3 u3 h3=>⟨d3,h3.seg,rfl,fun k4 u4=>?_⟩;refine C k4 d3 ((((u0.trans u1).trans u2).trans u3).trans u4) (SurdV.cut (K:=2*1+1) (cast4 (h3.up u4) (by decide +kernel)) (by decide +kernel))
theorem yL (C:∀k' ds,Up k k'→SurdV k' ds (cJ 2) 1→R k' (.agg ds)) :
 Cl k 286 #[.int .i64 2] R:=by
 intro k0 u0;refine bP ⟨fun h=>absurd h (by decide +kernel),fun _=>⟨fun h=>absurd h (by decide +kernel),fun _=>⟨fun h=>absurd h (by decide +kernel),fun _=>⟨fun h=>absurd h (by decide +kernel),fun _=>⟨fun _=>?_,fun h=>absurd h (by decide +kernel)⟩⟩⟩⟩⟩;exact aAx fun k1 d1 u1 h1=>⟨d1,h1.seg,rfl,fun k2 u2=>C k2 d1 ((u0.trans u1).trans u2) (h1.up u2)⟩
theorem yM (C:∀k' ds,Up k k'→SurdV k' ds (cJ 3) 1→R k' (.agg ds)) :
 Cl k 286 #[.int .i64 3] R:=by
 intro k0 u0;refine bP ⟨fun h=>absurd h (by decide +kernel),fun _=>⟨fun h=>absurd h (by decide +kernel),fun _=>⟨fun h=>absurd h (by decide +kernel),fun _=>⟨fun h=>absurd h (by decide +kernel),fun _=>⟨fun h=>absurd h (by decide +kernel),fun _=>⟨fun _=>?_,fun h=>absurd h (by decide +kernel)⟩⟩⟩⟩⟩⟩;exact aAw fun k1 d1 u1 h1=>⟨d1,h1.seg,rfl,fun k2 u2=>C k2 d1 ((u0.trans u1).trans u2) (h1.up u2)⟩
theorem yN (C:∀k' ds,Up k k'→SurdV k' ds (cJ 4) 1→R k' (.agg ds)) :
 Cl k 286 #[.int .i64 4] R:=by
 intro k0 u0;refine bP ⟨fun h=>absurd h (by decide +kernel),fun _=>⟨fun h=>absurd h (by decide +kernel),fun _=>⟨fun h=>absurd h (by decide +kernel),fun _=>⟨fun h=>absurd h (by decide +kernel),fun _=>⟨fun h=>absurd h (by decide +kernel),fun _=>⟨fun h=>absurd h (by decide +kernel),fun _=>⟨fun _=>?_,fun h=>absurd h (by decide +kernel)⟩⟩⟩⟩⟩⟩⟩;exact aAv fun k1 d1 u1 h1=>⟨d1,h1.seg,rfl,fun k2 u2=>C k2 d1 ((u0.trans u1).trans u2) (h1.up u2)⟩
theorem yO (C:∀k' ds,Up k k'→SurdV k' ds (cJ 5) 1→R k' (.agg ds)) :
 Cl k 286 #[.int .i64 5] R:=by
 intro k0 u0;refine bP ⟨fun h=>absurd h (by decide +kernel),fun _=>⟨fun h=>absurd h (by decide +kernel),fun _=>⟨fun h=>absurd h (by decide +kernel),fun _=>⟨fun h=>absurd h (by decide +kernel),fun _=>⟨fun h=>absurd h (by decide +kernel),fun _=>⟨fun h=>absurd h (by decide +kernel),fun _=>⟨fun h=>absurd h (by decide +kernel),fun _=>⟨fun _=>?_,fun h=>absurd h (by decide +kernel)⟩⟩⟩⟩⟩⟩⟩⟩;refine oA fun k1 d1 u1 h1=>⟨d1,h1.seg,rfl,?_⟩;refine nZ fun k2 d2 u2 h2=>⟨d2,h2.seg,rfl,?_⟩;refine rY (h1.up u2) h2 oz oz fun k3 d3 u3 h3=>⟨d3,h3.seg,rfl,fun k4 u4=>?_⟩;refine C k4 d3 ((((u0.trans u1).trans u2).trans u3).trans u4) (SurdV.cut (K:=2*1+1) (cast4 (h3.up u4) (by decide +kernel)) (by decide +kernel))
theorem aWr (C:∀k' ds,Up k k'→SurdV k' ds (cJ 6) 1→R k' (.agg ds)) :
 Cl k 286 #[.int .i64 6] R:=by
 intro k0 u0;refine bP ⟨fun h=>absurd h (by decide +kernel),fun _=>⟨fun h=>absurd h (by decide +kernel),fun _=>⟨fun h=>absurd h (by decide +kernel),fun _=>⟨fun h=>absurd h (by decide +kernel),fun _=>⟨fun h=>absurd h (by decide +kernel),fun _=>⟨fun h=>absurd h (by decide +kernel),fun _=>⟨fun h=>absurd h (by decide +kernel),fun _=>⟨fun h=>absurd h (by decide +kernel),fun _=>?_⟩⟩⟩⟩⟩⟩⟩⟩;intro k1 u1;exact C k1 _ (u0.trans u1) (SurdV.nil (zk _))
theorem aWs (C:∀k' ds,Up k k'→SurdV k' ds (cJ 7) 1→R k' (.agg ds)) :
 Cl k 286 #[.int .i64 7] R:=by
 intro k0 u0;refine bP ⟨fun h=>absurd h (by decide +kernel),fun _=>⟨fun _=>?_,fun h=>absurd h (by decide +kernel)⟩⟩;rw [show wrap .i64 (12-7)=(5:Int) from by decide +kernel];refine yO fun k1 d1 u1 h1=>⟨d1,h1.seg,rfl,?_⟩;refine fN h1 oz fun k3 d3 u3 h3=>⟨d3,h3.seg,rfl,fun k4 u4=>?_⟩;exact C k4 d3 (((u0.trans u1).trans u3).trans u4) (h3.up u4)
theorem aWt (C:∀k' ds,Up k k'→SurdV k' ds (cJ 8) 1→R k' (.agg ds)) :
 Cl k 286 #[.int .i64 8] R:=by
 intro k0 u0;refine bP ⟨fun h=>absurd h (by decide +kernel),fun _=>⟨fun _=>?_,fun h=>absurd h (by decide +kernel)⟩⟩;rw [show wrap .i64 (12-8)=(4:Int) from by decide +kernel];refine yN fun k1 d1 u1 h1=>⟨d1,h1.seg,rfl,?_⟩;refine fN h1 oz fun k3 d3 u3 h3=>⟨d3,h3.seg,rfl,fun k4 u4=>?_⟩;exact C k4 d3 (((u0.trans u1).trans u3).trans u4) (h3.up u4)
theorem aWu (C:∀k' ds,Up k k'→SurdV k' ds (cJ 9) 1→R k' (.agg ds)) :
 Cl k 286 #[.int .i64 9] R:=by
 intro k0 u0;refine bP ⟨fun h=>absurd h (by decide +kernel),fun _=>⟨fun _=>?_,fun h=>absurd h (by decide +kernel)⟩⟩;rw [show wrap .i64 (12-9)=(3:Int) from by decide +kernel];refine yM fun k1 d1 u1 h1=>⟨d1,h1.seg,rfl,?_⟩;refine fN h1 oz fun k3 d3 u3 h3=>⟨d3,h3.seg,rfl,fun k4 u4=>?_⟩;exact C k4 d3 (((u0.trans u1).trans u3).trans u4) (h3.up u4)
theorem aRt (C:∀k' ds,Up k k'→SurdV k' ds (cJ 10) 1→R k' (.agg ds)) :
 Cl k 286 #[.int .i64 10] R:=by
 intro k0 u0;refine bP ⟨fun h=>absurd h (by decide +kernel),fun _=>⟨fun _=>?_,fun h=>absurd h (by decide +kernel)⟩⟩;rw [show wrap .i64 (12-10)=(2:Int) from by decide +kernel];refine yL fun k1 d1 u1 h1=>⟨d1,h1.seg,rfl,?_⟩;refine fN h1 oz fun k3 d3 u3 h3=>⟨d3,h3.seg,rfl,fun k4 u4=>?_⟩;exact C k4 d3 (((u0.trans u1).trans u3).trans u4) (h3.up u4)
theorem aRu (C:∀k' ds,Up k k'→SurdV k' ds (cJ 11) 1→R k' (.agg ds)) :
 Cl k 286 #[.int .i64 11] R:=by
 intro k0 u0;refine bP ⟨fun h=>absurd h (by decide +kernel),fun _=>⟨fun _=>?_,fun h=>absurd h (by decide +kernel)⟩⟩;rw [show wrap .i64 (12-11)=(1:Int) from by decide +kernel];refine yK fun k1 d1 u1 h1=>⟨d1,h1.seg,rfl,?_⟩;refine fN h1 oz fun k3 d3 u3 h3=>⟨d3,h3.seg,rfl,fun k4 u4=>?_⟩;exact C k4 d3 (((u0.trans u1).trans u3).trans u4) (h3.up u4)
theorem aRv (C:∀k' ds,Up k k'→SurdV k' ds (cJ 12) 1→R k' (.agg ds)) :
 Cl k 286 #[.int .i64 12] R:=by
 intro k0 u0;refine bP ⟨fun h=>absurd h (by decide +kernel),fun _=>⟨fun _=>?_,fun h=>absurd h (by decide +kernel)⟩⟩;rw [show wrap .i64 (12-12)=(0:Int) from by decide +kernel];refine aGs fun k1 d1 u1 h1=>⟨d1,h1.seg,rfl,?_⟩;refine fN h1 oz fun k3 d3 u3 h3=>⟨d3,h3.seg,rfl,fun k4 u4=>?_⟩;exact C k4 d3 (((u0.trans u1).trans u3).trans u4) (h3.up u4)
theorem aRw (C:∀k' ds,Up k k'→SurdV k' ds (cJ 13) 1→R k' (.agg ds)) :
 Cl k 286 #[.int .i64 13] R:=by
 intro k0 u0;refine bP ⟨fun _=>⟨fun _=>?_,fun h=>absurd h (by decide +kernel)⟩,fun h=>absurd h (by decide +kernel)⟩;rw [show wrap .i64 (12-(wrap .i64 (24-13)))=(1:Int) from by decide +kernel];refine yK fun k1 d1 u1 h1=>⟨d1,h1.seg,rfl,?_⟩;refine fN h1 oz fun k3 d3 u3 h3=>⟨d3,h3.seg,rfl,fun k4 u4=>?_⟩;exact C k4 d3 (((u0.trans u1).trans u3).trans u4) (h3.up u4)
theorem aRx (C:∀k' ds,Up k k'→SurdV k' ds (cJ 14) 1→R k' (.agg ds)) :
 Cl k 286 #[.int .i64 14] R:=by
 intro k0 u0;refine bP ⟨fun _=>⟨fun _=>?_,fun h=>absurd h (by decide +kernel)⟩,fun h=>absurd h (by decide +kernel)⟩;rw [show wrap .i64 (12-(wrap .i64 (24-14)))=(2:Int) from by decide +kernel];refine yL fun k1 d1 u1 h1=>⟨d1,h1.seg,rfl,?_⟩;refine fN h1 oz fun k3 d3 u3 h3=>⟨d3,h3.seg,rfl,fun k4 u4=>?_⟩;exact C k4 d3 (((u0.trans u1).trans u3).trans u4) (h3.up u4)
theorem aRy (C:∀k' ds,Up k k'→SurdV k' ds (cJ 15) 1→R k' (.agg ds)) :
 Cl k 286 #[.int .i64 15] R:=by
 intro k0 u0;refine bP ⟨fun _=>⟨fun _=>?_,fun h=>absurd h (by decide +kernel)⟩,fun h=>absurd h (by decide +kernel)⟩;rw [show wrap .i64 (12-(wrap .i64 (24-15)))=(3:Int) from by decide +kernel];refine yM fun k1 d1 u1 h1=>⟨d1,h1.seg,rfl,?_⟩;refine fN h1 oz fun k3 d3 u3 h3=>⟨d3,h3.seg,rfl,fun k4 u4=>?_⟩;exact C k4 d3 (((u0.trans u1).trans u3).trans u4) (h3.up u4)
theorem aRz (C:∀k' ds,Up k k'→SurdV k' ds (cJ 16) 1→R k' (.agg ds)) :
 Cl k 286 #[.int .i64 16] R:=by
 intro k0 u0;refine bP ⟨fun _=>⟨fun _=>?_,fun h=>absurd h (by decide +kernel)⟩,fun h=>absurd h (by decide +kernel)⟩;rw [show wrap .i64 (12-(wrap .i64 (24-16)))=(4:Int) from by decide +kernel];refine yN fun k1 d1 u1 h1=>⟨d1,h1.seg,rfl,?_⟩;refine fN h1 oz fun k3 d3 u3 h3=>⟨d3,h3.seg,rfl,fun k4 u4=>?_⟩;exact C k4 d3 (((u0.trans u1).trans u3).trans u4) (h3.up u4)
theorem aSa (C:∀k' ds,Up k k'→SurdV k' ds (cJ 17) 1→R k' (.agg ds)) :
 Cl k 286 #[.int .i64 17] R:=by
 intro k0 u0;refine bP ⟨fun _=>⟨fun _=>?_,fun h=>absurd h (by decide +kernel)⟩,fun h=>absurd h (by decide +kernel)⟩;rw [show wrap .i64 (12-(wrap .i64 (24-17)))=(5:Int) from by decide +kernel];refine yO fun k1 d1 u1 h1=>⟨d1,h1.seg,rfl,?_⟩;refine fN h1 oz fun k3 d3 u3 h3=>⟨d3,h3.seg,rfl,fun k4 u4=>?_⟩;exact C k4 d3 (((u0.trans u1).trans u3).trans u4) (h3.up u4)
theorem aSb (C:∀k' ds,Up k k'→SurdV k' ds (cJ 18) 1→R k' (.agg ds)) :
 Cl k 286 #[.int .i64 18] R:=by
 intro k0 u0;refine bP ⟨fun _=>⟨fun h=>absurd h (by decide +kernel),fun _=>⟨fun h=>absurd h (by decide +kernel),fun _=>⟨fun h=>absurd h (by decide +kernel),fun _=>⟨fun h=>absurd h (by decide +kernel),fun _=>⟨fun h=>absurd h (by decide +kernel),fun _=>⟨fun h=>absurd h (by decide +kernel),fun _=>⟨fun h=>absurd h (by decide +kernel),fun _=>?_⟩⟩⟩⟩⟩⟩⟩,fun h=>absurd h (by decide +kernel)⟩;intro k1 u1;exact C k1 _ (u0.trans u1) (SurdV.nil (zk _))
theorem aSc (C:∀k' ds,Up k k'→SurdV k' ds (cJ 19) 1→R k' (.agg ds)) :
 Cl k 286 #[.int .i64 19] R:=by
 intro k0 u0;refine bP ⟨fun _=>⟨fun h=>absurd h (by decide +kernel),fun _=>⟨fun h=>absurd h (by decide +kernel),fun _=>⟨fun h=>absurd h (by decide +kernel),fun _=>⟨fun h=>absurd h (by decide +kernel),fun _=>⟨fun h=>absurd h (by decide +kernel),fun _=>⟨fun h=>absurd h (by decide +kernel),fun _=>⟨fun _=>?_,fun h=>absurd h (by decide +kernel)⟩⟩⟩⟩⟩⟩⟩,fun h=>absurd h (by decide +kernel)⟩;refine oA fun k1 d1 u1 h1=>⟨d1,h1.seg,rfl,?_⟩;refine nZ fun k2 d2 u2 h2=>⟨d2,h2.seg,rfl,?_⟩;refine rY (h1.up u2) h2 oz oz fun k3 d3 u3 h3=>⟨d3,h3.seg,rfl,fun k4 u4=>?_⟩;refine C k4 d3 ((((u0.trans u1).trans u2).trans u3).trans u4) (SurdV.cut (K:=2*1+1) (cast4 (h3.up u4) (by decide +kernel)) (by decide +kernel))
theorem aSd (C:∀k' ds,Up k k'→SurdV k' ds (cJ 20) 1→R k' (.agg ds)) :
 Cl k 286 #[.int .i64 20] R:=by
 intro k0 u0;refine bP ⟨fun _=>⟨fun h=>absurd h (by decide +kernel),fun _=>⟨fun h=>absurd h (by decide +kernel),fun _=>⟨fun h=>absurd h (by decide +kernel),fun _=>⟨fun h=>absurd h (by decide +kernel),fun _=>⟨fun h=>absurd h (by decide +kernel),fun _=>⟨fun _=>?_,fun h=>absurd h (by decide +kernel)⟩⟩⟩⟩⟩⟩,fun h=>absurd h (by decide +kernel)⟩;exact aAv fun k1 d1 u1 h1=>⟨d1,h1.seg,rfl,fun k2 u2=>C k2 d1 ((u0.trans u1).trans u2) (h1.up u2)⟩
theorem aSe (C:∀k' ds,Up k k'→SurdV k' ds (cJ 21) 1→R k' (.agg ds)) :
 Cl k 286 #[.int .i64 21] R:=by
 intro k0 u0;refine bP ⟨fun _=>⟨fun h=>absurd h (by decide +kernel),fun _=>⟨fun h=>absurd h (by decide +kernel),fun _=>⟨fun h=>absurd h (by decide +kernel),fun _=>⟨fun h=>absurd h (by decide +kernel),fun _=>⟨fun _=>?_,fun h=>absurd h (by decide +kernel)⟩⟩⟩⟩⟩,fun h=>absurd h (by decide +kernel)⟩;exact aAw fun k1 d1 u1 h1=>⟨d1,h1.seg,rfl,fun k2 u2=>C k2 d1 ((u0.trans u1).trans u2) (h1.up u2)⟩
theorem aSf (C:∀k' ds,Up k k'→SurdV k' ds (cJ 22) 1→R k' (.agg ds)) :
 Cl k 286 #[.int .i64 22] R:=by
 intro k0 u0;refine bP ⟨fun _=>⟨fun h=>absurd h (by decide +kernel),fun _=>⟨fun h=>absurd h (by decide +kernel),fun _=>⟨fun h=>absurd h (by decide +kernel),fun _=>⟨fun _=>?_,fun h=>absurd h (by decide +kernel)⟩⟩⟩⟩,fun h=>absurd h (by decide +kernel)⟩;exact aAx fun k1 d1 u1 h1=>⟨d1,h1.seg,rfl,fun k2 u2=>C k2 d1 ((u0.trans u1).trans u2) (h1.up u2)⟩
theorem aSg (C:∀k' ds,Up k k'→SurdV k' ds (cJ 23) 1→R k' (.agg ds)) :
 Cl k 286 #[.int .i64 23] R:=by
 intro k0 u0;refine bP ⟨fun _=>⟨fun h=>absurd h (by decide +kernel),fun _=>⟨fun h=>absurd h (by decide +kernel),fun _=>⟨fun _=>?_,fun h=>absurd h (by decide +kernel)⟩⟩⟩,fun h=>absurd h (by decide +kernel)⟩;refine nZ fun k1 d1 u1 h1=>⟨d1,h1.seg,rfl,?_⟩;refine oA fun k2 d2 u2 h2=>⟨d2,h2.seg,rfl,?_⟩;refine mN (h1.up u2) h2 oz oz fun k3 d3 u3 h3=>⟨d3,h3.seg,rfl,fun k4 u4=>?_⟩;refine C k4 d3 ((((u0.trans u1).trans u2).trans u3).trans u4) (SurdV.cut (K:=2*1+1) (cast4 (h3.up u4) (by decide +kernel)) (by decide +kernel))
theorem aSh {n:Nat}(hn:n<24) (C:∀k' ds,Up k k'→SurdV k' ds (cJ n) 1→R k' (.agg ds)) :
 Cl k 286 #[.int .i64 (n:Int)] R:=by
 match n,hn with
 | 0,_=>exact aGs C
 | 1,_=>exact yK C
 | 2,_=>exact yL C
 | 3,_=>exact yM C
 | 4,_=>exact yN C
 | 5,_=>exact yO C
 | 6,_=>exact aWr C
 | 7,_=>exact aWs C
 | 8,_=>exact aWt C
 | 9,_=>exact aWu C
 | 10,_=>exact aRt C
 | 11,_=>exact aRu C
 | 12,_=>exact aRv C
 | 13,_=>exact aRw C
 | 14,_=>exact aRx C
 | 15,_=>exact aRy C
 | 16,_=>exact aRz C
 | 17,_=>exact aSa C
 | 18,_=>exact aSb C
 | 19,_=>exact aSc C
 | 20,_=>exact aSd C
 | 21,_=>exact aSe C
 | 22,_=>exact aSf C
 | 23,_=>exact aSg C
 | n+24,h=>exact absurd h oq
theorem aNx {n:Int}:Int.tmod (wrap .i64 ((Int.tmod n 24)+24)) 24=(plc n:Int):=by
 have h:Int.tmod n 24=n % 24∨Int.tmod n 24=n % 24-24:=by
  rw [Int.tmod_eq_emod];split
  ·left;omega
  ·right;rfl
 have hw:wrap .i64 ((Int.tmod n 24)+24)=Int.tmod n 24+24:=by rw [je];omega
 rw [hw,Int.tmod_eq_emod_of_nonneg oq];unfold plc;omega
theorem aGa {n:Int}(C:∀k',Up k k'→R k' (.int .i64 (plc n:Int))) :
 Cl k 285 #[.int .i64 n] R:=by
 intro k0 u0;refine aNu fun k1 u1=>?_;rw [aNx];exact C k1 (u0.trans u1)
theorem aNv {m:Nat}(h:m<24):plc (wrap .i64 ((m:Int)-6))=(m+18) % 24:=by
 have hw:wrap .i64 ((m:Int)-6)=(m:Int)-6:=by rw [je];omega
 rw [hw];unfold plc;omega
theorem yP {n:Int}(C:∀k' ds,Up k k'→WaveV k' ds (oN (plc n)) 1→R k' (.agg ds)) :
 Cl k 177 #[.int .i64 n] R:=by
 intro k0 u0;have hl:=aNy n;refine aRs (aGa fun k1 u1=>⟨_,rfl,?_⟩);refine aSh hl fun k2 d2 u2 h2=>⟨d2,h2.seg,rfl,?_⟩;have e:=aNv hl;refine aGa fun k3 u3=>⟨_,rfl,?_⟩;rw [e];refine aSh (qg _ oz) fun k4 d4 u4 h4=>⟨d4,h4.seg,rfl,fun k5 u5=>?_⟩;exact C k5 _ (((((u0.trans u1).trans u2).trans u3).trans u4).trans u5) ⟨d2,d4,rfl,((h2.up u3).up u4).up u5,h4.up u5⟩
end
end Go.Proofs.YtmifbgccpdmjpaaGreat

namespace Go.Proofs.YtmifbgccpdmjpaaGreat.W32
open IntKind (wrap)
open Go.RowKit Num
open Sy (Up Sees CallsG Seg)
section
variable {k k':World}{cs cs' c0 c1:Array Value}{R:World→Value→Prop}{v v':Q4}{x y:W4}{K L:Nat}
theorem in64s {z:Int}(h:z.natAbs≤100):In64 z:=⟨oq,oq⟩
theorem aGc (C:∀k' ds,Up k k'→SQ k' ds (cJ 0) 2→R k' (.agg ds)) :
 Cl k 192 #[.int .i64 0] R:=by
 intro k0 u0;refine aOm (aX (in64s oz) (in64s oz) fun k1 d1 u1 h1=>⟨d1,h1.seg,_,rfl,?_⟩);refine aX (in64s oz) (in64s oz) fun k2 d2 u2 h2=>⟨d2,h2.seg,_,rfl,?_⟩;refine aX (in64s oz) (in64s oz) fun k3 d3 u3 h3=>⟨d3,h3.seg,_,rfl,?_⟩;refine aX (in64s oz) (in64s oz) fun k4 d4 u4 h4=>⟨d4,h4.seg,_,rfl,fun k9 u9=>?_⟩;exact C k9 _ (((((u0.trans u1).trans u2).trans u3).trans u4).trans u9) ⟨d1,d2,d3,d4,rfl,((((h1.up u2).up u3).up u4).up u9).cast (by decide +kernel),(((h2.up u3).up u4).up u9).cast (by decide +kernel),((h3.up u4).up u9).cast (by decide +kernel),(h4.up u9).cast (by decide +kernel)⟩
theorem xL (C:∀k' ds,Up k k'→SQ k' ds (cJ 1) 2→R k' (.agg ds)) :
 Cl k 192 #[.int .i64 1] R:=by
 intro k0 u0;refine aOx (aX (in64s oz) (in64s oz) fun k1 d1 u1 h1=>⟨d1,h1.seg,_,rfl,?_⟩);refine aX (in64s oz) (in64s oz) fun k2 d2 u2 h2=>⟨d2,h2.seg,_,rfl,?_⟩;refine aX (in64s oz) (in64s oz) fun k3 d3 u3 h3=>⟨d3,h3.seg,_,rfl,?_⟩;refine aX (in64s oz) (in64s oz) fun k4 d4 u4 h4=>⟨d4,h4.seg,_,rfl,fun k9 u9=>?_⟩;exact C k9 _ (((((u0.trans u1).trans u2).trans u3).trans u4).trans u9) ⟨d1,d2,d3,d4,rfl,((((h1.up u2).up u3).up u4).up u9).cast (by decide +kernel),(((h2.up u3).up u4).up u9).cast (by decide +kernel),((h3.up u4).up u9).cast (by decide +kernel),(h4.up u9).cast (by decide +kernel)⟩
theorem xM (C:∀k' ds,Up k k'→SQ k' ds (cJ 2) 2→R k' (.agg ds)) :
 Cl k 192 #[.int .i64 2] R:=by
 intro k0 u0;refine aPc (aX (in64s oz) (in64s oz) fun k1 d1 u1 h1=>⟨d1,h1.seg,_,rfl,?_⟩);refine aX (in64s oz) (in64s oz) fun k2 d2 u2 h2=>⟨d2,h2.seg,_,rfl,?_⟩;refine aX (in64s oz) (in64s oz) fun k3 d3 u3 h3=>⟨d3,h3.seg,_,rfl,?_⟩;refine aX (in64s oz) (in64s oz) fun k4 d4 u4 h4=>⟨d4,h4.seg,_,rfl,fun k9 u9=>?_⟩;exact C k9 _ (((((u0.trans u1).trans u2).trans u3).trans u4).trans u9) ⟨d1,d2,d3,d4,rfl,((((h1.up u2).up u3).up u4).up u9).cast (by decide +kernel),(((h2.up u3).up u4).up u9).cast (by decide +kernel),((h3.up u4).up u9).cast (by decide +kernel),(h4.up u9).cast (by decide +kernel)⟩
theorem xN (C:∀k' ds,Up k k'→SQ k' ds (cJ 3) 2→R k' (.agg ds)) :
 Cl k 192 #[.int .i64 3] R:=by
 intro k0 u0;refine aPd (aX (in64s oz) (in64s oz) fun k1 d1 u1 h1=>⟨d1,h1.seg,_,rfl,?_⟩);refine aX (in64s oz) (in64s oz) fun k2 d2 u2 h2=>⟨d2,h2.seg,_,rfl,?_⟩;refine aX (in64s oz) (in64s oz) fun k3 d3 u3 h3=>⟨d3,h3.seg,_,rfl,?_⟩;refine aX (in64s oz) (in64s oz) fun k4 d4 u4 h4=>⟨d4,h4.seg,_,rfl,fun k9 u9=>?_⟩;exact C k9 _ (((((u0.trans u1).trans u2).trans u3).trans u4).trans u9) ⟨d1,d2,d3,d4,rfl,((((h1.up u2).up u3).up u4).up u9).cast (by decide +kernel),(((h2.up u3).up u4).up u9).cast (by decide +kernel),((h3.up u4).up u9).cast (by decide +kernel),(h4.up u9).cast (by decide +kernel)⟩
theorem xO (C:∀k' ds,Up k k'→SQ k' ds (cJ 4) 2→R k' (.agg ds)) :
 Cl k 192 #[.int .i64 4] R:=by
 intro k0 u0;refine aPe (aX (in64s oz) (in64s oz) fun k1 d1 u1 h1=>⟨d1,h1.seg,_,rfl,?_⟩);refine aX (in64s oz) (in64s oz) fun k2 d2 u2 h2=>⟨d2,h2.seg,_,rfl,?_⟩;refine aX (in64s oz) (in64s oz) fun k3 d3 u3 h3=>⟨d3,h3.seg,_,rfl,?_⟩;refine aX (in64s oz) (in64s oz) fun k4 d4 u4 h4=>⟨d4,h4.seg,_,rfl,fun k9 u9=>?_⟩;exact C k9 _ (((((u0.trans u1).trans u2).trans u3).trans u4).trans u9) ⟨d1,d2,d3,d4,rfl,((((h1.up u2).up u3).up u4).up u9).cast (by decide +kernel),(((h2.up u3).up u4).up u9).cast (by decide +kernel),((h3.up u4).up u9).cast (by decide +kernel),(h4.up u9).cast (by decide +kernel)⟩
theorem xP (C:∀k' ds,Up k k'→SQ k' ds (cJ 5) 2→R k' (.agg ds)) :
 Cl k 192 #[.int .i64 5] R:=by
 intro k0 u0;refine aPf (aX (in64s oz) (in64s oz) fun k1 d1 u1 h1=>⟨d1,h1.seg,_,rfl,?_⟩);refine aX (in64s oz) (in64s oz) fun k2 d2 u2 h2=>⟨d2,h2.seg,_,rfl,?_⟩;refine aX (in64s oz) (in64s oz) fun k3 d3 u3 h3=>⟨d3,h3.seg,_,rfl,?_⟩;refine aX (in64s oz) (in64s oz) fun k4 d4 u4 h4=>⟨d4,h4.seg,_,rfl,fun k9 u9=>?_⟩;exact C k9 _ (((((u0.trans u1).trans u2).trans u3).trans u4).trans u9) ⟨d1,d2,d3,d4,rfl,((((h1.up u2).up u3).up u4).up u9).cast (by decide +kernel),(((h2.up u3).up u4).up u9).cast (by decide +kernel),((h3.up u4).up u9).cast (by decide +kernel),(h4.up u9).cast (by decide +kernel)⟩
theorem aVh (C:∀k' ds,Up k k'→SQ k' ds (cJ 6) 2→R k' (.agg ds)) :
 Cl k 192 #[.int .i64 6] R:=by
 intro k0 u0;refine aPg (aX (in64s oz) (in64s oz) fun k1 d1 u1 h1=>⟨d1,h1.seg,_,rfl,?_⟩);refine aX (in64s oz) (in64s oz) fun k2 d2 u2 h2=>⟨d2,h2.seg,_,rfl,?_⟩;refine aX (in64s oz) (in64s oz) fun k3 d3 u3 h3=>⟨d3,h3.seg,_,rfl,?_⟩;refine aX (in64s oz) (in64s oz) fun k4 d4 u4 h4=>⟨d4,h4.seg,_,rfl,fun k9 u9=>?_⟩;exact C k9 _ (((((u0.trans u1).trans u2).trans u3).trans u4).trans u9) ⟨d1,d2,d3,d4,rfl,((((h1.up u2).up u3).up u4).up u9).cast (by decide +kernel),(((h2.up u3).up u4).up u9).cast (by decide +kernel),((h3.up u4).up u9).cast (by decide +kernel),(h4.up u9).cast (by decide +kernel)⟩
theorem aVi (C:∀k' ds,Up k k'→SQ k' ds (cJ 7) 2→R k' (.agg ds)) :
 Cl k 192 #[.int .i64 7] R:=by
 intro k0 u0;refine aPh (xP fun k1 d1 u1 h1=>?_);have h1':=h1;obtain⟨a0,a1,a2,a3,rfl,q0,q1,q2,q3⟩:=h1';refine⟨a0,q0.seg,a1,q1.seg,a2,q2.seg,a3,q3.seg,rfl,?_⟩;refine fT h1 oz fun k3 d3 u3 h3=>?_;have h3':=h3;obtain⟨b0,b1,b2,b3,rfl,r0,r1,r2,r3⟩:=h3';exact⟨b0,r0.seg,b1,r1.seg,b2,r2.seg,b3,r3.seg,rfl,fun k4 u4=>C k4 _ (((u0.trans u1).trans u3).trans u4) (h3.up u4)⟩
theorem aVj (C:∀k' ds,Up k k'→SQ k' ds (cJ 8) 2→R k' (.agg ds)) :
 Cl k 192 #[.int .i64 8] R:=by
 intro k0 u0;refine aPi (xO fun k1 d1 u1 h1=>?_);have h1':=h1;obtain⟨a0,a1,a2,a3,rfl,q0,q1,q2,q3⟩:=h1';refine⟨a0,q0.seg,a1,q1.seg,a2,q2.seg,a3,q3.seg,rfl,?_⟩;refine fT h1 oz fun k3 d3 u3 h3=>?_;have h3':=h3;obtain⟨b0,b1,b2,b3,rfl,r0,r1,r2,r3⟩:=h3';exact⟨b0,r0.seg,b1,r1.seg,b2,r2.seg,b3,r3.seg,rfl,fun k4 u4=>C k4 _ (((u0.trans u1).trans u3).trans u4) (h3.up u4)⟩
theorem aVk (C:∀k' ds,Up k k'→SQ k' ds (cJ 9) 2→R k' (.agg ds)) :
 Cl k 192 #[.int .i64 9] R:=by
 intro k0 u0;refine aPj (xN fun k1 d1 u1 h1=>?_);have h1':=h1;obtain⟨a0,a1,a2,a3,rfl,q0,q1,q2,q3⟩:=h1';refine⟨a0,q0.seg,a1,q1.seg,a2,q2.seg,a3,q3.seg,rfl,?_⟩;refine fT h1 oz fun k3 d3 u3 h3=>?_;have h3':=h3;obtain⟨b0,b1,b2,b3,rfl,r0,r1,r2,r3⟩:=h3';exact⟨b0,r0.seg,b1,r1.seg,b2,r2.seg,b3,r3.seg,rfl,fun k4 u4=>C k4 _ (((u0.trans u1).trans u3).trans u4) (h3.up u4)⟩
theorem aOn (C:∀k' ds,Up k k'→SQ k' ds (cJ 10) 2→R k' (.agg ds)) :
 Cl k 192 #[.int .i64 10] R:=by
 intro k0 u0;refine aJg (xM fun k1 d1 u1 h1=>?_);have h1':=h1;obtain⟨a0,a1,a2,a3,rfl,q0,q1,q2,q3⟩:=h1';refine⟨a0,q0.seg,a1,q1.seg,a2,q2.seg,a3,q3.seg,rfl,?_⟩;refine fT h1 oz fun k3 d3 u3 h3=>?_;have h3':=h3;obtain⟨b0,b1,b2,b3,rfl,r0,r1,r2,r3⟩:=h3';exact⟨b0,r0.seg,b1,r1.seg,b2,r2.seg,b3,r3.seg,rfl,fun k4 u4=>C k4 _ (((u0.trans u1).trans u3).trans u4) (h3.up u4)⟩
theorem aOo (C:∀k' ds,Up k k'→SQ k' ds (cJ 11) 2→R k' (.agg ds)) :
 Cl k 192 #[.int .i64 11] R:=by
 intro k0 u0;refine aJh (xL fun k1 d1 u1 h1=>?_);have h1':=h1;obtain⟨a0,a1,a2,a3,rfl,q0,q1,q2,q3⟩:=h1';refine⟨a0,q0.seg,a1,q1.seg,a2,q2.seg,a3,q3.seg,rfl,?_⟩;refine fT h1 oz fun k3 d3 u3 h3=>?_;have h3':=h3;obtain⟨b0,b1,b2,b3,rfl,r0,r1,r2,r3⟩:=h3';exact⟨b0,r0.seg,b1,r1.seg,b2,r2.seg,b3,r3.seg,rfl,fun k4 u4=>C k4 _ (((u0.trans u1).trans u3).trans u4) (h3.up u4)⟩
theorem aOp (C:∀k' ds,Up k k'→SQ k' ds (cJ 12) 2→R k' (.agg ds)) :
 Cl k 192 #[.int .i64 12] R:=by
 intro k0 u0;refine aJi (aGc fun k1 d1 u1 h1=>?_);have h1':=h1;obtain⟨a0,a1,a2,a3,rfl,q0,q1,q2,q3⟩:=h1';refine⟨a0,q0.seg,a1,q1.seg,a2,q2.seg,a3,q3.seg,rfl,?_⟩;refine fT h1 oz fun k3 d3 u3 h3=>?_;have h3':=h3;obtain⟨b0,b1,b2,b3,rfl,r0,r1,r2,r3⟩:=h3';exact⟨b0,r0.seg,b1,r1.seg,b2,r2.seg,b3,r3.seg,rfl,fun k4 u4=>C k4 _ (((u0.trans u1).trans u3).trans u4) (h3.up u4)⟩
theorem aOq (C:∀k' ds,Up k k'→SQ k' ds (cJ 13) 2→R k' (.agg ds)) :
 Cl k 192 #[.int .i64 13] R:=by
 intro k0 u0;refine aJj (xL fun k1 d1 u1 h1=>?_);have h1':=h1;obtain⟨a0,a1,a2,a3,rfl,q0,q1,q2,q3⟩:=h1';refine⟨a0,q0.seg,a1,q1.seg,a2,q2.seg,a3,q3.seg,rfl,?_⟩;refine fT h1 oz fun k3 d3 u3 h3=>?_;have h3':=h3;obtain⟨b0,b1,b2,b3,rfl,r0,r1,r2,r3⟩:=h3';exact⟨b0,r0.seg,b1,r1.seg,b2,r2.seg,b3,r3.seg,rfl,fun k4 u4=>C k4 _ (((u0.trans u1).trans u3).trans u4) (h3.up u4)⟩
theorem aOr (C:∀k' ds,Up k k'→SQ k' ds (cJ 14) 2→R k' (.agg ds)) :
 Cl k 192 #[.int .i64 14] R:=by
 intro k0 u0;refine aJk (xM fun k1 d1 u1 h1=>?_);have h1':=h1;obtain⟨a0,a1,a2,a3,rfl,q0,q1,q2,q3⟩:=h1';refine⟨a0,q0.seg,a1,q1.seg,a2,q2.seg,a3,q3.seg,rfl,?_⟩;refine fT h1 oz fun k3 d3 u3 h3=>?_;have h3':=h3;obtain⟨b0,b1,b2,b3,rfl,r0,r1,r2,r3⟩:=h3';exact⟨b0,r0.seg,b1,r1.seg,b2,r2.seg,b3,r3.seg,rfl,fun k4 u4=>C k4 _ (((u0.trans u1).trans u3).trans u4) (h3.up u4)⟩
theorem aOs (C:∀k' ds,Up k k'→SQ k' ds (cJ 15) 2→R k' (.agg ds)) :
 Cl k 192 #[.int .i64 15] R:=by
 intro k0 u0;refine aJl (xN fun k1 d1 u1 h1=>?_);have h1':=h1;obtain⟨a0,a1,a2,a3,rfl,q0,q1,q2,q3⟩:=h1';refine⟨a0,q0.seg,a1,q1.seg,a2,q2.seg,a3,q3.seg,rfl,?_⟩;refine fT h1 oz fun k3 d3 u3 h3=>?_;have h3':=h3;obtain⟨b0,b1,b2,b3,rfl,r0,r1,r2,r3⟩:=h3';exact⟨b0,r0.seg,b1,r1.seg,b2,r2.seg,b3,r3.seg,rfl,fun k4 u4=>C k4 _ (((u0.trans u1).trans u3).trans u4) (h3.up u4)⟩
theorem aOt (C:∀k' ds,Up k k'→SQ k' ds (cJ 16) 2→R k' (.agg ds)) :
 Cl k 192 #[.int .i64 16] R:=by
 intro k0 u0;refine aJm (xO fun k1 d1 u1 h1=>?_);have h1':=h1;obtain⟨a0,a1,a2,a3,rfl,q0,q1,q2,q3⟩:=h1';refine⟨a0,q0.seg,a1,q1.seg,a2,q2.seg,a3,q3.seg,rfl,?_⟩;refine fT h1 oz fun k3 d3 u3 h3=>?_;have h3':=h3;obtain⟨b0,b1,b2,b3,rfl,r0,r1,r2,r3⟩:=h3';exact⟨b0,r0.seg,b1,r1.seg,b2,r2.seg,b3,r3.seg,rfl,fun k4 u4=>C k4 _ (((u0.trans u1).trans u3).trans u4) (h3.up u4)⟩
theorem aOu (C:∀k' ds,Up k k'→SQ k' ds (cJ 17) 2→R k' (.agg ds)) :
 Cl k 192 #[.int .i64 17] R:=by
 intro k0 u0;refine aJn (xP fun k1 d1 u1 h1=>?_);have h1':=h1;obtain⟨a0,a1,a2,a3,rfl,q0,q1,q2,q3⟩:=h1';refine⟨a0,q0.seg,a1,q1.seg,a2,q2.seg,a3,q3.seg,rfl,?_⟩;refine fT h1 oz fun k3 d3 u3 h3=>?_;have h3':=h3;obtain⟨b0,b1,b2,b3,rfl,r0,r1,r2,r3⟩:=h3';exact⟨b0,r0.seg,b1,r1.seg,b2,r2.seg,b3,r3.seg,rfl,fun k4 u4=>C k4 _ (((u0.trans u1).trans u3).trans u4) (h3.up u4)⟩
theorem aOv (C:∀k' ds,Up k k'→SQ k' ds (cJ 18) 2→R k' (.agg ds)) :
 Cl k 192 #[.int .i64 18] R:=by
 intro k0 u0;refine aJo (aX (in64s oz) (in64s oz) fun k1 d1 u1 h1=>⟨d1,h1.seg,_,rfl,?_⟩);refine aX (in64s oz) (in64s oz) fun k2 d2 u2 h2=>⟨d2,h2.seg,_,rfl,?_⟩;refine aX (in64s oz) (in64s oz) fun k3 d3 u3 h3=>⟨d3,h3.seg,_,rfl,?_⟩;refine aX (in64s oz) (in64s oz) fun k4 d4 u4 h4=>⟨d4,h4.seg,_,rfl,fun k9 u9=>?_⟩;exact C k9 _ (((((u0.trans u1).trans u2).trans u3).trans u4).trans u9) ⟨d1,d2,d3,d4,rfl,((((h1.up u2).up u3).up u4).up u9).cast (by decide +kernel),(((h2.up u3).up u4).up u9).cast (by decide +kernel),((h3.up u4).up u9).cast (by decide +kernel),(h4.up u9).cast (by decide +kernel)⟩
theorem aOw (C:∀k' ds,Up k k'→SQ k' ds (cJ 19) 2→R k' (.agg ds)) :
 Cl k 192 #[.int .i64 19] R:=by
 intro k0 u0;refine aJp (aX (in64s oz) (in64s oz) fun k1 d1 u1 h1=>⟨d1,h1.seg,_,rfl,?_⟩);refine aX (in64s oz) (in64s oz) fun k2 d2 u2 h2=>⟨d2,h2.seg,_,rfl,?_⟩;refine aX (in64s oz) (in64s oz) fun k3 d3 u3 h3=>⟨d3,h3.seg,_,rfl,?_⟩;refine aX (in64s oz) (in64s oz) fun k4 d4 u4 h4=>⟨d4,h4.seg,_,rfl,fun k9 u9=>?_⟩;exact C k9 _ (((((u0.trans u1).trans u2).trans u3).trans u4).trans u9) ⟨d1,d2,d3,d4,rfl,((((h1.up u2).up u3).up u4).up u9).cast (by decide +kernel),(((h2.up u3).up u4).up u9).cast (by decide +kernel),((h3.up u4).up u9).cast (by decide +kernel),(h4.up u9).cast (by decide +kernel)⟩
theorem aOy (C:∀k' ds,Up k k'→SQ k' ds (cJ 20) 2→R k' (.agg ds)) :
 Cl k 192 #[.int .i64 20] R:=by
 intro k0 u0;refine aJq (aX (in64s oz) (in64s oz) fun k1 d1 u1 h1=>⟨d1,h1.seg,_,rfl,?_⟩);refine aX (in64s oz) (in64s oz) fun k2 d2 u2 h2=>⟨d2,h2.seg,_,rfl,?_⟩;refine aX (in64s oz) (in64s oz) fun k3 d3 u3 h3=>⟨d3,h3.seg,_,rfl,?_⟩;refine aX (in64s oz) (in64s oz) fun k4 d4 u4 h4=>⟨d4,h4.seg,_,rfl,fun k9 u9=>?_⟩;exact C k9 _ (((((u0.trans u1).trans u2).trans u3).trans u4).trans u9) ⟨d1,d2,d3,d4,rfl,((((h1.up u2).up u3).up u4).up u9).cast (by decide +kernel),(((h2.up u3).up u4).up u9).cast (by decide +kernel),((h3.up u4).up u9).cast (by decide +kernel),(h4.up u9).cast (by decide +kernel)⟩
theorem aOz (C:∀k' ds,Up k k'→SQ k' ds (cJ 21) 2→R k' (.agg ds)) :
 Cl k 192 #[.int .i64 21] R:=by
 intro k0 u0;refine aJr (aX (in64s oz) (in64s oz) fun k1 d1 u1 h1=>⟨d1,h1.seg,_,rfl,?_⟩);refine aX (in64s oz) (in64s oz) fun k2 d2 u2 h2=>⟨d2,h2.seg,_,rfl,?_⟩;refine aX (in64s oz) (in64s oz) fun k3 d3 u3 h3=>⟨d3,h3.seg,_,rfl,?_⟩;refine aX (in64s oz) (in64s oz) fun k4 d4 u4 h4=>⟨d4,h4.seg,_,rfl,fun k9 u9=>?_⟩;exact C k9 _ (((((u0.trans u1).trans u2).trans u3).trans u4).trans u9) ⟨d1,d2,d3,d4,rfl,((((h1.up u2).up u3).up u4).up u9).cast (by decide +kernel),(((h2.up u3).up u4).up u9).cast (by decide +kernel),((h3.up u4).up u9).cast (by decide +kernel),(h4.up u9).cast (by decide +kernel)⟩
theorem aPa (C:∀k' ds,Up k k'→SQ k' ds (cJ 22) 2→R k' (.agg ds)) :
 Cl k 192 #[.int .i64 22] R:=by
 intro k0 u0;refine aJs (aX (in64s oz) (in64s oz) fun k1 d1 u1 h1=>⟨d1,h1.seg,_,rfl,?_⟩);refine aX (in64s oz) (in64s oz) fun k2 d2 u2 h2=>⟨d2,h2.seg,_,rfl,?_⟩;refine aX (in64s oz) (in64s oz) fun k3 d3 u3 h3=>⟨d3,h3.seg,_,rfl,?_⟩;refine aX (in64s oz) (in64s oz) fun k4 d4 u4 h4=>⟨d4,h4.seg,_,rfl,fun k9 u9=>?_⟩;exact C k9 _ (((((u0.trans u1).trans u2).trans u3).trans u4).trans u9) ⟨d1,d2,d3,d4,rfl,((((h1.up u2).up u3).up u4).up u9).cast (by decide +kernel),(((h2.up u3).up u4).up u9).cast (by decide +kernel),((h3.up u4).up u9).cast (by decide +kernel),(h4.up u9).cast (by decide +kernel)⟩
theorem aPb (C:∀k' ds,Up k k'→SQ k' ds (cJ 23) 2→R k' (.agg ds)) :
 Cl k 192 #[.int .i64 23] R:=by
 intro k0 u0;refine aJt (aX (in64s oz) (in64s oz) fun k1 d1 u1 h1=>⟨d1,h1.seg,_,rfl,?_⟩);refine aX (in64s oz) (in64s oz) fun k2 d2 u2 h2=>⟨d2,h2.seg,_,rfl,?_⟩;refine aX (in64s oz) (in64s oz) fun k3 d3 u3 h3=>⟨d3,h3.seg,_,rfl,?_⟩;refine aX (in64s oz) (in64s oz) fun k4 d4 u4 h4=>⟨d4,h4.seg,_,rfl,fun k9 u9=>?_⟩;exact C k9 _ (((((u0.trans u1).trans u2).trans u3).trans u4).trans u9) ⟨d1,d2,d3,d4,rfl,((((h1.up u2).up u3).up u4).up u9).cast (by decide +kernel),(((h2.up u3).up u4).up u9).cast (by decide +kernel),((h3.up u4).up u9).cast (by decide +kernel),(h4.up u9).cast (by decide +kernel)⟩
theorem aPk {n:Nat}(hn:n<24) (C:∀k' ds,Up k k'→SQ k' ds (cJ n) 2→R k' (.agg ds)) :
 Cl k 192 #[.int .i64 (n:Int)] R:=by
 match n,hn with
 | 0,_=>exact aGc C
 | 1,_=>exact xL C
 | 2,_=>exact xM C
 | 3,_=>exact xN C
 | 4,_=>exact xO C
 | 5,_=>exact xP C
 | 6,_=>exact aVh C
 | 7,_=>exact aVi C
 | 8,_=>exact aVj C
 | 9,_=>exact aVk C
 | 10,_=>exact aOn C
 | 11,_=>exact aOo C
 | 12,_=>exact aOp C
 | 13,_=>exact aOq C
 | 14,_=>exact aOr C
 | 15,_=>exact aOs C
 | 16,_=>exact aOt C
 | 17,_=>exact aOu C
 | 18,_=>exact aOv C
 | 19,_=>exact aOw C
 | 20,_=>exact aOy C
 | 21,_=>exact aOz C
 | 22,_=>exact aPa C
 | 23,_=>exact aPb C
 | n+24,h=>exact absurd h oq
theorem aGg {n:Int}(C:∀k' ds,Up k k'→WQ k' ds (oN (plc n)) 2→R k' (.agg ds)) :
 Cl k 84 #[.int .i64 n] R:=by
 intro k0 u0;have hl:=aNy n;have e:Int.tmod (wrap .i64 ((plc n:Int)+18)) 24=(((plc n+18) % 24:Nat):Int):=by
  generalize plc n=m at hl ⊢;rw [je,Int.tmod_eq_emod_of_nonneg oq];omega
 refine aOl ?_;rw [aNx,e];refine aPk hl fun k2 d2 u2 h2=>⟨d2,h2.seg,rfl,?_⟩;refine aPk (qg _ oz) fun k4 d4 u4 h4=>⟨d4,h4.seg,rfl,fun k5 u5=>?_⟩;exact C k5 _ (((u0.trans u2).trans u4).trans u5) ⟨d2,d4,rfl,(h2.up u4).up u5,h4.up u5⟩
end
end Go.Proofs.YtmifbgccpdmjpaaGreat.W32

namespace Go.Proofs.YtmifbgccpdmjpaaGreat
open Go.RowKit Num
open Sy (Up Sees CallsG Seg)
def Bel (v:Q4) (b:Nat):Prop:=∃(y0 y1 y2 y3:Int) (m:Nat),0<m∧v=mkQ y0 y1 y2 y3 m∧y0.natAbs<b∧y1.natAbs<b∧y2.natAbs<b∧y3.natAbs<b∧m<b
section
variable {k k':World}{cs cs':Array Value}{R:World→Value→Prop}{v v':Q4}{x y:W4}{K L M b c:Nat}
end
