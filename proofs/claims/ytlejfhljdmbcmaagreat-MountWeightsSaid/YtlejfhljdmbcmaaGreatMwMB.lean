/- Several texts in one. (Printed by prep.py.) -/
import Derived.Test.YtlejfhljdmbcmaaGreatMwTB
namespace Go.Proofs.YtlejfhljdmbcmaaGreat
open Go.RowKit
open Sy (Seg)
def zS:List Value:=[.bool false,.slice none 0 0,.bool false,.slice none 0 0,.bool false,.slice none 0 0,.bool false,.slice none 0 0,.slice none 0 0]
def zT:List Value:=[.bool false,.slice none 0 0,.slice none 0 0,.bool false,.slice none 0 0,.slice none 0 0,.bool false,.slice none 0 0,.slice none 0 0,.bool false,.slice none 0 0,.slice none 0 0]
def aTa (n:Nat) (z:List Value):Array Value:=(List.replicate n z).flatten.toArray
def elt (cs:Array Value) (s i:Nat):Array Value:=(Sy.pickL cs (i*s+0) s).toArray
structure Arr (n s:Nat) (E:Nat→Array Value→Prop) (cs:Array Value):Prop where
 size:cs.size=n*s
 el:∀i,i<n→E i (elt cs s i)
section
variable {n s i:Nat}{E E':Nat→Array Value→Prop}{cs ys:Array Value}
theorem zG:∀(l:List Value) (cs:Array Value) (o q:Nat),o+l.length≤cs.size→(Sy.over cs o l)[q]?=if o≤q∧q<o+l.length then l[q-o]? else cs[q]?:=by
 intro l cs o q h;rw [←qn,Sy.over_eq l cs o h,←qn];have hl:cs.toList.length=cs.size:=zm;simp only [jh,og,vf,zl,vg,hl];have e:min o cs.size=o:=oq
 rw [e]
 by_cases h1:q<o
 ·rw [od oq,od h1,od h1,oh oq]
 ·by_cases h2:q<o+l.length
  ·rw [od h2,oh h1,od ⟨oq,h2⟩]
  ·rw [oh h2,oh oq]
   congr 1
   omega
theorem gI (cs:Array Value) (s i q:Nat) (hq:q<s) (hs:(i+1)*s≤cs.size):(elt cs s i)[q]?=cs[i*s+q]?:=by
 have hm:(i+1)*s=i*s+s:=zh _ _;unfold elt Sy.pickL;rw [←qn,jt,vz hq,jj];simp only [jd];rw [oo oq];rfl
theorem kF (cs:Array Value) (s i:Nat):(elt cs s i).size=s:=by simp [elt,Sy.pickL]
theorem nC {a:Array Value}(ha:a.size=s) (h:∀q,q<s→(elt cs s i)[q]?=a[q]?):elt cs s i=a:=by
 apply zx;intro q
 by_cases hq:q<s
 ·exact h q hq
 ·rw [qa (by rw [kF];omega),qa oq]
theorem aJe {j:Nat}(hs:cs.size=n*s) (hi:i<n) (hj:j<n) (hy:ys.size=s):elt (Sy.over cs (i*s+0) ys.toList) s j=if j=i then ys else elt cs s j:=by
 have h1:(i+1)*s≤n*s:=oi s hi;have h2:(j+1)*s≤n*s:=oi s hj;have h3:(i+1)*s=i*s+s:=zh _ _;have h4:(j+1)*s=j*s+s:=zh _ _;have hl:ys.toList.length=s:=by simpa using hy
 by_cases e:j=i
 ·subst e;rw [od rfl];refine nC hy fun q hq=>?_;rw [gI _ _ _ _ hq (by rw [Sy.over_size];omega),zG _ _ _ _ oq,od ⟨oq,oq⟩];rw [←qn]
  congr 1
  omega
 ·rw [oh e];refine nC (kF _ _ _) fun q hq=>?_;rw [gI _ _ _ _ hq (by rw [Sy.over_size];omega),zG _ _ _ _ oq,gI _ _ _ _ hq oq,oh];rintro⟨a,b⟩;rcases Nat.lt_or_gt_of_ne e with e|e
  ·have:=oi s e;have h5:(j.succ)*s=j*s+s:=zh _ _;omega
  ·have:=oi s e;have h5:(i.succ)*s=i*s+s:=zh _ _;omega
theorem Arr.mono (h:Arr n s E cs) (hE:∀i a,i<n→E i a→E' i a):Arr n s E' cs:=⟨h.size,fun i hi=>hE i _ hi (h.el i hi)⟩
theorem Arr.set (h:Arr n s E cs) (hi:i<n) (hy:ys.size=s) (h1:E' i ys) (h2:∀j a,j<n→j≠i→E j a→E' j a):Arr n s E' (Sy.over cs (Int.toNat (i:Int)*s+0) ys.toList):=by
 refine⟨by rw [Sy.over_size];exact h.size,fun j hj=>?_⟩;show E' j (elt (Sy.over cs (i*s+0) ys.toList) s j);rw [aJe h.size hi hj hy];split
 ·rename_i e;subst e;exact h1
 ·rename_i e;exact h2 j _ hj e (h.el j hj)
theorem Arr.seg (h:Arr n s E cs) (hE:∀i a,i<n→E i a→Seg s a):Seg (n*s) cs:=by
 refine⟨h.size,fun u hu=>?_⟩;obtain⟨p,hp,rfl⟩:=List.getElem_of_mem hu;have hp':p<n*s:=by rw [←h.size];simpa using hp
 have hs:0<s:=zz fun e=>by subst e;omega
 have hi:p/s<n:=(qy hs).2 hp';have hsg:=hE _ _ hi (h.el _ hi);have hq:=qp p hs;have hd:=ju p s;have e:(elt cs s (p/s))[p % s]?=cs[p]?:=by
  have h1:(p/s+1)*s≤n*s:=oi s hi;rw [gI _ _ _ _ hq (by rw [h.size];exact h1)]
  congr 1
  rw [qx];exact hd
 have hc:cs[p]?=some cs.toList[p]:=by rw [←qn];exact ql hp
 refine hsg.2 _ ?_;rw [hc,←qn]at e;exact zj e
theorem Arr.rep {a:Array Value}(n:Nat) (ha:a.size=s) (h:∀i,i<n→E i a):Arr n s E (List.replicate n a.toList).flatten.toArray:=by
 have hl:∀m,(List.replicate m a.toList).flatten.length=m*s:=fun m=>by
  induction m with
  | zero=>simp
  | succ m ih=>rw [List.replicate_succ,List.flatten_cons,og,ih,zm,ha,zh,vv]
 have hg:∀m i q,i<m→q<s→(List.replicate m a.toList).flatten[i*s+q]?=a[q]?:=by
  intro m
  induction m with
  | zero=>intro i q hi;omega
  | succ m ih=>
   intro i q hi hq;rw [List.replicate_succ,List.flatten_cons,jh,zm,ha];cases i with
   | zero=>rw [od oq,vm,qe,qn]
   | succ i=>
    have h3:(i+1)*s=i*s+s:=zh _ _;rw [oh oq];have:=ih i q oq hq;rw [←this]
    congr 1
    omega
 refine⟨by simpa using hl n,fun i hi=>?_⟩;have e:elt (List.replicate n a.toList).flatten.toArray s i=a:=by
  refine nC ha fun q hq=>?_;have h1:(i+1)*s≤n*s:=oi s hi;rw [gI _ _ _ _ hq (by simpa [hl] using h1)];have:=hg n i q hi hq;rw [←qn];exact this
 rw [e];exact h i hi
end
def ArrV {α:Type}(n s:Nat) (P:Array Value→α→Prop) (cs:Array Value) (f:Nat→α):Prop:=Arr n s (fun i a=>P a (f i)) cs
def cut {α:Type}(j:Nat) (F G:Nat→α) (i:Nat):α:=if i<j then F i else G i
section
variable {α:Type}{n s i j:Nat}{P Q:Array Value→α→Prop}{cs ys:Array Value}{f g F G:Nat→α}
theorem ArrV.mono (h:ArrV n s P cs f) (hP:∀a v,P a v→Q a v):ArrV n s Q cs f:=Arr.mono h fun _ _ _=>hP _ _
theorem ArrV.congr (h:ArrV n s P cs f) (e:∀i,i<n→f i=g i):ArrV n s P cs g:=Arr.mono h fun i _ hi h=>by rw [←e i hi];exact h
theorem ArrV.seg (h:ArrV n s P cs f) (hP:∀a v,P a v→Seg s a):Seg (n*s) cs:=Arr.seg h fun _ _ _=>hP _ _
theorem ArrV.set (h:ArrV n s P cs f) (hi:i<n) (hs:ys.size=s) (hy:P ys (g i)) (e:∀j,j<n→j≠i→f j=g j):ArrV n s P (Sy.over cs (Int.toNat (i:Int)*s+0) ys.toList) g:=
 Arr.set h hi hs hy fun j _ hj hne h=>by rw [←e j hj hne];exact h
theorem ArrV.step (h:ArrV n s P cs (cut j F G)) (hj:j<n) (hs:ys.size=s) (hy:P ys (F j)):ArrV n s P (Sy.over cs (Int.toNat (j:Int)*s+0) ys.toList) (cut (j+1) F G):=
 ArrV.set h hj hs (by unfold cut;rw [od (Nat.lt_succ_self j)];exact hy) fun i _ hne=>by
  unfold cut
  by_cases c:i<j
  ·rw [od c,od oq]
  ·rw [oh c,oh oq]
theorem ArrV.start (h:ArrV n s P cs G):ArrV n s P cs (cut 0 F G):=h.congr fun _ _=>(oh (xx _)).symm
theorem ArrV.done (h:ArrV n s P cs (cut j F G)) (hj:n≤j):ArrV n s P cs F:=h.congr fun _ hi=>od oq
theorem ArrV.zero {z:List Value}(hz:z.length=s) (v:α) (h:P z.toArray v):ArrV n s P (aTa n z) fun _=>v:=Arr.rep (a:=z.toArray) n (by simpa using hz) fun _ _=>h
def optP (s:Nat) (P:Array Value→α→Prop) (a:Array Value):Option α→Prop
 | none=>Seg s a
 | some v=>P a v
theorem ArrV.all (h:ArrV n s (optP s P) cs fun i=>some (f i)):ArrV n s P cs f:=h
theorem optP.seg {a:Array Value}{v:Option α}(hP:∀v,P a v→Seg s a) (h:optP s P a v):Seg s a:=by
 cases v with
 | none=>exact h
 | some v=>exact hP v h
end
open Num Plain
namespace Q23L
end Q23L
open Q23L
open Num Plain Q23L
noncomputable def sgd (a b:Q4):Int:=C.sg (a.sub b).toQ
theorem aAf {a b:Q4}:sgd a b=0↔a=b:=by
 unfold sgd;rw [C.aCm];constructor
 ·intro h;exact Q4.sub_zero_iff.1 (xG (h.trans toQ_zero.symm))
 ·intro h;rw [Q4.sub_zero_iff.2 h,toQ_zero]
theorem nV (a:Q4):sgd a a=0:=aAf.2 rfl
theorem wZ (a b:Q4):sgd b a=- sgd a b:=by
 unfold sgd;rw [←C.aMx,rI,rI]
 congr 1
 generalize a.toQ=p;generalize b.toQ=q
 (refine Q23.ext' (Q2.ext' ?_ ?_) (Q2.ext' ?_ ?_) <;> (simp only [Q23.neg_re,Q23.neg_im,Q23.sub_re,Q23.sub_im,Q2.neg_re,Q2.neg_im,Q2.sub_re,Q2.sub_im];grind))
theorem vD {a b c:Q4}(h:sgd a b≤0) (h':sgd b c≤0):sgd a c≤0:=by
 unfold sgd at *
 rw [rI]at *
 exact C.ord6 h h'
theorem aCn {a b c:Q4}(h:sgd a b≤0) (h':sgd b c<0):sgd a c<0:=by
 have h1:=vD h (Int.le_of_lt h');have hne:sgd a c≠0:=fun e=>by
  have:=aAf.1 e;subst this;rw [wZ]at h';omega
 omega
theorem vJ:qH 0=W4.real 1:=by decide +kernel
theorem W4.mul_one (x:W4):x.mul (W4.real 1)=x:=by
 refine W4.ext' (xG ?_) (xG ?_)
 ·show ((x.re.mul (Q4.real 1)).sub (x.im.mul Q4.zero)).toQ=_;rw [rI,rH,rH,toQ_zero,show (Q4.real 1).toQ=1 from rfl];generalize x.re.toQ=p;generalize x.im.toQ=q
  (refine Q23.ext' (Q2.ext' ?_ ?_) (Q2.ext' ?_ ?_) <;> (simp only [Q23.mul_re,Q23.mul_im,Q23.sub_re,Q23.sub_im,Q23.one_re,Q23.one_im,Q23.zero_re,Q23.zero_im,Q2.add_re,Q2.add_im,Q2.mul_re,Q2.mul_im,Q2.sub_re,Q2.sub_im,Q2.one_re,Q2.one_im,Q2.zero_re,Q2.zero_im,Q2.three_re,Q2.three_im];grind))
 ·show ((x.re.mul Q4.zero).add (x.im.mul (Q4.real 1))).toQ=_;rw [aSq,rH,rH,toQ_zero,show (Q4.real 1).toQ=1 from rfl];generalize x.re.toQ=p;generalize x.im.toQ=q
  (refine Q23.ext' (Q2.ext' ?_ ?_) (Q2.ext' ?_ ?_) <;> (simp only [Q23.add_re,Q23.add_im,Q23.mul_re,Q23.mul_im,Q23.one_re,Q23.one_im,Q23.zero_re,Q23.zero_im,Q2.add_re,Q2.add_im,Q2.mul_re,Q2.mul_im,Q2.one_re,Q2.one_im,Q2.zero_re,Q2.zero_im,Q2.three_re,Q2.three_im];grind))
def fAt (x:W4) (k:Nat):Q4:=(x.mul (qH ((24-k) % 24))).re
theorem yL (x:W4):fAt x 0=x.re:=by
 unfold fAt;rw [show (24-0) % 24=0 from rfl,vJ,W4.mul_one]
noncomputable def hi (x:W4):Nat→Nat×Q4
 | 0=>(0,x.re)
 | j+1=>if 0<sgd (fAt x (j+1)) (hi x j).2 then (j+1,fAt x (j+1)) else hi x j
theorem aDn (x:W4) (j:Nat):(hi x j).1≤j∧(hi x j).2=fAt x (hi x j).1∧(∀i,i≤j→sgd (fAt x i) (hi x j).2≤0)∧∀i,i<(hi x j).1→sgd (fAt x i) (hi x j).2<0:=by
 induction j with
 | zero=>
  refine⟨oy _,(yL x).symm,fun i hi=>?_,fun i hi=>absurd hi (xx _)⟩;have:i=0:=oq
  subst this;rw [yL];show sgd x.re x.re≤0;rw [nV];decide
 | succ j ih=>
  obtain⟨h1,h2,h3,h4⟩:=ih
  by_cases hc:0<sgd (fAt x (j+1)) (hi x j).2
  ·have e:hi x (j+1)=(j+1,fAt x (j+1)):=by show (if _ then _ else _)=_;rw [od hc]
   rw [e];have hb:sgd (hi x j).2 (fAt x (j+1))<0:=by rw [wZ];omega
   have hs:∀i,i≤j→sgd (fAt x i) (fAt x (j+1))<0:=fun i hi=>aCn (h3 i hi) hb;refine⟨oy _,rfl,fun i hi=>?_,fun i hi=>hs i (by have:i<j+1:=hi;omega)⟩
   by_cases e2:i=j+1
   ·subst e2;show sgd (fAt x (j+1)) (fAt x (j+1))≤0;rw [nV];decide
   ·exact Int.le_of_lt (hs i oq)
  ·have e:hi x (j+1)=hi x j:=by show (if _ then _ else _)=_;rw [oh hc]
   rw [e];refine⟨oq,h2,fun i hi=>?_,h4⟩
   by_cases e2:i=j+1
   ·subst e2;omega
   ·exact h3 i oq
noncomputable def cnt (x:W4) (s:Q4) (k:Nat):Nat:=((List.range k).filter fun i=>decide (sgd (fAt x i) s=0)).length
def sg2F (a b:Rat):Int:=dE a.num.sign b.num.sign (a*a-2*(b*b)).num.sign
theorem aCl (a b:Rat):B.sg (⟨a,b⟩:Q2)=sg2F a b:=by rw [←aTm,aEg,aEg,aEg];rfl
def sgF (v:Q4):Int:=dE (sg2F v.a v.b) (sg2F v.c v.d) (sg2F (v.a*v.a+2*(v.b*v.b)-3*(v.c*v.c+2*(v.d*v.d))) (v.a*v.b+v.b*v.a-3*(v.c*v.d+v.d*v.c)))
theorem aWb (v:Q4):C.sg v.toQ=sgF v:=by
 show C.sg (⟨⟨v.a,v.b⟩,⟨v.c,v.d⟩⟩:Q23)=_;rw [←aMy,aCl,aCl];unfold sgF;rw [←aCl (v.a*v.a+2*(v.b*v.b)-3*(v.c*v.c+2*(v.d*v.d)))]
 congr 1
 congr 1
 refine Q2.ext' ?_ ?_ <;> (simp only [Q2.mul_re,Q2.mul_im,Q2.sub_re,Q2.sub_im,Q2.three_re,Q2.three_im];grind)
open IntKind (wrap)
open Value (agg slice int bool tuple)
open Sy (Up Sees CallsG Seg execFn_use)
set_option maxRecDepth 100000
variable {k:World}{R:World→Value→Prop}{cs0 cs1:Array Value}
theorem aNt (hcs0:Seg 9 cs0) (hcs1:Seg 9 cs1)
 (h:∃I0:Nat→World→List Value→Prop,(∃m0,∀k0,Up k k0→I0 m0 k0 [int .i64 0,int .i64 1,agg cs0])∧
 ∀m0 k0 vs0,Up k k0→I0 m0 k0 vs0→∃n2,∃n3,∃cs4,Seg 9 cs4∧some [int .i64 n2,int .i64 n3,agg cs4]=some vs0∧
 Br (decide ((n3:Int)<24)) (Cl k0 113 #[int .i64 (wrap .i64 (0-n3))] fun k2 r1=>∃cs5,Seg 9 cs5∧∃cs6,Seg 9 cs6∧some (agg (cs5.toList++(cs6.toList++([]))).toArray)=some r1∧
 Cl k2 24 #[agg (cs0.toList++(cs1.toList++([]))).toArray,agg (cs5.toList++(cs6.toList++([]))).toArray] fun k4 r3=>∃cs7,Seg 9 cs7∧∃cs8,Seg 9 cs8∧some (agg (cs7.toList++(cs8.toList++([]))).toArray)=some r3∧
 Cl k4 16 #[agg cs7,agg cs4] fun k6 r5=>Gi r5 fun n9=>
 Br (decide ((n9:Int) > 0)) (∀k7,Up k6 k7→∃m,m<m0∧I0 m k7 [int .i64 n3,int .i64 (wrap .i64 (n3+1)),agg cs7]) (∀k8,Up k6 k8→∃m,m<m0∧I0 m k8 [int .i64 n2,int .i64 (wrap .i64 (n3+1)),agg cs4])) (Rt R k0 (tuple #[int .i64 n2,agg cs4]))) :
  CallsG Tryz.prog 138 #[agg (cs0.toList++(cs1.toList++([]))).toArray] k R:=
  qX { opq:=[32],loops:=[(0,[.tmp 5 false [.int .i64],.tmp 6 false [.int .i64],.blk 2 [.seg 9]])] } [.agg [.seg 0 9,.seg 1 9]] [agg cs0,agg cs1] [.seg 9,.seg 9] ⟨⟨cs0,rfl,hcs0⟩,⟨cs1,rfl,hcs1⟩,trivial⟩ h
end Go.Proofs.YtlejfhljdmbcmaaGreat

namespace Go.Proofs.YtlejfhljdmbcmaaGreat
open IntKind (wrap)
open Go.RowKit Num Plain
open Sy (Up Sees CallsG Seg)
section
variable {k k':World}{R:World→Value→Prop}{K L:Nat}{cs cs':Array Value}{x y:W4}{v v':Q4}
theorem aKs {j:Nat}(hj:j<24):plc (wrap .i64 (0-(j:Int)))=(24-j) % 24:=by
 have hw:wrap .i64 (0-(j:Int))=0-(j:Int):=by rw [zt];omega
 rw [hw];unfold plc;omega
theorem rK {j:Nat}(hj:j<100):wrap .i64 ((j:Int)+1)=((j+1:Nat):Int):=by rw [zt];omega
theorem aJl (hx:WaveV k cs x K) (hK1:1≤K) (hK:K≤1000000) (C:∀k' ds,Up k k'→SurdV k' ds (hi x 23).2 (4*K+9)→R k' (.tuple #[.int .i64 ((hi x 23).1:Int),.agg ds])) :
 Cl k 138 #[.agg cs] R:=by
 intro k0 u0;replace hx:=hx.up u0;replace C:=fun k' ds u=>C k' ds (u0.trans u);have hx':=hx;obtain⟨a,b,rfl,a0,b0⟩:=hx';refine aNt a0.seg b0.seg ⟨fun m k' vs=>∃j c,j≤23∧m=23-j∧vs=[.int .i64 ((hi x j).1:Int),.int .i64 ((j+1:Nat):Int),.agg c]∧SurdV k' c (hi x j).2 (4*K+9),⟨23,fun k' u=>⟨0,a,oq,rfl,rfl,(a0.up u).mono oq⟩⟩,?_⟩;rintro m k1 vs u1 ⟨j,c,hj,rfl,rfl,hb⟩;refine⟨_,_,c,hb.seg,rfl,fun hlt=>?_,fun hge k9 u9=>?_⟩
 ·have hlt:=ow hlt;refine rL fun k2 d2 u2 hT=>?_;rw [aKs (j:=j+1) oq]at hT;have hT':=hT;obtain⟨p,q,rfl,p0,q0⟩:=hT';refine⟨p,p0.seg,q,q0.seg,rfl,?_⟩;refine vM ((hx.up u1).up u2) (hT.mono hK1) hK1 oq fun k4 d4 u4 hM=>?_;obtain⟨r,s,rfl,r0,s0⟩:=hM;refine⟨r,r0.seg,s,s0.seg,rfl,?_⟩;refine aIl r0 ((hb.up u2).up u4) oq oq fun k6 u6=>⟨_,rfl,fun hc=>?_,fun hc=>?_⟩
  ·have hc:0<sgd (fAt x (j+1)) (hi x j).2:=ow hc;have e:hi x (j+1)=(j+1,fAt x (j+1)):=by show (if _ then _ else _)=_;rw [od hc]
   intro k7 u7;refine⟨23-(j+1),oq,j+1,r,oq,rfl,?_,?_⟩
   ·rw [e,rK oq]
   ·rw [e];exact (r0.up u6).up u7
  ·have hc:¬ 0<sgd (fAt x (j+1)) (hi x j).2:=ov hc;have e:hi x (j+1)=hi x j:=by show (if _ then _ else _)=_;rw [oh hc]
   intro k7 u7;refine⟨23-(j+1),oq,j+1,c,oq,rfl,?_,?_⟩
   ·rw [e,rK oq]
   ·rw [e];exact (((hb.up u2).up u4).up u6).up u7
 ·have hge:=ov hge;have e:j=23:=oq
  subst e;exact C k9 c (u1.trans u9) (hb.up u9)
end
open Num Plain Q23L
def gAt (p:W4) (k:Nat):Q4:=(p.mul (qH k)).re
noncomputable def lo (p:W4):Nat→Nat×Q4
 | 0=>(0,p.re)
 | j+1=>if sgd (gAt p (j+1)) (lo p j).2<0 then (j+1,gAt p (j+1)) else lo p j
theorem yO (p:W4):gAt p 0=p.re:=by
 unfold gAt;rw [vJ,W4.mul_one]
theorem aQh (p:W4) (j:Nat):(lo p j).1≤j∧(lo p j).2=gAt p (lo p j).1∧∀i,i≤j→sgd (lo p j).2 (gAt p i)≤0:=by
 induction j with
 | zero=>
  refine⟨oy _,(yO p).symm,fun i hi=>?_⟩;have:i=0:=oq
  subst this;rw [yO];show sgd p.re p.re≤0;rw [nV];decide
 | succ j ih=>
  obtain⟨h1,h2,h3⟩:=ih
  by_cases hc:sgd (gAt p (j+1)) (lo p j).2<0
  ·have e:lo p (j+1)=(j+1,gAt p (j+1)):=by show (if _ then _ else _)=_;rw [od hc]
   rw [e];refine⟨oy _,rfl,fun i hi=>?_⟩
   by_cases e2:i=j+1
   ·subst e2;show sgd (gAt p (j+1)) (gAt p (j+1))≤0;rw [nV];decide
   ·exact vD (Int.le_of_lt hc) (h3 i oq)
  ·have e:lo p (j+1)=lo p j:=by show (if _ then _ else _)=_;rw [oh hc]
   rw [e];refine⟨oq,h2,fun i hi=>?_⟩
   by_cases e2:i=j+1
   ·subst e2;rw [wZ];omega
   ·exact h3 i oq
def aVt (a b:W4) (k:Nat):W4:=a.add (b.mul (qH k))
noncomputable def xV (a b:W4):Nat:=(lo (a.conj.mul b) 23).1
noncomputable def aDg (a b:W4):Q4:=(aVt a b (xV a b)).norm
def aWe (a b:Q4):Int:=sgF (a.sub b)
theorem aEh (a b:Q4):sgd a b=aWe a b:=aWb _
def loF (p:W4):Nat→Nat×Q4
 | 0=>(0,p.re)
 | j+1=>if aWe (gAt p (j+1)) (loF p j).2<0 then (j+1,gAt p (j+1)) else loF p j
theorem aVc (p:W4) (j:Nat):lo p j=loF p j:=by
 induction j with
 | zero=>rfl
 | succ j ih=>
  show (if _ then _ else _)=(if _ then _ else _);rw [ih,aEh]
def hiF (x:W4):Nat→Nat×Q4
 | 0=>(0,x.re)
 | j+1=>if 0<aWe (fAt x (j+1)) (hiF x j).2 then (j+1,fAt x (j+1)) else hiF x j
theorem aJk (x:W4) (j:Nat):hi x j=hiF x j:=by
 induction j with
 | zero=>rfl
 | succ j ih=>
  show (if _ then _ else _)=(if _ then _ else _);rw [ih,aEh]
theorem mS:xV ⟨⟨3,0,0,0⟩,Q4.zero⟩ ⟨Q4.zero,⟨2,0,0,0⟩⟩=6:=by
 unfold xV;rw [aVc];decide +kernel
theorem tL:(hi ⟨⟨3,0,0,0⟩,Q4.zero⟩ 23).1=0:=by rw [aJk];decide +kernel
theorem tM:(hi ⟨Q4.zero,⟨2,0,0,0⟩⟩ 23).1=6:=by rw [aJk];decide +kernel
theorem wH:(aVt ⟨⟨3,0,0,0⟩,Q4.zero⟩ ⟨Q4.zero,⟨2,0,0,0⟩⟩ 6).norm=⟨1,0,0,0⟩:=by decide +kernel
open Value (agg slice int bool tuple)
open Sy (Up Sees CallsG Seg execFn_use)
set_option maxRecDepth 100000
variable {k:World}{R:World→Value→Prop}{cs0 cs1:Array Value}{n0 n1 n2 n3 n4 n5:Int}
theorem aQn (hcs0:Seg 18 cs0) (hcs1:Seg 18 cs1)
 (h:Cl k 113 #[int .i64 n2] fun k1 r0=>Gt 18 r0 fun cs3=>
 Cl k1 24 #[agg cs1,agg cs3] fun k3 r2=>Gt 18 r2 fun cs4=>
 Cl k3 23 #[agg cs0,agg cs4] fun k5 r4=>Gt 18 r4 fun cs5=>
 Rt R k5 (agg cs5)) :
  CallsG Tryz.prog 116 #[agg cs0,agg cs1,int .i64 n2] k R:=
  qX { opq:=[34] } [.agg [.seg 0 18],.agg [.seg 1 18],.one (.var 2)] [agg cs0,agg cs1,int .i64 n2] [.seg 18,.seg 18,.int .i64] ⟨⟨cs0,rfl,hcs0⟩,⟨cs1,rfl,hcs1⟩,⟨_,rfl⟩,trivial⟩ h
theorem aJt (hcs0:Seg 18 cs0) (hcs1:Seg 18 cs1)
 (h:Cl k 20 #[agg cs0] fun k1 r0=>Gt 18 r0 fun cs2=>
 Cl k1 24 #[agg cs2,agg cs1] fun k3 r2=>Gt 18 r2 fun cs3=>
 Cl k3 88 #[agg cs3] fun k5 r4=>Gt 9 r4 fun cs4=>
 Cl k5 89 #[agg cs3] fun k7 r6=>Gt 9 r6 fun cs5=>
 ∃I8:Nat→World→List Value→Prop,(∃m8,∀k8,Up k7 k8→I8 m8 k8 [int .i64 0,int .i64 1,agg cs4])∧
 ∀m8 k8 vs8,Up k7 k8→I8 m8 k8 vs8→∃n6,∃n7,∃cs8,Seg 9 cs8∧some [int .i64 n6,int .i64 n7,agg cs8]=some vs8∧
 Br (decide ((n7:Int)<24)) (Cl k8 113 #[int .i64 n7] fun k10 r9=>Gt 18 r9 fun cs9=>
 Cl k10 88 #[agg cs9] fun k12 r11=>Gt 9 r11 fun cs10=>
 Cl k12 71 #[agg cs4,agg cs10] fun k14 r13=>Gt 9 r13 fun cs11=>
 Cl k14 89 #[agg cs9] fun k16 r15=>Gt 9 r15 fun cs12=>
 Cl k16 71 #[agg cs5,agg cs12] fun k18 r17=>Gt 9 r17 fun cs13=>
 Cl k18 59 #[agg cs11,agg cs13] fun k20 r19=>Gt 9 r19 fun cs14=>
 Cl k20 16 #[agg cs14,agg cs8] fun k22 r21=>Gi r21 fun n15=>
 Br (decide ((n15:Int)<0)) (∀k23,Up k22 k23→∃m,m<m8∧I8 m k23 [int .i64 n7,int .i64 (wrap .i64 (n7+1)),agg cs14]) (∀k24,Up k22 k24→∃m,m<m8∧I8 m k24 [int .i64 n6,int .i64 (wrap .i64 (n7+1)),agg cs8])) (Cl k8 116 #[agg cs0,agg cs1,int .i64 n6] fun k26 r25=>Gt 18 r25 fun cs9=>
 Cl k26 43 #[agg cs9] fun k28 r27=>Gt 9 r27 fun cs10=>
 Rt R k28 (agg ((int .i64 n6) :: (cs10.toList++([]))).toArray))) :
  CallsG Tryz.prog 60 #[agg cs0,agg cs1] k R:=
  qX { opq:=[34,32],loops:=[(0,[.tmp 8 false [.int .i64],.tmp 10 false [.int .i64],.blk 6 [.seg 9]])] } [.agg [.seg 0 18],.agg [.seg 1 18]] [agg cs0,agg cs1] [.seg 18,.seg 18] ⟨⟨cs0,rfl,hcs0⟩,⟨cs1,rfl,hcs1⟩,trivial⟩ h
theorem aQl (hcs0:Seg 18 cs0) (hcs1:Seg 18 cs1)
 (h:Cl k 138 #[agg cs0] fun k1 r0=>∃n2,∃cs3,Seg 9 cs3∧some (tuple #[int .i64 n2,agg cs3])=some r0∧
 Cl k1 138 #[agg cs1] fun k3 r2=>∃n4,∃cs5,Seg 9 cs5∧some (tuple #[int .i64 n4,agg cs5])=some r2∧
 Rt R k3 (int .i64 (Int.tmod (wrap .i64 ((wrap .i64 ((wrap .i64 (n2+12))-n4))+24)) 24))) :
  CallsG Tryz.prog 72 #[agg cs0,agg cs1] k R:=
  qX { opq:=[34,32] } [.agg [.seg 0 18],.agg [.seg 1 18]] [agg cs0,agg cs1] [.seg 18,.seg 18] ⟨⟨cs0,rfl,hcs0⟩,⟨cs1,rfl,hcs1⟩,trivial⟩ h
theorem aRo 
 (h:Rt R k (agg #[int .i64 (wrap .i64 n0),int .i64 4,int .i64 (wrap .i64 n1),int .i64 4,int .i64 (wrap .i64 n2),int .i64 4,int .i64 0,int .i64 0])) :
 CallsG Tryz.prog 77 #[agg #[int .i8 n0,int .i8 n1,int .i8 n2]] k R:=
 qY { opq:=[] } h
theorem aVe 
 (h:Cl k 77 #[agg #[int .i8 n0,int .i8 n1,int .i8 n2]] fun k1 r0=>∃n6,∃n7,∃n8,∃n9,∃n10,∃n11,∃n12,∃n13,some (agg #[int .i64 n6,int .i64 n7,int .i64 n8,int .i64 n9,int .i64 n10,int .i64 n11,int .i64 n12,int .i64 n13])=some r0∧
 Cl k1 77 #[agg #[int .i8 n3,int .i8 n4,int .i8 n5]] fun k3 r2=>∃n14,∃n15,∃n16,∃n17,∃n18,∃n19,∃n20,∃n21,some (agg #[int .i64 n14,int .i64 n15,int .i64 n16,int .i64 n17,int .i64 n18,int .i64 n19,int .i64 n20,int .i64 n21])=some r2∧
 Cl k3 78 #[agg #[int .i64 n6,int .i64 n7,int .i64 n8,int .i64 n9,int .i64 n10,int .i64 n11,int .i64 n12,int .i64 n13,int .i64 n14,int .i64 n15,int .i64 n16,int .i64 n17,int .i64 n18,int .i64 n19,int .i64 n20,int .i64 n21]] fun k5 r4=>Gt 18 r4 fun cs22=>
 Cl k5 79 #[agg #[int .i64 n6,int .i64 n7,int .i64 n8,int .i64 n9,int .i64 n10,int .i64 n11,int .i64 n12,int .i64 n13,int .i64 n14,int .i64 n15,int .i64 n16,int .i64 n17,int .i64 n18,int .i64 n19,int .i64 n20,int .i64 n21]] fun k7 r6=>Gt 24 r6 fun cs23=>
 Rt R k7 (tuple #[agg cs22,agg cs23])) :
  CallsG Tryz.prog 33 #[agg #[int .i8 n0,int .i8 n1,int .i8 n2,int .i8 n3,int .i8 n4,int .i8 n5]] k R:=
  qY { opq:=[34,104] } h
theorem aFv
 (h:Cl k 33 #[agg #[int .i8 12,int .i8 0,int .i8 0,int .i8 0,int .i8 0,int .i8 0]] fun k1 r0=>∃cs0,Seg 18 cs0∧∃cs1,Seg 24 cs1∧some (tuple #[agg cs0,agg cs1])=some r0∧
 Cl k1 33 #[agg #[int .i8 0,int .i8 0,int .i8 0,int .i8 8,int .i8 0,int .i8 0]] fun k3 r2=>∃cs2,Seg 18 cs2∧∃cs3,Seg 24 cs3∧some (tuple #[agg cs2,agg cs3])=some r2∧
 Cl k3 60 #[agg cs0,agg cs2] fun k5 r4=>∃n4,∃cs5,Seg 9 cs5∧some (agg ((int .i64 n4) :: (cs5.toList++([]))).toArray)=some r4∧
 Cl k5 72 #[agg cs0,agg cs2] fun k7 r6=>Gi r6 fun n6=>
 Br ((n6:Int) == 6) (Br ((n4:Int) == 6) (Cl k7 48 #[agg cs5] fun k9 r8=>∃s7,some (Value.string s7)=some r8∧
 Rt R k9 (bool (ByteArray.toList s7 == ByteArray.toList ⟨#[49]⟩))) (Rt R k7 (bool false))) (Rt R k7 (bool false))) :
  CallsG Tryz.prog 27 #[] k R:=
  qX { opq:=[34,32,104] } [] [] [] trivial h
end Go.Proofs.YtlejfhljdmbcmaaGreat

namespace Go.Proofs.YtlejfhljdmbcmaaGreat
open Num
def flr (q:Rat):Int:=q.num/(q.den:Int)
def aYt (q:Rat) (k:Nat):Rat:=mkRat (q.num*((2^k:Nat):Int) / (q.den:Int)) (2^k)
def aYo (n:Int):Nat:=(min 1000 (max 0 n)).toNat
def rcmp (y:Rat):Int:=(y-(flr y:Rat)-mkRat 1 2).num.sign
def rup (y:Rat):Bool:=decide (0<rcmp y) || (decide (rcmp y=0) && decide (flr y % 2=1))
def aVw (x s:Rat):Rat:=(if rup (x/s)=true then (flr (x/s):Rat)+1 else (flr (x/s):Rat))*s
def aZa (x s:Rat):Rat:=if s.num.sign≤0 then 0 else aVw x s
def halved (x:Rat):Nat→Rat
 | 0=>x
 | j+1=>halved x j/2
open Go.RowKit
open Value (agg slice int bool tuple)
open Sy (Up Sees CallsG Seg execFn_use)
set_option maxRecDepth 100000
variable {k:World}{R:World→Value→Prop}
end Go.Proofs.YtlejfhljdmbcmaaGreat

namespace Go.Proofs.YtlejfhljdmbcmaaGreat.W32
open Go.RowKit Num
open Sy (Up Sees CallsG Seg)
section
variable {k k':World}{cs cs':Array Value}{R:World→Value→Prop}{x y q q':Rat}{K L:Nat}{b:Bool}{A A':Option Addr}{l c l' c':Nat}
end
end Go.Proofs.YtlejfhljdmbcmaaGreat.W32

namespace Go.Proofs.YtlejfhljdmbcmaaGreat
open Go.RowKit
open Value (agg slice int bool tuple)
open Sy (Up Sees CallsG Seg execFn_use)
set_option maxRecDepth 100000
variable {k:World}{R:World→Value→Prop}
end Go.Proofs.YtlejfhljdmbcmaaGreat

namespace Go.Proofs.YtlejfhljdmbcmaaGreat.W32
open Go.RowKit Num
open Sy (Up Sees CallsG Seg)
section
variable {k k':World}{A A':Option Addr}{n c m n' c' m' a b l l':Nat}{cs cs':Array Value}{R:World→Value→Prop}{x y q:Rat}{K L:Nat}
end
end Go.Proofs.YtlejfhljdmbcmaaGreat.W32

namespace Go.Proofs.YtlejfhljdmbcmaaGreat
open Num Plain
def nn (x:Q4):Prop:=0≤C.sg x.toQ
def sg2G (a b:Rat):Int:=dE a.num.sign b.num.sign (a*a-2*(b*b)).num.sign
def sgG (v:Q4):Int:=dE (sg2G v.a v.b) (sg2G v.c v.d) (sg2G (v.a*v.a+2*(v.b*v.b)-3*(v.c*v.c+2*(v.d*v.d))) (v.a*v.b+v.b*v.a-3*(v.c*v.d+v.d*v.c)))
def w2:Q4:=⟨0,1,0,0⟩
def w3:Q4:=⟨0,0,1,0⟩
def w6:Q4:=⟨0,0,0,1⟩
section
variable {w x:Q4}{n r s p:Rat}
def loT (p r s:Rat):Rat:=if p<0 then p*s else p*r
def hiT (p r s:Rat):Rat:=if p<0 then p*r else p*s
def aZi (p:Rat):Rat:=if p<0 then -p else p
structure Apx (w:Q4) (r s:Rat):Prop where
 lo:nn (w.sub (Q4.real r))
 hi:nn ((Q4.real s).sub w)
def loB (x:Q4) (r2 s2 r3 s3 r6 s6:Rat):Rat:=x.a+loT x.b r2 s2+loT x.c r3 s3+loT x.d r6 s6
def hiB (x:Q4) (r2 s2 r3 s3 r6 s6:Rat):Rat:=x.a+hiT x.b r2 s2+hiT x.c r3 s3+hiT x.d r6 s6
variable {r2 s2 r3 s3 r6 s6:Rat}
end
def ab (u:Q4) (c:Rat):Prop:=nn ((Q4.real c).sub u)∧nn ((Q4.real c).add u)
section
variable {u v:Q4}{c d:Rat}
end
def isI (q:Rat):Prop:=∃n:Int,q=n
structure isI4 (x:Q4):Prop where
 a:isI x.a
 b:isI x.b
 c:isI x.c
 d:isI x.d
structure Parts4 (x:Q4) (M:Nat):Prop where
 a:x.a.num.natAbs≤M∧x.a.den≤M
 b:x.b.num.natAbs≤M∧x.b.den≤M
 c:x.c.num.natAbs≤M∧x.c.den≤M
 d:x.d.num.natAbs≤M∧x.d.den≤M
end Go.Proofs.YtlejfhljdmbcmaaGreat

namespace Go.Proofs.YtlejfhljdmbcmaaGreat.W32
open Go.RowKit Num Plain
open Sy (Up Sees CallsG Seg)
section
variable {k k':World}{A A':Option Addr}{n c m n' c' m' a b l l':Nat}{cs cs' c0 c1:Array Value}{R:World→Value→Prop}{x y q p r lo hi:Rat}{K L M:Nat}{v v':Q4}
def aYv (n kk:Nat) (q:Rat):Prop:=∃r:Nat,q=(r:Rat) / ((2^kk:Nat):Rat)∧r*r≤n*2^(2*kk)∧n*2^(2*kk)<(r+1)*(r+1)
end
end Go.Proofs.YtlejfhljdmbcmaaGreat.W32

namespace Go.Proofs.YtlejfhljdmbcmaaGreat
open IntKind (wrap)
open Go.RowKit Num Plain W32
open Sy (Up Sees CallsG Seg)
section
variable {k k':World}{R:World→Value→Prop}{K L:Nat}{cs cs':Array Value}{x y:W4}{v v':Q4}
def In8 (n:Int):Prop:=-128≤n∧n≤127
theorem In8.in64 {n:Int}(h:In8 n):In64 n:=by unfold In8 at h;unfold In64;omega
theorem In8.wrap {n:Int}(h:In8 n):wrap .i64 n=n:=by unfold In8 at h;rw [zt];omega
theorem aTg {x y:W4}(h:WaveV k cs x K) (e:x=y):WaveV k cs y K:=e▸h
theorem aEa {m:Nat}(h:m<24):plc (m:Int)=m:=by unfold plc;omega
theorem aXz {n:Int}(hx:WaveV k cs x K) (hy:WaveV k cs' y K) (hK1:1≤K) (hK:K≤1000000) (C:∀k' ds,Up k k'→WaveV k' ds (aVt x y (plc n)) (8*K+19)→R k' (.agg ds)) :
 Cl k 116 #[.agg cs,.agg cs',.int .i64 n] R:=by
 intro k0 u0;refine aQn hx.seg hy.seg (rL fun k1 d1 u1 hT=>⟨d1,hT.seg,rfl,?_⟩);refine vM ((hy.up u0).up u1) (hT.mono hK1) hK1 oq fun k3 d3 u3 hM=>⟨d3,hM.seg,rfl,?_⟩;refine aIo (K:=4*K+9) ((((hx.up u0).up u1).up u3).mono oq) hM oq oq fun k5 d5 u5 hA=>⟨d5,hA.seg,rfl,fun k6 u6=>?_⟩;exact C k6 d5 ((((u0.trans u1).trans u3).trans u5).trans u6) ((hA.up u6).mono oq)
theorem aUo (hx:WaveV k cs x K) (hy:WaveV k cs' y K) (hK1:1≤K) (hK:K≤100000) (C:∀k' ds,Up k k'→SurdV k' ds (aDg x y) (32*K+85)→R k' (.agg ((Value.int .i64 (xV x y:Int)) :: (ds.toList++([]))).toArray)) :
 Cl k 60 #[.agg cs,.agg cs'] R:=by
 intro k0 u0;replace hx:=hx.up u0;replace hy:=hy.up u0;replace C:=fun k' ds u=>C k' ds (u0.trans u);refine aJt hx.seg hy.seg (aOz hx oq fun k1 d1 u1 h1=>⟨d1,h1.seg,rfl,?_⟩);refine vM h1 (hy.up u1) hK1 oq fun k2 d2 u2 hp=>⟨d2,hp.seg,rfl,?_⟩;refine aIq hp fun k3 d3 u3 hr=>⟨d3,hr.seg,rfl,?_⟩;refine aIp (hp.up u3) fun k4 d4 u4 hi=>⟨d4,hi.seg,rfl,?_⟩;replace hr:=hr.up u4;have u14:=((u1.trans u2).trans u3).trans u4;replace hx:=hx.up u14;replace hy:=hy.up u14;replace C:=fun k' ds u=>C k' ds (u14.trans u);clear u14 u1 u2 u3 u4 h1 hp;unfold aDg xV at C;generalize hpe:x.conj.mul y=p at *
 refine⟨fun m k' vs=>∃j c,j≤23∧m=23-j∧vs=[.int .i64 ((lo p j).1:Int),.int .i64 ((j+1:Nat):Int),.agg c]∧SurdV k' c (lo p j).2 (16*K+45),⟨23,fun k' u=>⟨0,d3,oq,rfl,rfl,(hr.up u).mono oq⟩⟩,?_⟩;rintro m k5 vs u5 ⟨j,c,hj,rfl,rfl,hb⟩;replace hr:=hr.up u5;replace hi:=hi.up u5;refine⟨_,_,c,hb.seg,rfl,fun hlt=>?_,fun hge=>?_⟩
 ·have hlt:=ow hlt;refine rL fun k6 d6 u6 hT=>⟨d6,hT.seg,rfl,?_⟩;rw [aEa (m:=j+1) oq]at hT;refine aIq hT fun k7 d7 u7 ha=>⟨d7,ha.seg,rfl,?_⟩;refine jX (K:=4*K+9) ((hr.up u6).up u7) (ha.mono oq) oq oq fun k8 d8 u8 hA=>⟨d8,hA.seg,rfl,?_⟩;refine aIp ((hT.up u7).up u8) fun k9 d9 u9 he=>⟨d9,he.seg,rfl,?_⟩;refine jX (K:=4*K+9) ((((hi.up u6).up u7).up u8).up u9) (he.mono oq) oq oq fun k10 d10 u10 hB=>⟨d10,hB.seg,rfl,?_⟩;refine rN ((hA.up u9).up u10) hB oq oq fun k11 d11 u11 hD=>⟨d11,hD.seg,rfl,?_⟩;have u611:=((((u6.trans u7).trans u8).trans u9).trans u10).trans u11;replace hD:SurdV k11 d11 (gAt p (j+1)) (16*K+45):=hD.mono oq;refine aIl hD (hb.up u611) oq oq fun k12 u12=>⟨_,rfl,fun hc=>?_,fun hc=>?_⟩
  ·have hc:sgd (gAt p (j+1)) (lo p j).2<0:=ow hc;have e:lo p (j+1)=(j+1,gAt p (j+1)):=by show (if _ then _ else _)=_;rw [od hc]
   intro k13 u13;refine⟨23-(j+1),oq,j+1,d11,oq,rfl,?_,?_⟩
   ·rw [e,rK oq]
   ·rw [e];exact (hD.up u12).up u13
  ·have hc:¬ sgd (gAt p (j+1)) (lo p j).2<0:=ov hc;have e:lo p (j+1)=lo p j:=by show (if _ then _ else _)=_;rw [oh hc]
   intro k13 u13;refine⟨23-(j+1),oq,j+1,c,oq,rfl,?_,?_⟩
   ·rw [e,rK oq]
   ·rw [e];exact ((hb.up u611).up u12).up u13
 ·have hge:=ov hge;have e:j=23:=oq
  subst e;have h1:=(aQh p 23).1;refine aXz (hx.up u5) (hy.up u5) hK1 oq fun k6 d6 u6 hA=>⟨d6,hA.seg,rfl,?_⟩;rw [aEa oq]at hA;refine vN hA oq oq fun k7 d7 u7 hN=>⟨d7,hN.seg,rfl,fun k8 u8=>?_⟩;exact C k8 d7 (((u5.trans u6).trans u7).trans u8) ((hN.up u8).mono oq)
noncomputable def aPx (x y:W4):Nat:=((hi x 23).1+36-(hi y 23).1) % 24
theorem aXn (hx:WaveV k cs x K) (hy:WaveV k cs' y K) (hK1:1≤K) (hK:K≤1000000) (C:∀k',Up k k'→R k' (.int .i64 (aPx x y:Int))) :
 Cl k 72 #[.agg cs,.agg cs'] R:=by
 intro k0 u0;have h1:=(aDn x 23).1;have h2:=(aDn y 23).1;refine aQl hx.seg hy.seg (aJl (hx.up u0) hK1 hK fun k1 d1 u1 a1=>⟨_,d1,a1.seg,rfl,?_⟩);refine aJl ((hy.up u0).up u1) hK1 hK fun k3 d3 u3 a3=>⟨_,d3,a3.seg,rfl,fun k4 u4=>?_⟩;have:=C k4 (((u0.trans u1).trans u3).trans u4);unfold aPx at this;generalize (hi x 23).1=p at h1 this ⊢;generalize (hi y 23).1=q at h2 this ⊢;have w1:wrap .i64 ((p:Int)+12)=(p:Int)+12:=by rw [zt];omega
 have w2:wrap .i64 ((p:Int)+12-(q:Int))=(p:Int)+12-(q:Int):=by rw [zt];omega
 have w3:wrap .i64 ((p:Int)+12-(q:Int)+24)=(p:Int)+12-(q:Int)+24:=by rw [zt];omega
 rw [w1,w2,w3,vj oq];have e:(((p+36-q) % 24:Nat):Int)=((p:Int)+12-(q:Int)+24) % 24:=oq
 rw [←e];exact this
def jU (a b c:Int):Q4:=⟨ofQ a 4,ofQ b 4,ofQ c 4,ofQ 0 0⟩
theorem aLe {n0 n1 n2:Int}(h0:In8 n0) (h1:In8 n1) (h2:In8 n2) (C:∀k',Up k k'→R k' (.agg #[.int .i64 n0,.int .i64 4,.int .i64 n1,.int .i64 4,.int .i64 n2,.int .i64 4,.int .i64 0,.int .i64 0])) :
 Cl k 77 #[.agg #[.int .i8 n0,.int .i8 n1,.int .i8 n2]] R:=by
 intro k0 u0;refine aRo fun k1 u1=>?_;rw [h0.wrap,h1.wrap,h2.wrap];exact C k1 (u0.trans u1)
theorem lit4:In64 4:=⟨oz,oz⟩
theorem lit0:In64 0:=⟨oz,oz⟩
theorem qW {n0 n1 n2 n3 n4 n5:Int}(h0:In8 n0) (h1:In8 n1) (h2:In8 n2) (h3:In8 n3) (h4:In8 n4) (h5:In8 n5)
 (C:∀k' ds ds',Up k k'→WaveV k' ds ⟨jU n0 n1 n2,jU n3 n4 n5⟩ 6→WQ k' ds' ⟨jU n0 n1 n2,jU n3 n4 n5⟩ 2→R k' (.tuple #[.agg ds,.agg ds'])) :
 Cl k 33 #[.agg #[.int .i8 n0,.int .i8 n1,.int .i8 n2,.int .i8 n3,.int .i8 n4,.int .i8 n5]] R:=by
 intro k0 u0;refine aVe (aLe h0 h1 h2 fun k1 u1=>⟨_,_,_,_,_,_,_,_,rfl,?_⟩);refine aLe h3 h4 h5 fun k3 u3=>⟨_,_,_,_,_,_,_,_,rfl,?_⟩;refine aIh h0.in64 lit4 h1.in64 lit4 h2.in64 lit4 lit0 lit0 h3.in64 lit4 h4.in64 lit4 h5.in64 lit4 lit0 lit0 fun k5 d5 u5 hW=>⟨d5,hW.seg,rfl,?_⟩;refine W32.wofwave_v h0.in64 lit4 h1.in64 lit4 h2.in64 lit4 lit0 lit0 h3.in64 lit4 h4.in64 lit4 h5.in64 lit4 lit0 lit0 fun k7 d7 u7 hV=>⟨d7,hV.seg,rfl,fun k8 u8=>?_⟩;exact C k8 d5 d7 (((((u0.trans u1).trans u3).trans u5).trans u7).trans u8) ((hW.up u7).up u8) (hV.up u8)
theorem aPu:dec 1=[49]:=by
 unfold dec;rw [oh oq,jB oq,show 1/10=0 from rfl,dJ];rfl
theorem aKk:eB ⟨1,0,0,0⟩=[49]:=by
 have r2:aE 1=[49]:=by
  unfold aE;rw [show (1:Rat).num=1 from rfl,show (1:Rat).den=1 from rfl,oh oq,od rfl,show (1:Int).natAbs=1 from rfl,aPu];rfl
 have p1:aG [] 1 []=[49]:=by
  unfold aG;rw [oh oz,oh (by simp),r2];rfl
 have p3:∀m:List UInt8,aG [49] 0 m=[49]:=fun m=>by
  unfold aG;rw [od rfl]
 unfold eB;simp only [body];rw [p1,p3,p3,p3];rfl
theorem in8 {n:Int}(h:n.natAbs≤100):In8 n:=by unfold In8;omega
theorem aYp:(⟨jU 12 0 0,jU 0 0 0⟩:W4)=⟨⟨3,0,0,0⟩,Q4.zero⟩:=by decide +kernel
theorem aYq:(⟨jU 0 0 0,jU 8 0 0⟩:W4)=⟨Q4.zero,⟨2,0,0,0⟩⟩:=by decide +kernel
theorem aYs:aDg ⟨⟨3,0,0,0⟩,Q4.zero⟩ ⟨Q4.zero,⟨2,0,0,0⟩⟩=⟨1,0,0,0⟩:=by unfold aDg;rw [mS,wH]
theorem aYr:aPx ⟨⟨3,0,0,0⟩,Q4.zero⟩ ⟨Q4.zero,⟨2,0,0,0⟩⟩=6:=by unfold aPx;rw [tL,tM]
theorem yW (C:∀k',Up k k'→R k' (.bool true)):Cl k 27 #[] R:=by
 intro k0 u0;refine aFv (qW (in8 oz) (in8 oz) (in8 oz) (in8 oz) (in8 oz) (in8 oz) fun k1 d1 e1 u1 hA g1=>⟨d1,hA.seg,e1,g1.seg,rfl,?_⟩);refine qW (in8 oz) (in8 oz) (in8 oz) (in8 oz) (in8 oz) (in8 oz) fun k3 d3 e3 u3 hB g3=>⟨d3,hB.seg,e3,g3.seg,rfl,?_⟩;replace hA:=aTg (hA.up u3) aYp;replace hB:=aTg hB aYq;refine aUo hA hB oz oz fun k5 d5 u5 hN=>⟨_,d5,hN.seg,rfl,?_⟩;refine aXn (hA.up u5) (hB.up u5) oz oz fun k7 u7=>⟨_,rfl,?_⟩;rw [aYr,mS];rw [aYs]at hN;refine⟨fun _=>⟨fun _=>?_,fun h=>absurd h oz⟩,fun h=>absurd h oz⟩;refine aDd (hN.up u7) oz oz fun k9 u9=>⟨_,rfl,fun k10 u10=>?_⟩;rw [aKk,show ((str [49]).toList == (⟨#[49]⟩:ByteArray).toList)=true from toList_inj.2 rfl];exact C k10 ((((((u0.trans u1).trans u3).trans u5).trans u7).trans u9).trans u10)
end
