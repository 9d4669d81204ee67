/- Several texts in one. (Printed by prep.py.) -/
import Derived.Test.YthiaclljcnincaaGreatApLW
namespace Go.Proofs.YthiaclljcnincaaGreat
open Num Plain
namespace Q23L
theorem add_comm (a b:Q23):a+b=b+a:=by (refine Q23.ext' (Q2.ext' ?_ ?_) (Q2.ext' ?_ ?_) <;> (simp only [Q23.add_re,Q23.add_im,Q2.add_re,Q2.add_im];grind))
theorem add_assoc (a b c:Q23):a+b+c=a+(b+c):=by (refine Q23.ext' (Q2.ext' ?_ ?_) (Q2.ext' ?_ ?_) <;> (simp only [Q23.add_re,Q23.add_im,Q2.add_re,Q2.add_im];grind))
theorem mul_comm (a b:Q23):a*b=b*a:=by (refine Q23.ext' (Q2.ext' ?_ ?_) (Q2.ext' ?_ ?_) <;> (simp only [Q23.mul_re,Q23.mul_im,Q2.add_re,Q2.add_im,Q2.mul_re,Q2.mul_im,Q2.three_re,Q2.three_im];grind))
theorem mul_assoc (a b c:Q23):a*b*c=a*(b*c):=by (refine Q23.ext' (Q2.ext' ?_ ?_) (Q2.ext' ?_ ?_) <;> (simp only [Q23.mul_re,Q23.mul_im,Q2.add_re,Q2.add_im,Q2.mul_re,Q2.mul_im,Q2.three_re,Q2.three_im];grind))
theorem add_mul (a b c:Q23):(a+b)*c=a*c+b*c:=by (refine Q23.ext' (Q2.ext' ?_ ?_) (Q2.ext' ?_ ?_) <;> (simp only [Q23.add_re,Q23.add_im,Q23.mul_re,Q23.mul_im,Q2.add_re,Q2.add_im,Q2.mul_re,Q2.mul_im,Q2.three_re,Q2.three_im];grind))
theorem mul_add (a b c:Q23):a*(b+c)=a*b+a*c:=by (refine Q23.ext' (Q2.ext' ?_ ?_) (Q2.ext' ?_ ?_) <;> (simp only [Q23.add_re,Q23.add_im,Q23.mul_re,Q23.mul_im,Q2.add_re,Q2.add_im,Q2.mul_re,Q2.mul_im,Q2.three_re,Q2.three_im];grind))
theorem sub_eq (a b:Q23):a-b=a+-b:=by (refine Q23.ext' (Q2.ext' ?_ ?_) (Q2.ext' ?_ ?_) <;> (simp only [Q23.add_re,Q23.add_im,Q23.neg_re,Q23.neg_im,Q23.sub_re,Q23.sub_im,Q2.add_re,Q2.add_im,Q2.neg_re,Q2.neg_im,Q2.sub_re,Q2.sub_im];grind))
theorem xO (a b:Q23):-(a+b)=-a+-b:=by (refine Q23.ext' (Q2.ext' ?_ ?_) (Q2.ext' ?_ ?_) <;> (simp only [Q23.add_re,Q23.add_im,Q23.neg_re,Q23.neg_im,Q2.add_re,Q2.add_im,Q2.neg_re,Q2.neg_im];grind))
theorem xP (a:Q23):- -a=a:=by (refine Q23.ext' (Q2.ext' ?_ ?_) (Q2.ext' ?_ ?_) <;> (simp only [Q23.neg_re,Q23.neg_im,Q2.neg_re,Q2.neg_im];grind))
theorem neg_mul (a b:Q23):-a*b=-(a*b):=by (refine Q23.ext' (Q2.ext' ?_ ?_) (Q2.ext' ?_ ?_) <;> (simp only [Q23.mul_re,Q23.mul_im,Q23.neg_re,Q23.neg_im,Q2.add_re,Q2.add_im,Q2.mul_re,Q2.mul_im,Q2.neg_re,Q2.neg_im,Q2.three_re,Q2.three_im];grind))
theorem mul_neg (a b:Q23):a*-b=-(a*b):=by (refine Q23.ext' (Q2.ext' ?_ ?_) (Q2.ext' ?_ ?_) <;> (simp only [Q23.mul_re,Q23.mul_im,Q23.neg_re,Q23.neg_im,Q2.add_re,Q2.add_im,Q2.mul_re,Q2.mul_im,Q2.neg_re,Q2.neg_im,Q2.three_re,Q2.three_im];grind))
theorem aVm (a b:Q23):a-b+b=a:=by (refine Q23.ext' (Q2.ext' ?_ ?_) (Q2.ext' ?_ ?_) <;> (simp only [Q23.add_re,Q23.add_im,Q23.sub_re,Q23.sub_im,Q2.add_re,Q2.add_im,Q2.sub_re,Q2.sub_im];grind))
theorem add_left (a b c:Q23):a+(b+c)=b+(a+c):=by (refine Q23.ext' (Q2.ext' ?_ ?_) (Q2.ext' ?_ ?_) <;> (simp only [Q23.add_re,Q23.add_im,Q2.add_re,Q2.add_im];grind))
end Q23L
open Q23L
theorem Q4.add_comm (x y:Q4):x.add y=y.add x:=cL (by rw [eK,eK,Q23L.add_comm])
theorem Q4.mul_comm (x y:Q4):x.mul y=y.mul x:=cL (by rw [bA,bA,Q23L.mul_comm])
theorem Q4.add_assoc (x y z:Q4):(x.add y).add z=x.add (y.add z):=cL (by simp only [eK,Q23L.add_assoc])
theorem W4.add_comm (x y:W4):x.add y=y.add x:=W4.ext' (Q4.add_comm _ _) (Q4.add_comm _ _)
theorem W4.add_assoc (x y z:W4):(x.add y).add z=x.add (y.add z):=W4.ext' (Q4.add_assoc _ _ _) (Q4.add_assoc _ _ _)
theorem W4.mul_comm (x y:W4):x.mul y=y.mul x:=W4.ext' (by unfold W4.mul;rw [Q4.mul_comm x.re,Q4.mul_comm x.im]) (by show (x.re.mul y.im).add (x.im.mul y.re)=(y.re.mul x.im).add (y.im.mul x.re);rw [Q4.add_comm,Q4.mul_comm x.im,Q4.mul_comm x.re])
theorem W4.mul_assoc (x y z:W4):(x.mul y).mul z=x.mul (y.mul z):=by
 refine W4.ext' (cL ?_) (cL ?_)
 ·simp only [W4.mul,gW,bA,eK,Q23L.sub_eq,Q23L.add_mul,Q23L.mul_add,Q23L.neg_mul,Q23L.mul_neg,Q23L.xO,Q23L.mul_assoc,Q23L.add_assoc];simp only [Q23L.add_assoc,Q23L.add_comm]
 ·simp only [W4.mul,gW,bA,eK,Q23L.sub_eq,Q23L.add_mul,Q23L.mul_add,Q23L.neg_mul,Q23L.mul_neg,Q23L.mul_assoc,Q23L.add_assoc];simp only [Q23L.add_assoc,Q23L.add_comm,Q23L.add_left]
theorem W4.add_mul (x y z:W4):(x.add y).mul z=(x.mul z).add (y.mul z):=by
 refine W4.ext' (cL ?_) (cL ?_)
 ·simp only [W4.mul,W4.add,gW,bA,eK,Q23L.sub_eq,Q23L.add_mul,Q23L.xO,Q23L.add_assoc];simp only [Q23L.add_left]
 ·simp only [W4.mul,W4.add,bA,eK,Q23L.add_mul,Q23L.add_assoc];simp only [Q23L.add_assoc,Q23L.add_comm,Q23L.add_left]
theorem W4.mul_conj (x y:W4):(x.mul y).conj=x.conj.mul y.conj:=by
 refine W4.ext' (cL ?_) (cL ?_)
 ·simp only [W4.mul,W4.conj,gW,bA,oW,Q23L.neg_mul,Q23L.mul_neg,Q23L.xP]
 ·simp only [W4.mul,W4.conj,eK,bA,oW,Q23L.neg_mul,Q23L.mul_neg,Q23L.xO]
theorem aWq {a b:Q23}(h:a+b*b=0) (ha:C.pos a):False:=by
 rcases C.tri b with h0|h0|h0
 ·rw [h0]at h;have e:a+(0:Q23)*0=a:=by (refine Q23.ext' (Q2.ext' ?_ ?_) (Q2.ext' ?_ ?_) <;> (simp only [Q23.add_re,Q23.add_im,Q23.mul_re,Q23.mul_im,Q23.zero_re,Q23.zero_im,Q2.add_re,Q2.add_im,Q2.mul_re,Q2.mul_im,Q2.zero_re,Q2.zero_im,Q2.three_re,Q2.three_im];grind))
  rw [e]at h;rw [h]at ha;exact C.zero ha
 ·have:=C.add ha (C.mul h0 h0);rw [h]at this;exact C.zero this
 ·have e:b*b=-b*-b:=by rw [Q23L.neg_mul,Q23L.mul_neg,Q23L.xP]
  rw [e]at h;have:=C.add ha (C.mul h0 h0);rw [h]at this;exact C.zero this
theorem aZb {a b:Q23}(h:a*a+b*b=0):a=0∧b=0:=by
 have ha:a=0:=by
  rcases C.tri a with h0|h0|h0
  ·exact h0
  ·exact (aWq h (C.mul h0 h0)).elim
  ·have:a*a=-a*-a:=by rw [Q23L.neg_mul,Q23L.mul_neg,Q23L.xP]
   rw [this]at h;exact (aWq h (C.mul h0 h0)).elim
 refine⟨ha,?_⟩;rw [ha]at h;have hb:b*b=0:=by
  have e:(0:Q23)*0+b*b=b*b:=by (refine Q23.ext' (Q2.ext' ?_ ?_) (Q2.ext' ?_ ?_) <;> (simp only [Q23.add_re,Q23.add_im,Q23.mul_re,Q23.mul_im,Q23.zero_re,Q23.zero_im,Q2.add_re,Q2.add_im,Q2.mul_re,Q2.mul_im,Q2.zero_re,Q2.zero_im,Q2.three_re,Q2.three_im];grind))
  rw [←e,h]
 refine xv fun hn=>C.gN hn hn hb
theorem W4.norm_ne {y:W4}(h:y≠W4.zero):y.norm≠Q4.zero:=by
 intro hn;have:=congrArg Q4.toQ hn;rw [toQ_zero]at this;unfold W4.norm at this;rw [eK,bA,bA]at this;obtain⟨h1,h2⟩:=aZb this;exact h (W4.ext' (cL (h1.trans toQ_zero.symm)) (cL (h2.trans toQ_zero.symm)))
theorem aWd {p q a b c d n:Q23}(hn:n=c*c+d*d) (e1:p*n=a*c-b*-d) (e2:q*n=a*-d+b*c):(p*c-q*d)*n=a*n:=by
 have h1:(p*c-q*d)*n=(p*n)*c-(q*n)*d:=by (refine Q23.ext' (Q2.ext' ?_ ?_) (Q2.ext' ?_ ?_) <;> (simp only [Q23.mul_re,Q23.mul_im,Q23.sub_re,Q23.sub_im,Q2.add_re,Q2.add_im,Q2.mul_re,Q2.mul_im,Q2.sub_re,Q2.sub_im,Q2.three_re,Q2.three_im];grind))
 rw [h1,e1,e2,hn]
 (refine Q23.ext' (Q2.ext' ?_ ?_) (Q2.ext' ?_ ?_) <;> (simp only [Q23.add_re,Q23.add_im,Q23.mul_re,Q23.mul_im,Q23.neg_re,Q23.neg_im,Q23.sub_re,Q23.sub_im,Q2.add_re,Q2.add_im,Q2.mul_re,Q2.mul_im,Q2.neg_re,Q2.neg_im,Q2.sub_re,Q2.sub_im,Q2.three_re,Q2.three_im];grind))
theorem aWc {p q a b c d n:Q23}(hn:n=c*c+d*d) (e1:p*n=a*c-b*-d) (e2:q*n=a*-d+b*c):(p*d+q*c)*n=b*n:=by
 have h1:(p*d+q*c)*n=(p*n)*d+(q*n)*c:=by (refine Q23.ext' (Q2.ext' ?_ ?_) (Q2.ext' ?_ ?_) <;> (simp only [Q23.add_re,Q23.add_im,Q23.mul_re,Q23.mul_im,Q2.add_re,Q2.add_im,Q2.mul_re,Q2.mul_im,Q2.three_re,Q2.three_im];grind))
 rw [h1,e1,e2,hn]
 (refine Q23.ext' (Q2.ext' ?_ ?_) (Q2.ext' ?_ ?_) <;> (simp only [Q23.add_re,Q23.add_im,Q23.mul_re,Q23.mul_im,Q23.neg_re,Q23.neg_im,Q23.sub_re,Q23.sub_im,Q2.add_re,Q2.add_im,Q2.mul_re,Q2.mul_im,Q2.neg_re,Q2.neg_im,Q2.sub_re,Q2.sub_im,Q2.three_re,Q2.three_im];grind))
theorem cancel {a b n:Q23}(hn:n≠0) (h:a*n=b*n):a=b:=by
 have h1:(a-b)*n=0:=by
  have:(a-b)*n=a*n-b*n:=by (refine Q23.ext' (Q2.ext' ?_ ?_) (Q2.ext' ?_ ?_) <;> (simp only [Q23.mul_re,Q23.mul_im,Q23.sub_re,Q23.sub_im,Q2.add_re,Q2.add_im,Q2.mul_re,Q2.mul_im,Q2.sub_re,Q2.sub_im,Q2.three_re,Q2.three_im];grind))
  rw [this,h];generalize b*n=c
  (refine Q23.ext' (Q2.ext' ?_ ?_) (Q2.ext' ?_ ?_) <;> (simp only [Q23.sub_re,Q23.sub_im,Q23.zero_re,Q23.zero_im,Q2.sub_re,Q2.sub_im,Q2.zero_re,Q2.zero_im];grind))
 have h2:a-b=0:=xv fun h0=>C.gN h0 hn h1;have h3:a=(a-b)+b:=by rw [Q23L.aVm]
 rw [h3,h2]
 (refine Q23.ext' (Q2.ext' ?_ ?_) (Q2.ext' ?_ ?_) <;> (simp only [Q23.add_re,Q23.add_im,Q23.zero_re,Q23.zero_im,Q2.add_re,Q2.add_im,Q2.zero_re,Q2.zero_im];grind))
theorem W4.mul_div {x y:W4}(h:y≠W4.zero):(x.div y).mul y=x:=by
 have hn:=qE.2 (W4.norm_ne h);have e1:=Q4.div_mul (x:=(x.mul y.conj).re) (W4.norm_ne h);have e2:=Q4.div_mul (x:=(x.mul y.conj).im) (W4.norm_ne h);have hN:y.norm.toQ=y.re.toQ*y.re.toQ+y.im.toQ*y.im.toQ:=by unfold W4.norm;rw [eK,bA,bA]
 have f1:(x.mul y.conj).re.toQ=x.re.toQ*y.re.toQ-x.im.toQ*-y.im.toQ:=by show ((x.re.mul y.re).sub (x.im.mul y.im.neg)).toQ=_;rw [gW,bA,bA,oW]
 have f2:(x.mul y.conj).im.toQ=x.re.toQ*-y.im.toQ+x.im.toQ*y.re.toQ:=by show ((x.re.mul y.im.neg).add (x.im.mul y.re)).toQ=_;rw [eK,bA,bA,oW]
 rw [f1]at e1;rw [f2]at e2;refine W4.ext' (cL (cancel hn ?_)) (cL (cancel hn ?_))
 ·show (((x.div y).re.mul y.re).sub ((x.div y).im.mul y.im)).toQ*_=_;rw [gW,bA,bA];exact aWd hN e1 e2
 ·show (((x.div y).re.mul y.im).add ((x.div y).im.mul y.re)).toQ*_=_;rw [eK,bA,bA];exact aWc hN e1 e2
noncomputable def sgd (a b:Q4):Int:=C.sg (a.sub b).toQ
theorem W4.mul_one (x:W4):x.mul (W4.real 1)=x:=by
 refine W4.ext' (cL ?_) (cL ?_)
 ·show ((x.re.mul (Q4.real 1)).sub (x.im.mul Q4.zero)).toQ=_;rw [gW,bA,bA,toQ_zero,show (Q4.real 1).toQ=1 from rfl];generalize x.re.toQ=p;generalize x.im.toQ=q
  (refine Q23.ext' (Q2.ext' ?_ ?_) (Q2.ext' ?_ ?_) <;> (simp only [Q23.mul_re,Q23.mul_im,Q23.sub_re,Q23.sub_im,Q23.one_re,Q23.one_im,Q23.zero_re,Q23.zero_im,Q2.add_re,Q2.add_im,Q2.mul_re,Q2.mul_im,Q2.sub_re,Q2.sub_im,Q2.one_re,Q2.one_im,Q2.zero_re,Q2.zero_im,Q2.three_re,Q2.three_im];grind))
 ·show ((x.re.mul Q4.zero).add (x.im.mul (Q4.real 1))).toQ=_;rw [eK,bA,bA,toQ_zero,show (Q4.real 1).toQ=1 from rfl];generalize x.re.toQ=p;generalize x.im.toQ=q
  (refine Q23.ext' (Q2.ext' ?_ ?_) (Q2.ext' ?_ ?_) <;> (simp only [Q23.add_re,Q23.add_im,Q23.mul_re,Q23.mul_im,Q23.one_re,Q23.one_im,Q23.zero_re,Q23.zero_im,Q2.add_re,Q2.add_im,Q2.mul_re,Q2.mul_im,Q2.one_re,Q2.one_im,Q2.zero_re,Q2.zero_im,Q2.three_re,Q2.three_im];grind))
def fAt (x:W4) (k:Nat):Q4:=(x.mul (iV ((24-k) % 24))).re
noncomputable def hi (x:W4):Nat→Nat×Q4
 | 0=>(0,x.re)
 | j+1=>if 0<sgd (fAt x (j+1)) (hi x j).2 then (j+1,fAt x (j+1)) else hi x j
noncomputable def cnt (x:W4) (s:Q4) (k:Nat):Nat:=((List.range k).filter fun i=>decide (sgd (fAt x i) s=0)).length
def sg2F (a b:Rat):Int:=aRj a.num.sign b.num.sign (a*a-2*(b*b)).num.sign
def sgF (v:Q4):Int:=aRj (sg2F v.a v.b) (sg2F v.c v.d) (sg2F (v.a*v.a+2*(v.b*v.b)-3*(v.c*v.c+2*(v.d*v.d))) (v.a*v.b+v.b*v.a-3*(v.c*v.d+v.d*v.c)))
def gAt (p:W4) (k:Nat):Q4:=(p.mul (iV k)).re
noncomputable def lo (p:W4):Nat→Nat×Q4
 | 0=>(0,p.re)
 | j+1=>if sgd (gAt p (j+1)) (lo p j).2<0 then (j+1,gAt p (j+1)) else lo p j
def bBh (a b:W4) (k:Nat):W4:=a.add (b.mul (iV k))
noncomputable def aZv (a b:W4):Nat:=(lo (a.conj.mul b) 23).1
noncomputable def bBm (a b:W4):Q4:=(bBh a b (aZv a b)).norm
def bAu (a b:Q4):Int:=sgF (a.sub b)
def loF (p:W4):Nat→Nat×Q4
 | 0=>(0,p.re)
 | j+1=>if bAu (gAt p (j+1)) (loF p j).2<0 then (j+1,gAt p (j+1)) else loF p j
def hiF (x:W4):Nat→Nat×Q4
 | 0=>(0,x.re)
 | j+1=>if 0<bAu (fAt x (j+1)) (hiF x j).2 then (j+1,fAt x (j+1)) else hiF x j
theorem Q4.zero_add (x:Q4):Q4.zero.add x=x:=by
 refine Q4.ext' ?_ ?_ ?_ ?_ <;> (simp only [Q4.add,Q4.zero];grind)
theorem Q4.add_zero (x:Q4):x.add Q4.zero=x:=by rw [Q4.add_comm,Q4.zero_add]
theorem Q4.zero_mul (x:Q4):Q4.zero.mul x=Q4.zero:=by
 refine Q4.ext' ?_ ?_ ?_ ?_ <;> (simp only [Q4.mul,Q4.zero];grind)
theorem Q4.one_mul (x:Q4):(Q4.real 1).mul x=x:=by
 refine Q4.ext' ?_ ?_ ?_ ?_ <;> (simp only [Q4.mul,Q4.real];grind)
theorem Q4.sub_zero (x:Q4):x.sub Q4.zero=x:=by
 refine Q4.ext' ?_ ?_ ?_ ?_ <;> (simp only [Q4.sub,Q4.add,Q4.neg,Q4.zero];grind)
theorem W4.zero_add (x:W4):W4.zero.add x=x:=W4.ext' (Q4.zero_add _) (Q4.zero_add _)
theorem W4.add_zero (x:W4):x.add W4.zero=x:=W4.ext' (Q4.add_zero _) (Q4.add_zero _)
theorem W4.zero_mul (x:W4):W4.zero.mul x=W4.zero:=by
 refine W4.ext' ?_ ?_ <;> simp only [W4.mul,W4.zero,Q4.zero_mul,Q4.sub_zero,Q4.add_zero]
theorem W4.mul_zero (x:W4):x.mul W4.zero=W4.zero:=by rw [W4.mul_comm,W4.zero_mul]
theorem W4.mul_add (x y z:W4):x.mul (y.add z)=(x.mul y).add (x.mul z):=by rw [W4.mul_comm,W4.add_mul,W4.mul_comm y,W4.mul_comm z]
theorem W4.add_left (x y z:W4):x.add (y.add z)=y.add (x.add z):=by rw [←W4.add_assoc,W4.add_comm x,W4.add_assoc]
theorem W4.mul_left (x y z:W4):x.mul (y.mul z)=y.mul (x.mul z):=by rw [←W4.mul_assoc,W4.mul_comm x,W4.mul_assoc]
def ofR (q:Q4):W4:=⟨q,Q4.zero⟩
theorem xQ (q:Q4) (w:W4):(ofR q).mul w=⟨q.mul w.re,q.mul w.im⟩:=by
 refine W4.ext' ?_ ?_ <;> simp only [W4.mul,ofR,Q4.zero_mul,Q4.sub_zero,Q4.add_zero]
theorem aNn:ofR Q4.zero=W4.zero:=rfl
def oV (f:Nat→W4):Nat→W4
 | 0=>W4.zero
 | n+1=>(oV f n).add (f n)
def uJ (f:Nat→Q4):Nat→Q4
 | 0=>Q4.zero
 | n+1=>(uJ f n).add (f n)
theorem uK {f g:Nat→W4}:∀ {n:Nat},(∀k,k<n→f k=g k)→oV f n=oV g n
 | 0,_=>rfl
 | n+1,h=>by
  show (oV f n).add (f n)=(oV g n).add (g n);rw [uK fun k hk=>h k oq,h n oq]
theorem nG {f g:Nat→Q4}:∀ {n:Nat},(∀k,k<n→f k=g k)→uJ f n=uJ g n
 | 0,_=>rfl
 | n+1,h=>by
  show (uJ f n).add (f n)=(uJ g n).add (g n);rw [nG fun k hk=>h k oq,h n oq]
theorem aBu:∀n,oV (fun _=>W4.zero) n=W4.zero
 | 0=>rfl
 | n+1=>by show (oV _ n).add _=_;rw [aBu n,W4.add_zero]
theorem rE {f:Nat→W4}{m:Nat}:∀ {n:Nat},m<n→(∀j,j<n→j≠m→f j=W4.zero)→oV f n=f m
 | 0,h,_=>absurd h (wa _)
 | n+1,h,hz=>by
  show (oV f n).add (f n)=f m
  by_cases e:m=n
  ·subst e;rw [uK (g:=fun _=>W4.zero) fun k hk=>hz k oq oq,aBu,W4.zero_add]
  ·rw [rE (n:=n) oq fun j hj=>hz j oq,hz n oq oq,W4.add_zero]
theorem aGj (f:Nat→W4):∀n,(oV f n).re=uJ (fun k=>(f k).re) n
 | 0=>rfl
 | n+1=>by
  show ((oV f n).re).add (f n).re=(uJ _ n).add (f n).re;rw [aGj f n]
def trn (k:Nat):W4:=iV (k % 24)
def mY (f:Nat→Q4) (n:Nat):W4:=(ofR (Q4.real (1/24))).mul (oV (fun k=>(ofR (f k)).mul (trn (23*n*k))) 24)
def wt (n:Nat):Q4:=Q4.real (if n=0∨n=12 then 1 else 2)
def bBj (g:Nat→W4) (k:Nat):Q4:=uJ (fun n=>(wt n).mul ((g n).mul (trn (n*k))).re) 13
def aTh (g:Nat→W4):Q4:=uJ (fun n=>(wt n).mul (g n).norm) 13
theorem aCo {f g:Nat→W4}(h:∀k,k<13→f k=g k):aTh f=aTh g:=nG fun k hk=>by rw [h k hk]
theorem W4.real_zero:W4.real 0=W4.zero:=by decide +kernel
def bBd (n:Nat) (w:W4) (m:Nat):W4:=if m=n then w else W4.zero
def bBo (f:Nat→Q4) (n k:Nat):Q4:=bBj (bBd n (mY f n)) k
theorem oE (f:Nat→Q4):(mY f 0).re=(Q4.real (1/24)).mul (uJ f 24):=by
 unfold mY;rw [xQ];show (Q4.real (1/24)).mul (oV _ 24).re=_;rw [aGj];refine congrArg (Q4.mul (Q4.real (1/24))) ?_;refine nG fun k _=>?_;rw [xQ,Nat.mul_zero,xf];show (f k).mul (trn 0).re=f k;have:(trn 0).re=Q4.real 1:=by decide +kernel
 rw [this,Q4.mul_comm,Q4.one_mul]
noncomputable def aYf (f:Nat→Q4):Nat→Q4
 | 0=>f 0
 | j+1=>if sgd (f (j+1)) (aYf f j)<0 then f (j+1) else aYf f j
noncomputable def aMo (f:Nat→Q4):Nat→Q4
 | 0=>f 0
 | j+1=>if 0<sgd (f (j+1)) (aMo f j) then f (j+1) else aMo f j
noncomputable def bBp (f:Nat→Q4):Q4:=(aMo f 23).sub (aYf f 23)
open IntKind (wrap)
open Go.RowKit
open Sy (Seg)
def zS:List Value:=[.bool false,.slice none 0 0,.bool false,.slice none 0 0,.bool false,.slice none 0 0,.bool false,.slice none 0 0,.slice none 0 0]
def zT:List Value:=[.bool false,.slice none 0 0,.slice none 0 0,.bool false,.slice none 0 0,.slice none 0 0,.bool false,.slice none 0 0,.slice none 0 0,.bool false,.slice none 0 0,.slice none 0 0]
def pV (n:Nat) (z:List Value):Array Value:=(List.replicate n z).flatten.toArray
def elt (cs:Array Value) (s i:Nat):Array Value:=(Sy.pickL cs (i*s+0) s).toArray
structure Arr (n s:Nat) (E:Nat→Array Value→Prop) (cs:Array Value):Prop where
 size:cs.size=n*s
 el:∀i,i<n→E i (elt cs s i)
section
variable {n s i:Nat}{E E':Nat→Array Value→Prop}{cs ys:Array Value}
theorem aAw:∀(l:List Value) (cs:Array Value) (o q:Nat),o+l.length≤cs.size→(Sy.over cs o l)[q]?=if o≤q∧q<o+l.length then l[q-o]? else cs[q]?:=by
 intro l cs o q h;rw [←jk,Sy.over_eq l cs o h,←jk];have hl:cs.toList.length=cs.size:=ja;simp only [jn,od,kz,vv,kj,hl];have e:min o cs.size=o:=oq
 rw [e]
 by_cases h1:q<o
 ·rw [og oq,og h1,og h1,oh oq]
 ·by_cases h2:q<o+l.length
  ·rw [og h2,oh h1,og ⟨oq,h2⟩]
  ·rw [oh h2,oh oq]
   congr 1
   omega
theorem fZ (cs:Array Value) (s i q:Nat) (hq:q<s) (hs:(i+1)*s≤cs.size):(elt cs s i)[q]?=cs[i*s+q]?:=by
 have hm:(i+1)*s=i*s+s:=zj _ _;unfold elt Sy.pickL;rw [←jk,jb,xz hq,jh];simp only [je];rw [ql oq];rfl
theorem kQ (cs:Array Value) (s i:Nat):(elt cs s i).size=s:=by simp [elt,Sy.pickL]
theorem lL {a:Array Value}(ha:a.size=s) (h:∀q,q<s→(elt cs s i)[q]?=a[q]?):elt cs s i=a:=by
 apply jc;intro q
 by_cases hq:q<s
 ·exact h q hq
 ·rw [zq (by rw [kQ];omega),zq oq]
theorem aMe {j:Nat}(hs:cs.size=n*s) (hi:i<n) (hj:j<n) (hy:ys.size=s):elt (Sy.over cs (i*s+0) ys.toList) s j=if j=i then ys else elt cs s j:=by
 have h1:(i+1)*s≤n*s:=ol s hi;have h2:(j+1)*s≤n*s:=ol s hj;have h3:(i+1)*s=i*s+s:=zj _ _;have h4:(j+1)*s=j*s+s:=zj _ _;have hl:ys.toList.length=s:=by simpa using hy
 by_cases e:j=i
 ·subst e;rw [og rfl];refine lL hy fun q hq=>?_;rw [fZ _ _ _ _ hq (by rw [Sy.over_size];omega),aAw _ _ _ _ oq,og ⟨oq,oq⟩];rw [←jk]
  congr 1
  omega
 ·rw [oh e];refine lL (kQ _ _ _) fun q hq=>?_;rw [fZ _ _ _ _ hq (by rw [Sy.over_size];omega),aAw _ _ _ _ oq,fZ _ _ _ _ hq oq,oh];rintro⟨a,b⟩;rcases Nat.lt_or_gt_of_ne e with e|e
  ·have:=ol s e;have h5:(j.succ)*s=j*s+s:=zj _ _;omega
  ·have:=ol s e;have h5:(i.succ)*s=i*s+s:=zj _ _;omega
theorem Arr.mono (h:Arr n s E cs) (hE:∀i a,i<n→E i a→E' i a):Arr n s E' cs:=⟨h.size,fun i hi=>hE i _ hi (h.el i hi)⟩
theorem Arr.get (h:Arr n s E cs) (hi:i<n):E i (Sy.pickL cs (Int.toNat (i:Int)*s+0) s).toArray:=h.el i hi
theorem Arr.set (h:Arr n s E cs) (hi:i<n) (hy:ys.size=s) (h1:E' i ys) (h2:∀j a,j<n→j≠i→E j a→E' j a):Arr n s E' (Sy.over cs (Int.toNat (i:Int)*s+0) ys.toList):=by
 refine⟨by rw [Sy.over_size];exact h.size,fun j hj=>?_⟩;show E' j (elt (Sy.over cs (i*s+0) ys.toList) s j);rw [aMe h.size hi hj hy];split
 ·rename_i e;subst e;exact h1
 ·rename_i e;exact h2 j _ hj e (h.el j hj)
theorem Arr.seg (h:Arr n s E cs) (hE:∀i a,i<n→E i a→Seg s a):Seg (n*s) cs:=by
 refine⟨h.size,fun u hu=>?_⟩;obtain⟨p,hp,rfl⟩:=List.getElem_of_mem hu;have hp':p<n*s:=by rw [←h.size];simpa using hp
 have hs:0<s:=zx fun e=>by subst e;omega
 have hi:p/s<n:=(qj hs).2 hp';have hsg:=hE _ _ hi (h.el _ hi);have hq:=qg p hs;have hd:=jf p s;have e:(elt cs s (p/s))[p % s]?=cs[p]?:=by
  have h1:(p/s+1)*s≤n*s:=ol s hi;rw [fZ _ _ _ _ hq (by rw [h.size];exact h1)]
  congr 1
  rw [oa];exact hd
 have hc:cs[p]?=some cs.toList[p]:=by rw [←jk];exact qi hp
 refine hsg.2 _ ?_;rw [hc,←jk]at e;exact zh e
theorem Arr.rep {a:Array Value}(n:Nat) (ha:a.size=s) (h:∀i,i<n→E i a):Arr n s E (List.replicate n a.toList).flatten.toArray:=by
 have hl:∀m,(List.replicate m a.toList).flatten.length=m*s:=fun m=>by
  induction m with
  | zero=>simp
  | succ m ih=>rw [List.replicate_succ,List.flatten_cons,od,ih,ja,ha,zj,vg]
 have hg:∀m i q,i<m→q<s→(List.replicate m a.toList).flatten[i*s+q]?=a[q]?:=by
  intro m
  induction m with
  | zero=>intro i q hi;omega
  | succ m ih=>
   intro i q hi hq;rw [List.replicate_succ,List.flatten_cons,jn,ja,ha];cases i with
   | zero=>rw [og oq,xf,qc,jk]
   | succ i=>
    have h3:(i+1)*s=i*s+s:=zj _ _;rw [oh oq];have:=ih i q oq hq;rw [←this]
    congr 1
    omega
 refine⟨by simpa using hl n,fun i hi=>?_⟩;have e:elt (List.replicate n a.toList).flatten.toArray s i=a:=by
  refine lL ha fun q hq=>?_;have h1:(i+1)*s≤n*s:=ol s hi;rw [fZ _ _ _ _ hq (by simpa [hl] using h1)];have:=hg n i q hi hq;rw [←jk];exact this
 rw [e];exact h i hi
end
def ArrV {α:Type}(n s:Nat) (P:Array Value→α→Prop) (cs:Array Value) (f:Nat→α):Prop:=Arr n s (fun i a=>P a (f i)) cs
def cut {α:Type}(j:Nat) (F G:Nat→α) (i:Nat):α:=if i<j then F i else G i
section
variable {α:Type}{n s i j:Nat}{P Q:Array Value→α→Prop}{cs ys:Array Value}{f g F G:Nat→α}
theorem ArrV.get (h:ArrV n s P cs f) (hi:i<n):P (Sy.pickL cs (Int.toNat (i:Int)*s+0) s).toArray (f i):=Arr.get h hi
theorem ArrV.mono (h:ArrV n s P cs f) (hP:∀a v,P a v→Q a v):ArrV n s Q cs f:=Arr.mono h fun _ _ _=>hP _ _
theorem ArrV.congr (h:ArrV n s P cs f) (e:∀i,i<n→f i=g i):ArrV n s P cs g:=Arr.mono h fun i _ hi h=>by rw [←e i hi];exact h
theorem ArrV.seg (h:ArrV n s P cs f) (hP:∀a v,P a v→Seg s a):Seg (n*s) cs:=Arr.seg h fun _ _ _=>hP _ _
theorem ArrV.set (h:ArrV n s P cs f) (hi:i<n) (hs:ys.size=s) (hy:P ys (g i)) (e:∀j,j<n→j≠i→f j=g j):ArrV n s P (Sy.over cs (Int.toNat (i:Int)*s+0) ys.toList) g:=
 Arr.set h hi hs hy fun j _ hj hne h=>by rw [←e j hj hne];exact h
theorem ArrV.step (h:ArrV n s P cs (cut j F G)) (hj:j<n) (hs:ys.size=s) (hy:P ys (F j)):ArrV n s P (Sy.over cs (Int.toNat (j:Int)*s+0) ys.toList) (cut (j+1) F G):=
 ArrV.set h hj hs (by unfold cut;rw [og (zp j)];exact hy) fun i _ hne=>by
  unfold cut
  by_cases c:i<j
  ·rw [og c,og oq]
  ·rw [oh c,oh oq]
theorem ArrV.start (h:ArrV n s P cs G):ArrV n s P cs (cut 0 F G):=h.congr fun _ _=>(oh (wa _)).symm
theorem ArrV.done (h:ArrV n s P cs (cut j F G)) (hj:n≤j):ArrV n s P cs F:=h.congr fun _ hi=>og oq
theorem ArrV.at (h:ArrV n s P cs (cut j F G)) (hj:j<n):P (Sy.pickL cs (Int.toNat (j:Int)*s+0) s).toArray (G j):=by
 have:=h.get hj;unfold cut at this
 rwa [oh (Nat.lt_irrefl j)]at this
theorem ArrV.zero {z:List Value}(hz:z.length=s) (v:α) (h:P z.toArray v):ArrV n s P (pV n z) fun _=>v:=Arr.rep (a:=z.toArray) n (by simpa using hz) fun _ _=>h
def bAq (s:Nat) (P:Array Value→α→Prop) (a:Array Value):Option α→Prop
 | none=>Seg s a
 | some v=>P a v
end
theorem ix24 {j:Nat}(h:j<24):decide ((0:Int)≤(j:Int)∧(j:Int)<24)=true:=decide_eq_true ⟨oq,oq⟩
theorem ix13 {j:Nat}(h:j<13):decide ((0:Int)≤(j:Int)∧(j:Int)<13)=true:=decide_eq_true ⟨oq,oq⟩
theorem lt24 {j:Nat}(h:decide ((j:Int)<24)=true):j<24:=by have:=ow h;omega
theorem ge24 {j:Nat}(h:decide ((j:Int)<24)=false):24≤j:=by have:=ov h;omega
theorem lt13 {j:Nat}(h:decide ((j:Int)<13)=true):j<13:=by have:=ow h;omega
theorem ge13 {j:Nat}(h:decide ((j:Int)<13)=false):13≤j:=by have:=ov h;omega
theorem wup {j:Nat}(h:j<100):wrap .i64 ((j:Int)+1)=((j+1:Nat):Int):=by rw [xk];omega
open Sy (Seg Up RowAt ReadAt ReadIn cellAt flat RowC)
section
variable {α:Type}{k k':World}{A:Option Addr}{n s i j m p:Nat}{P Q:Array Value→α→Prop}{xs cs:Array Value}{f g:Nat→α}{x:Value}
def InAt (k:World) (A:Option Addr) (xs:Array Value):Prop:=∀(p:Nat) u,xs[p]?=some u→∃b o,A=some ⟨b,o,none⟩∧b<k.heap.size∧k.cell? ⟨b,o+p,none⟩=some u
theorem InAt.up (h:InAt k A xs) (u:Up k k'):InAt k' A xs:=fun p v hp=>by
 obtain⟨b,o,e,hb,hc⟩:=h p v hp;exact⟨b,o,e,qy hb u.size,u.cell hc⟩
theorem InAt.of (h:RowAt k A xs):InAt k A xs:=fun p v hp=>by
 obtain⟨b,e,hb,hc⟩:=h p v hp;exact⟨b,0,e,hb,by rw [qc];exact hc⟩
theorem aAc {u:Value}(h:u.scalar=true):flat (some u)=some u:=by
 cases u <;> first|rfl|cases h
theorem InAt.at (h:InAt k A xs) (hc:RowC xs) {u:Value}(hx:xs[p]?=some u):cellAt k.cell? A p=some u:=by
 obtain⟨b,o,rfl,_,hb⟩:=h _ _ hx;show flat (k.cell? ⟨b,o+p,none⟩)=some u;rw [hb];exact aAc (hc u (zh (by rw [jk];exact hx))).1
theorem InAt.read (h:InAt k A xs) (hc:RowC xs) (hm:x.cells.size=m) (hq:∀(q:Nat) u,x.cells[q]?=some u→xs[p+q]?=some u):ReadAt k.cell? A p m x:=
 ⟨hm,fun q u hu=>h.at hc (hq q u hu)⟩
def Els (k:World) (A:Option Addr) (n s:Nat) (P:Array Value→α→Prop) (f:Nat→α):Prop:=∃xs,InAt k A xs∧RowC xs∧ArrV n s P xs f
theorem Els.up (h:Els k A n s P f) (u:Up k k'):Els k' A n s P f:=by
 obtain⟨xs,h1,h2,h3⟩:=h;exact⟨xs,h1.up u,h2,h3⟩
theorem Els.mono (h:Els k A n s P f) (hP:∀a v,P a v→Q a v):Els k A n s Q f:=by
 obtain⟨xs,h1,h2,h3⟩:=h;exact⟨xs,h1,h2,h3.mono hP⟩
theorem ArrV.el (h:ArrV n s P xs f) (hi:i<n):∃a:Array Value,a.size=s∧P a (f i)∧∀(q:Nat) u,a[q]?=some u→xs[i*s+q]?=some u:=by
 refine⟨elt xs s i,kQ _ _ _,Arr.el h i hi,fun q u hu=>?_⟩;have hq:q<s:=by have:=(jq.1 hu).1;rwa [kQ]at this
 rw [←hu,fZ _ _ _ _ hq (by rw [h.size];exact ol s hi)]
theorem ArrV.read (h:ArrV n s P xs f) (hi:i<n):∃a:Array Value,a.size=s∧P a (f i)∧∀(j m:Nat) x,x.cells.size=m→(∀(q:Nat) u,x.cells[q]?=some u→a[j+q]?=some u)→ReadIn xs (Int.toNat (i:Int)*s+j) m x:=by
 obtain⟨a,h1,h2,h3⟩:=h.el hi;refine⟨a,h1,h2,fun j m x hm hx=>⟨hm,fun q u hu=>?_⟩⟩;rw [xr];exact h3 _ _ (hx q u hu)
theorem Els.el (h:Els k A n s P f) (hi:i<n) (hs:0<s):∃a:Array Value,a.size=s∧P a (f i)∧(∃b o,A=some ⟨b,o,none⟩)∧
 ∀k',Up k k'→∀(j m:Nat) x,x.cells.size=m→(∀(q:Nat) u,x.cells[q]?=some u→a[j+q]?=some u)→ReadAt k'.cell? A (Int.toNat (i:Int)*s+j) m x:=by
 obtain⟨xs,h1,hc,h2⟩:=h;obtain⟨a,ha,hp,hx⟩:=h2.el hi;refine⟨a,ha,hp,?_,fun k' u j m x hm hq=>(h1.up u).read hc hm fun q v hv=>?_⟩
 ·obtain⟨b,o,e,_⟩:=h1 (i*s+0) a[0] (hx 0 _ (ql oq));exact⟨b,o,e⟩
 ·rw [xr];exact hx _ _ (hq q v hv)
theorem Els.spread (h:Els k A n s P f):∃cs:Array Value,RowC cs∧(cs.size=n*s∧∀(p:Nat) u,cs[p]?=some u→cellAt k.cell? A p=some u)∧ArrV n s P cs f:=by
 obtain⟨xs,h1,hc,h2⟩:=h;exact⟨xs,hc,⟨h2.size,fun p u hp=>h1.at hc hp⟩,h2⟩
theorem ArrV.rowC (h:ArrV n s P xs f) (hP:∀a v,P a v→Seg s a):RowC xs:=(ArrV.seg h hP).2
theorem ArrV.els (h:ArrV n s P xs f) (hP:∀a v,P a v→Seg s a) (hr:RowAt k A xs):Els k A n s P f:=⟨xs,.of hr,h.rowC hP,h⟩
theorem ArrV.push {a:Array Value}(h:ArrV n s P xs f) (ha:a.size=s) (hp:P a (f n)):ArrV (n+1) s P (xs++a.toList.toArray) f:=by
 have hz:=h.size;have h3:(n+1)*s=n*s+s:=zj _ _;refine⟨by simp [hz,ha,h3],fun i hi=>?_⟩;have h4:(i+1)*s≤(n+1)*s:=Nat.mul_le_mul_right s hi;have hsz:(xs++a.toList.toArray).size=(n+1)*s:=by simp [hz,ha,h3]
 by_cases e:i=n
 ·subst e;have:elt (xs++a.toList.toArray) s i=a:=lL ha fun q hq=>by
   rw [fZ _ _ _ _ hq (by rw [hsz];exact h4),Array.getElem?_append_right oq];rw [hz,Nat.add_sub_cancel_left]
  show P (elt _ s i) (f i);rw [this];exact hp
 ·have hlt:i<n:=oq
  have h5:(i+1)*s≤n*s:=ol s hlt;have h6:(i+1)*s=i*s+s:=zj _ _;have:elt (xs++a.toList.toArray) s i=elt xs s i:=lL (kQ _ _ _) fun q hq=>by
   rw [fZ _ _ _ _ hq (by rw [hsz];exact h4),fZ _ _ _ _ hq oq,vo oq]
  show P (elt _ s i) (f i);rw [this];exact Arr.el h i hlt
theorem ArrV.empty:ArrV 0 s P #[] f:=⟨by simp,fun i hi=>absurd hi (wa _)⟩
end
open Value (agg slice int bool tuple)
open Sy (Up Sees CallsG Seg execFn_use)
set_option maxRecDepth 100000
variable {k:World}{R:World→Value→Prop}{n0:Int}
theorem aOc 
 (h:Rt R k (int .i64 (Int.tmod (wrap .i64 ((Int.tmod n0 24)+24)) 24))) :
 CallsG Tryz.prog 74 #[int .i64 n0] k R:=
 qY { opq:=[] } h
theorem aRm 
 (h:Cl k 74 #[int .i64 n0] fun k1 r0=>Gi r0 fun n1=>
 Cl k1 75 #[int .i64 n1] fun k3 r2=>Gt 9 r2 fun cs2=>
 Cl k3 74 #[int .i64 (wrap .i64 (n1-6))] fun k5 r4=>Gi r4 fun n3=>
 Cl k5 75 #[int .i64 n3] fun k7 r6=>Gt 9 r6 fun cs4=>
 Rt R k7 (agg (cs2.toList++(cs4.toList++([]))).toArray)) :
  CallsG Tryz.prog 49 #[int .i64 n0] k R:=
  qY { opq:=[36] } h
theorem bM 
 (h:Br (decide ((n0:Int) > 12)) (Br (decide (((wrap .i64 (24-n0)):Int) > 6)) (Cl k 75 #[int .i64 (wrap .i64 (12-(wrap .i64 (24-n0))))] fun k1 r0=>Gt 9 r0 fun cs1=>
 Cl k1 57 #[agg cs1] fun k3 r2=>Gt 9 r2 fun cs2=>
 Rt R k3 (agg cs2)) (Br (((wrap .i64 (24-n0)):Int) == 0) (Cl k 21 #[int .i64 1] fun k6 r5=>Gt 2 r5 fun cs1=>
 Rt R k6 (agg (cs1.toList++((bool false) :: ((slice none 0 0) :: ((bool false) :: ((slice none 0 0) :: ((bool false) :: ((slice none 0 0) :: ((slice none 0 0) :: ([]))))))))).toArray)) (Br (((wrap .i64 (24-n0)):Int) == 1) (Cl k 103 #[int .i64 1,int .u64 4] fun k9 r8=>Gt 9 r8 fun cs1=>
 Cl k9 103 #[int .i64 3,int .u64 4] fun k11 r10=>Gt 9 r10 fun cs2=>
 Cl k11 26 #[agg cs1,agg cs2] fun k13 r12=>Gt 9 r12 fun cs3=>
 Rt R k13 (agg cs3)) (Br (((wrap .i64 (24-n0)):Int) == 2) (Cl k 103 #[int .i64 2,int .u64 2] fun k16 r15=>Gt 9 r15 fun cs1=>
 Rt R k16 (agg cs1)) (Br (((wrap .i64 (24-n0)):Int) == 3) (Cl k 103 #[int .i64 1,int .u64 2] fun k19 r18=>Gt 9 r18 fun cs1=>
 Rt R k19 (agg cs1)) (Br (((wrap .i64 (24-n0)):Int) == 4) (Cl k 103 #[int .i64 0,int .u64 2] fun k22 r21=>Gt 9 r21 fun cs1=>
 Rt R k22 (agg cs1)) (Br (((wrap .i64 (24-n0)):Int) == 5) (Cl k 103 #[int .i64 3,int .u64 4] fun k25 r24=>Gt 9 r24 fun cs1=>
 Cl k25 103 #[int .i64 1,int .u64 4] fun k27 r26=>Gt 9 r26 fun cs2=>
 Cl k27 27 #[agg cs1,agg cs2] fun k29 r28=>Gt 9 r28 fun cs3=>
 Rt R k29 (agg cs3)) (Rt R k (agg #[bool false,slice none 0 0,bool false,slice none 0 0,bool false,slice none 0 0,bool false,slice none 0 0,slice none 0 0]))))))))) (Br (decide ((n0:Int) > 6)) (Cl k 75 #[int .i64 (wrap .i64 (12-n0))] fun k33 r32=>Gt 9 r32 fun cs1=>
 Cl k33 57 #[agg cs1] fun k35 r34=>Gt 9 r34 fun cs2=>
 Rt R k35 (agg cs2)) (Br ((n0:Int) == 0) (Cl k 21 #[int .i64 1] fun k38 r37=>Gt 2 r37 fun cs1=>
 Rt R k38 (agg (cs1.toList++((bool false) :: ((slice none 0 0) :: ((bool false) :: ((slice none 0 0) :: ((bool false) :: ((slice none 0 0) :: ((slice none 0 0) :: ([]))))))))).toArray)) (Br ((n0:Int) == 1) (Cl k 103 #[int .i64 1,int .u64 4] fun k41 r40=>Gt 9 r40 fun cs1=>
 Cl k41 103 #[int .i64 3,int .u64 4] fun k43 r42=>Gt 9 r42 fun cs2=>
 Cl k43 26 #[agg cs1,agg cs2] fun k45 r44=>Gt 9 r44 fun cs3=>
 Rt R k45 (agg cs3)) (Br ((n0:Int) == 2) (Cl k 103 #[int .i64 2,int .u64 2] fun k48 r47=>Gt 9 r47 fun cs1=>
 Rt R k48 (agg cs1)) (Br ((n0:Int) == 3) (Cl k 103 #[int .i64 1,int .u64 2] fun k51 r50=>Gt 9 r50 fun cs1=>
 Rt R k51 (agg cs1)) (Br ((n0:Int) == 4) (Cl k 103 #[int .i64 0,int .u64 2] fun k54 r53=>Gt 9 r53 fun cs1=>
 Rt R k54 (agg cs1)) (Br ((n0:Int) == 5) (Cl k 103 #[int .i64 3,int .u64 4] fun k57 r56=>Gt 9 r56 fun cs1=>
 Cl k57 103 #[int .i64 1,int .u64 4] fun k59 r58=>Gt 9 r58 fun cs2=>
 Cl k59 27 #[agg cs1,agg cs2] fun k61 r60=>Gt 9 r60 fun cs3=>
 Rt R k61 (agg cs3)) (Rt R k (agg #[bool false,slice none 0 0,bool false,slice none 0 0,bool false,slice none 0 0,bool false,slice none 0 0,slice none 0 0])))))))))) :
  CallsG Tryz.prog 75 #[int .i64 n0] k R:=
  qY { opq:=[36,33] } h
theorem aOp 
 (h:Cl k 99 #[int .i64 (Int.tmod (wrap .i64 ((Int.tmod n0 24)+24)) 24)] fun k1 r0=>Gt 12 r0 fun cs1=>
 Cl k1 99 #[int .i64 (Int.tmod (wrap .i64 ((Int.tmod (wrap .i64 ((Int.tmod n0 24)+24)) 24)+18)) 24)] fun k3 r2=>Gt 12 r2 fun cs2=>
 Rt R k3 (agg (cs1.toList++(cs2.toList++([]))).toArray)) :
  CallsG Tryz.prog 65 #[int .i64 n0] k R:=
  qY { opq:=[62] } h
theorem aOr
 (h:Cl k 124 #[int .i64 4,int .i64 4] fun k1 r0=>∃cs0,Seg 3 cs0∧∃n1,some (tuple #[agg cs0,int .i64 n1])=some r0∧
 Cl k1 124 #[int .i64 0,int .i64 4] fun k3 r2=>∃cs2,Seg 3 cs2∧∃n3,some (tuple #[agg cs2,int .i64 n3])=some r2∧
 Cl k3 124 #[int .i64 0,int .i64 4] fun k5 r4=>∃cs4,Seg 3 cs4∧∃n5,some (tuple #[agg cs4,int .i64 n5])=some r4∧
 Cl k5 124 #[int .i64 0,int .i64 4] fun k7 r6=>∃cs6,Seg 3 cs6∧∃n7,some (tuple #[agg cs6,int .i64 n7])=some r6∧
 Rt R k7 (Rg cs0 cs2 cs4 cs6)) :
  CallsG Tryz.prog 99 #[int .i64 0] k R:=
  Sy.execFn_use_heap (cfg:={ opq:=[60] }) (args:=[.one (.lit (.int .i64 (0)))]) (vals:=[]) (kinds:=[]) (blks:=[]) (heap:=[]) ox trivial ox trivial ox h
theorem aPc
 (h:Cl k 124 #[int .i64 0,int .i64 4] fun k1 r0=>∃cs0,Seg 3 cs0∧∃n1,some (tuple #[agg cs0,int .i64 n1])=some r0∧
 Cl k1 124 #[int .i64 1,int .i64 4] fun k3 r2=>∃cs2,Seg 3 cs2∧∃n3,some (tuple #[agg cs2,int .i64 n3])=some r2∧
 Cl k3 124 #[int .i64 0,int .i64 4] fun k5 r4=>∃cs4,Seg 3 cs4∧∃n5,some (tuple #[agg cs4,int .i64 n5])=some r4∧
 Cl k5 124 #[int .i64 1,int .i64 4] fun k7 r6=>∃cs6,Seg 3 cs6∧∃n7,some (tuple #[agg cs6,int .i64 n7])=some r6∧
 Rt R k7 (Rg cs0 cs2 cs4 cs6)) :
  CallsG Tryz.prog 99 #[int .i64 1] k R:=
  Sy.execFn_use_heap (cfg:={ opq:=[60] }) (args:=[.one (.lit (.int .i64 (1)))]) (vals:=[]) (kinds:=[]) (blks:=[]) (heap:=[]) ox trivial ox trivial ox h
theorem aPh
 (h:Cl k 124 #[int .i64 0,int .i64 4] fun k1 r0=>∃cs0,Seg 3 cs0∧∃n1,some (tuple #[agg cs0,int .i64 n1])=some r0∧
 Cl k1 124 #[int .i64 0,int .i64 4] fun k3 r2=>∃cs2,Seg 3 cs2∧∃n3,some (tuple #[agg cs2,int .i64 n3])=some r2∧
 Cl k3 124 #[int .i64 2,int .i64 4] fun k5 r4=>∃cs4,Seg 3 cs4∧∃n5,some (tuple #[agg cs4,int .i64 n5])=some r4∧
 Cl k5 124 #[int .i64 0,int .i64 4] fun k7 r6=>∃cs6,Seg 3 cs6∧∃n7,some (tuple #[agg cs6,int .i64 n7])=some r6∧
 Rt R k7 (Rg cs0 cs2 cs4 cs6)) :
  CallsG Tryz.prog 99 #[int .i64 2] k R:=
  Sy.execFn_use_heap (cfg:={ opq:=[60] }) (args:=[.one (.lit (.int .i64 (2)))]) (vals:=[]) (kinds:=[]) (blks:=[]) (heap:=[]) ox trivial ox trivial ox h
theorem aPi
 (h:Cl k 124 #[int .i64 0,int .i64 4] fun k1 r0=>∃cs0,Seg 3 cs0∧∃n1,some (tuple #[agg cs0,int .i64 n1])=some r0∧
 Cl k1 124 #[int .i64 2,int .i64 4] fun k3 r2=>∃cs2,Seg 3 cs2∧∃n3,some (tuple #[agg cs2,int .i64 n3])=some r2∧
 Cl k3 124 #[int .i64 0,int .i64 4] fun k5 r4=>∃cs4,Seg 3 cs4∧∃n5,some (tuple #[agg cs4,int .i64 n5])=some r4∧
 Cl k5 124 #[int .i64 0,int .i64 4] fun k7 r6=>∃cs6,Seg 3 cs6∧∃n7,some (tuple #[agg cs6,int .i64 n7])=some r6∧
 Rt R k7 (Rg cs0 cs2 cs4 cs6)) :
  CallsG Tryz.prog 99 #[int .i64 3] k R:=
  Sy.execFn_use_heap (cfg:={ opq:=[60] }) (args:=[.one (.lit (.int .i64 (3)))]) (vals:=[]) (kinds:=[]) (blks:=[]) (heap:=[]) ox trivial ox trivial ox h
theorem aPj
 (h:Cl k 124 #[int .i64 2,int .i64 4] fun k1 r0=>∃cs0,Seg 3 cs0∧∃n1,some (tuple #[agg cs0,int .i64 n1])=some r0∧
 Cl k1 124 #[int .i64 0,int .i64 4] fun k3 r2=>∃cs2,Seg 3 cs2∧∃n3,some (tuple #[agg cs2,int .i64 n3])=some r2∧
 Cl k3 124 #[int .i64 0,int .i64 4] fun k5 r4=>∃cs4,Seg 3 cs4∧∃n5,some (tuple #[agg cs4,int .i64 n5])=some r4∧
 Cl k5 124 #[int .i64 0,int .i64 4] fun k7 r6=>∃cs6,Seg 3 cs6∧∃n7,some (tuple #[agg cs6,int .i64 n7])=some r6∧
 Rt R k7 (Rg cs0 cs2 cs4 cs6)) :
  CallsG Tryz.prog 99 #[int .i64 4] k R:=
  Sy.execFn_use_heap (cfg:={ opq:=[60] }) (args:=[.one (.lit (.int .i64 (4)))]) (vals:=[]) (kinds:=[]) (blks:=[]) (heap:=[]) ox trivial ox trivial ox h
theorem aPk
 (h:Cl k 124 #[int .i64 0,int .i64 4] fun k1 r0=>∃cs0,Seg 3 cs0∧∃n1,some (tuple #[agg cs0,int .i64 n1])=some r0∧
 Cl k1 124 #[int .i64 (-1),int .i64 4] fun k3 r2=>∃cs2,Seg 3 cs2∧∃n3,some (tuple #[agg cs2,int .i64 n3])=some r2∧
 Cl k3 124 #[int .i64 0,int .i64 4] fun k5 r4=>∃cs4,Seg 3 cs4∧∃n5,some (tuple #[agg cs4,int .i64 n5])=some r4∧
 Cl k5 124 #[int .i64 1,int .i64 4] fun k7 r6=>∃cs6,Seg 3 cs6∧∃n7,some (tuple #[agg cs6,int .i64 n7])=some r6∧
 Rt R k7 (Rg cs0 cs2 cs4 cs6)) :
  CallsG Tryz.prog 99 #[int .i64 5] k R:=
  Sy.execFn_use_heap (cfg:={ opq:=[60] }) (args:=[.one (.lit (.int .i64 (5)))]) (vals:=[]) (kinds:=[]) (blks:=[]) (heap:=[]) ox trivial ox trivial ox h
theorem aPl
 (h:Cl k 124 #[int .i64 0,int .i64 4] fun k1 r0=>∃cs0,Seg 3 cs0∧∃n1,some (tuple #[agg cs0,int .i64 n1])=some r0∧
 Cl k1 124 #[int .i64 0,int .i64 4] fun k3 r2=>∃cs2,Seg 3 cs2∧∃n3,some (tuple #[agg cs2,int .i64 n3])=some r2∧
 Cl k3 124 #[int .i64 0,int .i64 4] fun k5 r4=>∃cs4,Seg 3 cs4∧∃n5,some (tuple #[agg cs4,int .i64 n5])=some r4∧
 Cl k5 124 #[int .i64 0,int .i64 4] fun k7 r6=>∃cs6,Seg 3 cs6∧∃n7,some (tuple #[agg cs6,int .i64 n7])=some r6∧
 Rt R k7 (Rg cs0 cs2 cs4 cs6)) :
  CallsG Tryz.prog 99 #[int .i64 6] k R:=
  Sy.execFn_use_heap (cfg:={ opq:=[60] }) (args:=[.one (.lit (.int .i64 (6)))]) (vals:=[]) (kinds:=[]) (blks:=[]) (heap:=[]) ox trivial ox trivial ox h
theorem aPm
 (h:Cl k 99 #[int .i64 5] fun k1 r0=>∃cs0,Seg 3 cs0∧∃cs1,Seg 3 cs1∧∃cs2,Seg 3 cs2∧∃cs3,Seg 3 cs3∧some (Rg cs0 cs1 cs2 cs3)=some r0∧
 Cl k1 66 #[Rg cs0 cs1 cs2 cs3] fun k3 r2=>∃cs4,Seg 3 cs4∧∃cs5,Seg 3 cs5∧∃cs6,Seg 3 cs6∧∃cs7,Seg 3 cs7∧some (Rg cs4 cs5 cs6 cs7)=some r2∧
 Rt R k3 (Rg cs4 cs5 cs6 cs7)) :
  CallsG Tryz.prog 99 #[int .i64 7] k R:=
  Sy.execFn_use_heap (cfg:={ opq:=[60] }) (args:=[.one (.lit (.int .i64 (7)))]) (vals:=[]) (kinds:=[]) (blks:=[]) (heap:=[]) ox trivial ox trivial ox h
theorem aPn
 (h:Cl k 99 #[int .i64 4] fun k1 r0=>∃cs0,Seg 3 cs0∧∃cs1,Seg 3 cs1∧∃cs2,Seg 3 cs2∧∃cs3,Seg 3 cs3∧some (Rg cs0 cs1 cs2 cs3)=some r0∧
 Cl k1 66 #[Rg cs0 cs1 cs2 cs3] fun k3 r2=>∃cs4,Seg 3 cs4∧∃cs5,Seg 3 cs5∧∃cs6,Seg 3 cs6∧∃cs7,Seg 3 cs7∧some (Rg cs4 cs5 cs6 cs7)=some r2∧
 Rt R k3 (Rg cs4 cs5 cs6 cs7)) :
  CallsG Tryz.prog 99 #[int .i64 8] k R:=
  Sy.execFn_use_heap (cfg:={ opq:=[60] }) (args:=[.one (.lit (.int .i64 (8)))]) (vals:=[]) (kinds:=[]) (blks:=[]) (heap:=[]) ox trivial ox trivial ox h
theorem aPo
 (h:Cl k 99 #[int .i64 3] fun k1 r0=>∃cs0,Seg 3 cs0∧∃cs1,Seg 3 cs1∧∃cs2,Seg 3 cs2∧∃cs3,Seg 3 cs3∧some (Rg cs0 cs1 cs2 cs3)=some r0∧
 Cl k1 66 #[Rg cs0 cs1 cs2 cs3] fun k3 r2=>∃cs4,Seg 3 cs4∧∃cs5,Seg 3 cs5∧∃cs6,Seg 3 cs6∧∃cs7,Seg 3 cs7∧some (Rg cs4 cs5 cs6 cs7)=some r2∧
 Rt R k3 (Rg cs4 cs5 cs6 cs7)) :
  CallsG Tryz.prog 99 #[int .i64 9] k R:=
  Sy.execFn_use_heap (cfg:={ opq:=[60] }) (args:=[.one (.lit (.int .i64 (9)))]) (vals:=[]) (kinds:=[]) (blks:=[]) (heap:=[]) ox trivial ox trivial ox h
theorem aJn
 (h:Cl k 99 #[int .i64 2] fun k1 r0=>∃cs0,Seg 3 cs0∧∃cs1,Seg 3 cs1∧∃cs2,Seg 3 cs2∧∃cs3,Seg 3 cs3∧some (Rg cs0 cs1 cs2 cs3)=some r0∧
 Cl k1 66 #[Rg cs0 cs1 cs2 cs3] fun k3 r2=>∃cs4,Seg 3 cs4∧∃cs5,Seg 3 cs5∧∃cs6,Seg 3 cs6∧∃cs7,Seg 3 cs7∧some (Rg cs4 cs5 cs6 cs7)=some r2∧
 Rt R k3 (Rg cs4 cs5 cs6 cs7)) :
  CallsG Tryz.prog 99 #[int .i64 10] k R:=
  Sy.execFn_use_heap (cfg:={ opq:=[60] }) (args:=[.one (.lit (.int .i64 (10)))]) (vals:=[]) (kinds:=[]) (blks:=[]) (heap:=[]) ox trivial ox trivial ox h
theorem aJo
 (h:Cl k 99 #[int .i64 1] fun k1 r0=>∃cs0,Seg 3 cs0∧∃cs1,Seg 3 cs1∧∃cs2,Seg 3 cs2∧∃cs3,Seg 3 cs3∧some (Rg cs0 cs1 cs2 cs3)=some r0∧
 Cl k1 66 #[Rg cs0 cs1 cs2 cs3] fun k3 r2=>∃cs4,Seg 3 cs4∧∃cs5,Seg 3 cs5∧∃cs6,Seg 3 cs6∧∃cs7,Seg 3 cs7∧some (Rg cs4 cs5 cs6 cs7)=some r2∧
 Rt R k3 (Rg cs4 cs5 cs6 cs7)) :
  CallsG Tryz.prog 99 #[int .i64 11] k R:=
  Sy.execFn_use_heap (cfg:={ opq:=[60] }) (args:=[.one (.lit (.int .i64 (11)))]) (vals:=[]) (kinds:=[]) (blks:=[]) (heap:=[]) ox trivial ox trivial ox h
theorem aJp
 (h:Cl k 99 #[int .i64 0] fun k1 r0=>∃cs0,Seg 3 cs0∧∃cs1,Seg 3 cs1∧∃cs2,Seg 3 cs2∧∃cs3,Seg 3 cs3∧some (Rg cs0 cs1 cs2 cs3)=some r0∧
 Cl k1 66 #[Rg cs0 cs1 cs2 cs3] fun k3 r2=>∃cs4,Seg 3 cs4∧∃cs5,Seg 3 cs5∧∃cs6,Seg 3 cs6∧∃cs7,Seg 3 cs7∧some (Rg cs4 cs5 cs6 cs7)=some r2∧
 Rt R k3 (Rg cs4 cs5 cs6 cs7)) :
  CallsG Tryz.prog 99 #[int .i64 12] k R:=
  Sy.execFn_use_heap (cfg:={ opq:=[60] }) (args:=[.one (.lit (.int .i64 (12)))]) (vals:=[]) (kinds:=[]) (blks:=[]) (heap:=[]) ox trivial ox trivial ox h
theorem aJq
 (h:Cl k 99 #[int .i64 1] fun k1 r0=>∃cs0,Seg 3 cs0∧∃cs1,Seg 3 cs1∧∃cs2,Seg 3 cs2∧∃cs3,Seg 3 cs3∧some (Rg cs0 cs1 cs2 cs3)=some r0∧
 Cl k1 66 #[Rg cs0 cs1 cs2 cs3] fun k3 r2=>∃cs4,Seg 3 cs4∧∃cs5,Seg 3 cs5∧∃cs6,Seg 3 cs6∧∃cs7,Seg 3 cs7∧some (Rg cs4 cs5 cs6 cs7)=some r2∧
 Rt R k3 (Rg cs4 cs5 cs6 cs7)) :
  CallsG Tryz.prog 99 #[int .i64 13] k R:=
  Sy.execFn_use_heap (cfg:={ opq:=[60] }) (args:=[.one (.lit (.int .i64 (13)))]) (vals:=[]) (kinds:=[]) (blks:=[]) (heap:=[]) ox trivial ox trivial ox h
theorem aJr
 (h:Cl k 99 #[int .i64 2] fun k1 r0=>∃cs0,Seg 3 cs0∧∃cs1,Seg 3 cs1∧∃cs2,Seg 3 cs2∧∃cs3,Seg 3 cs3∧some (Rg cs0 cs1 cs2 cs3)=some r0∧
 Cl k1 66 #[Rg cs0 cs1 cs2 cs3] fun k3 r2=>∃cs4,Seg 3 cs4∧∃cs5,Seg 3 cs5∧∃cs6,Seg 3 cs6∧∃cs7,Seg 3 cs7∧some (Rg cs4 cs5 cs6 cs7)=some r2∧
 Rt R k3 (Rg cs4 cs5 cs6 cs7)) :
  CallsG Tryz.prog 99 #[int .i64 14] k R:=
  Sy.execFn_use_heap (cfg:={ opq:=[60] }) (args:=[.one (.lit (.int .i64 (14)))]) (vals:=[]) (kinds:=[]) (blks:=[]) (heap:=[]) ox trivial ox trivial ox h
theorem aJs
 (h:Cl k 99 #[int .i64 3] fun k1 r0=>∃cs0,Seg 3 cs0∧∃cs1,Seg 3 cs1∧∃cs2,Seg 3 cs2∧∃cs3,Seg 3 cs3∧some (Rg cs0 cs1 cs2 cs3)=some r0∧
 Cl k1 66 #[Rg cs0 cs1 cs2 cs3] fun k3 r2=>∃cs4,Seg 3 cs4∧∃cs5,Seg 3 cs5∧∃cs6,Seg 3 cs6∧∃cs7,Seg 3 cs7∧some (Rg cs4 cs5 cs6 cs7)=some r2∧
 Rt R k3 (Rg cs4 cs5 cs6 cs7)) :
  CallsG Tryz.prog 99 #[int .i64 15] k R:=
  Sy.execFn_use_heap (cfg:={ opq:=[60] }) (args:=[.one (.lit (.int .i64 (15)))]) (vals:=[]) (kinds:=[]) (blks:=[]) (heap:=[]) ox trivial ox trivial ox h
theorem aJt
 (h:Cl k 99 #[int .i64 4] fun k1 r0=>∃cs0,Seg 3 cs0∧∃cs1,Seg 3 cs1∧∃cs2,Seg 3 cs2∧∃cs3,Seg 3 cs3∧some (Rg cs0 cs1 cs2 cs3)=some r0∧
 Cl k1 66 #[Rg cs0 cs1 cs2 cs3] fun k3 r2=>∃cs4,Seg 3 cs4∧∃cs5,Seg 3 cs5∧∃cs6,Seg 3 cs6∧∃cs7,Seg 3 cs7∧some (Rg cs4 cs5 cs6 cs7)=some r2∧
 Rt R k3 (Rg cs4 cs5 cs6 cs7)) :
  CallsG Tryz.prog 99 #[int .i64 16] k R:=
  Sy.execFn_use_heap (cfg:={ opq:=[60] }) (args:=[.one (.lit (.int .i64 (16)))]) (vals:=[]) (kinds:=[]) (blks:=[]) (heap:=[]) ox trivial ox trivial ox h
theorem aJu
 (h:Cl k 99 #[int .i64 5] fun k1 r0=>∃cs0,Seg 3 cs0∧∃cs1,Seg 3 cs1∧∃cs2,Seg 3 cs2∧∃cs3,Seg 3 cs3∧some (Rg cs0 cs1 cs2 cs3)=some r0∧
 Cl k1 66 #[Rg cs0 cs1 cs2 cs3] fun k3 r2=>∃cs4,Seg 3 cs4∧∃cs5,Seg 3 cs5∧∃cs6,Seg 3 cs6∧∃cs7,Seg 3 cs7∧some (Rg cs4 cs5 cs6 cs7)=some r2∧
 Rt R k3 (Rg cs4 cs5 cs6 cs7)) :
  CallsG Tryz.prog 99 #[int .i64 17] k R:=
  Sy.execFn_use_heap (cfg:={ opq:=[60] }) (args:=[.one (.lit (.int .i64 (17)))]) (vals:=[]) (kinds:=[]) (blks:=[]) (heap:=[]) ox trivial ox trivial ox h
theorem aJv
 (h:Cl k 124 #[int .i64 0,int .i64 4] fun k1 r0=>∃cs0,Seg 3 cs0∧∃n1,some (tuple #[agg cs0,int .i64 n1])=some r0∧
 Cl k1 124 #[int .i64 0,int .i64 4] fun k3 r2=>∃cs2,Seg 3 cs2∧∃n3,some (tuple #[agg cs2,int .i64 n3])=some r2∧
 Cl k3 124 #[int .i64 0,int .i64 4] fun k5 r4=>∃cs4,Seg 3 cs4∧∃n5,some (tuple #[agg cs4,int .i64 n5])=some r4∧
 Cl k5 124 #[int .i64 0,int .i64 4] fun k7 r6=>∃cs6,Seg 3 cs6∧∃n7,some (tuple #[agg cs6,int .i64 n7])=some r6∧
 Rt R k7 (Rg cs0 cs2 cs4 cs6)) :
  CallsG Tryz.prog 99 #[int .i64 18] k R:=
  Sy.execFn_use_heap (cfg:={ opq:=[60] }) (args:=[.one (.lit (.int .i64 (18)))]) (vals:=[]) (kinds:=[]) (blks:=[]) (heap:=[]) ox trivial ox trivial ox h
theorem aJw
 (h:Cl k 124 #[int .i64 0,int .i64 4] fun k1 r0=>∃cs0,Seg 3 cs0∧∃n1,some (tuple #[agg cs0,int .i64 n1])=some r0∧
 Cl k1 124 #[int .i64 (-1),int .i64 4] fun k3 r2=>∃cs2,Seg 3 cs2∧∃n3,some (tuple #[agg cs2,int .i64 n3])=some r2∧
 Cl k3 124 #[int .i64 0,int .i64 4] fun k5 r4=>∃cs4,Seg 3 cs4∧∃n5,some (tuple #[agg cs4,int .i64 n5])=some r4∧
 Cl k5 124 #[int .i64 1,int .i64 4] fun k7 r6=>∃cs6,Seg 3 cs6∧∃n7,some (tuple #[agg cs6,int .i64 n7])=some r6∧
 Rt R k7 (Rg cs0 cs2 cs4 cs6)) :
  CallsG Tryz.prog 99 #[int .i64 19] k R:=
  Sy.execFn_use_heap (cfg:={ opq:=[60] }) (args:=[.one (.lit (.int .i64 (19)))]) (vals:=[]) (kinds:=[]) (blks:=[]) (heap:=[]) ox trivial ox trivial ox h
theorem aJx
 (h:Cl k 124 #[int .i64 2,int .i64 4] fun k1 r0=>∃cs0,Seg 3 cs0∧∃n1,some (tuple #[agg cs0,int .i64 n1])=some r0∧
 Cl k1 124 #[int .i64 0,int .i64 4] fun k3 r2=>∃cs2,Seg 3 cs2∧∃n3,some (tuple #[agg cs2,int .i64 n3])=some r2∧
 Cl k3 124 #[int .i64 0,int .i64 4] fun k5 r4=>∃cs4,Seg 3 cs4∧∃n5,some (tuple #[agg cs4,int .i64 n5])=some r4∧
 Cl k5 124 #[int .i64 0,int .i64 4] fun k7 r6=>∃cs6,Seg 3 cs6∧∃n7,some (tuple #[agg cs6,int .i64 n7])=some r6∧
 Rt R k7 (Rg cs0 cs2 cs4 cs6)) :
  CallsG Tryz.prog 99 #[int .i64 20] k R:=
  Sy.execFn_use_heap (cfg:={ opq:=[60] }) (args:=[.one (.lit (.int .i64 (20)))]) (vals:=[]) (kinds:=[]) (blks:=[]) (heap:=[]) ox trivial ox trivial ox h
theorem aJy
 (h:Cl k 124 #[int .i64 0,int .i64 4] fun k1 r0=>∃cs0,Seg 3 cs0∧∃n1,some (tuple #[agg cs0,int .i64 n1])=some r0∧
 Cl k1 124 #[int .i64 2,int .i64 4] fun k3 r2=>∃cs2,Seg 3 cs2∧∃n3,some (tuple #[agg cs2,int .i64 n3])=some r2∧
 Cl k3 124 #[int .i64 0,int .i64 4] fun k5 r4=>∃cs4,Seg 3 cs4∧∃n5,some (tuple #[agg cs4,int .i64 n5])=some r4∧
 Cl k5 124 #[int .i64 0,int .i64 4] fun k7 r6=>∃cs6,Seg 3 cs6∧∃n7,some (tuple #[agg cs6,int .i64 n7])=some r6∧
 Rt R k7 (Rg cs0 cs2 cs4 cs6)) :
  CallsG Tryz.prog 99 #[int .i64 21] k R:=
  Sy.execFn_use_heap (cfg:={ opq:=[60] }) (args:=[.one (.lit (.int .i64 (21)))]) (vals:=[]) (kinds:=[]) (blks:=[]) (heap:=[]) ox trivial ox trivial ox h
theorem aJz
 (h:Cl k 124 #[int .i64 0,int .i64 4] fun k1 r0=>∃cs0,Seg 3 cs0∧∃n1,some (tuple #[agg cs0,int .i64 n1])=some r0∧
 Cl k1 124 #[int .i64 0,int .i64 4] fun k3 r2=>∃cs2,Seg 3 cs2∧∃n3,some (tuple #[agg cs2,int .i64 n3])=some r2∧
 Cl k3 124 #[int .i64 2,int .i64 4] fun k5 r4=>∃cs4,Seg 3 cs4∧∃n5,some (tuple #[agg cs4,int .i64 n5])=some r4∧
 Cl k5 124 #[int .i64 0,int .i64 4] fun k7 r6=>∃cs6,Seg 3 cs6∧∃n7,some (tuple #[agg cs6,int .i64 n7])=some r6∧
 Rt R k7 (Rg cs0 cs2 cs4 cs6)) :
  CallsG Tryz.prog 99 #[int .i64 22] k R:=
  Sy.execFn_use_heap (cfg:={ opq:=[60] }) (args:=[.one (.lit (.int .i64 (22)))]) (vals:=[]) (kinds:=[]) (blks:=[]) (heap:=[]) ox trivial ox trivial ox h
theorem aKa
 (h:Cl k 124 #[int .i64 0,int .i64 4] fun k1 r0=>∃cs0,Seg 3 cs0∧∃n1,some (tuple #[agg cs0,int .i64 n1])=some r0∧
 Cl k1 124 #[int .i64 1,int .i64 4] fun k3 r2=>∃cs2,Seg 3 cs2∧∃n3,some (tuple #[agg cs2,int .i64 n3])=some r2∧
 Cl k3 124 #[int .i64 0,int .i64 4] fun k5 r4=>∃cs4,Seg 3 cs4∧∃n5,some (tuple #[agg cs4,int .i64 n5])=some r4∧
 Cl k5 124 #[int .i64 1,int .i64 4] fun k7 r6=>∃cs6,Seg 3 cs6∧∃n7,some (tuple #[agg cs6,int .i64 n7])=some r6∧
 Rt R k7 (Rg cs0 cs2 cs4 cs6)) :
  CallsG Tryz.prog 99 #[int .i64 23] k R:=
  Sy.execFn_use_heap (cfg:={ opq:=[60] }) (args:=[.one (.lit (.int .i64 (23)))]) (vals:=[]) (kinds:=[]) (blks:=[]) (heap:=[]) ox trivial ox trivial ox h
theorem aJa
 (h:Cl k 21 #[int .i64 1] fun k1 r0=>Gt 2 r0 fun cs0=>
 Cl k1 46 #[int .u64 4] fun k3 r2=>∃A1 l1 c1,some (slice A1 l1 c1)=some r2∧
 Rt R k3 (agg ((bool false) :: ((slice none 0 0) :: (cs0.toList++((bool false) :: ((slice none 0 0) :: ((bool false) :: ((slice none 0 0) :: ((slice A1 l1 c1) :: ([]))))))))).toArray)) :
  CallsG Tryz.prog 103 #[int .i64 1,int .u64 4] k R:=
  Sy.execFn_use_heap (cfg:={ opq:=[33] }) (args:=[.one (.lit (.int .i64 (1))),.one (.lit (.int .u64 (4)))]) (vals:=[]) (kinds:=[]) (blks:=[]) (heap:=[]) ox trivial ox trivial ox h
theorem aJc
 (h:Cl k 21 #[int .i64 1] fun k1 r0=>Gt 2 r0 fun cs0=>
 Cl k1 46 #[int .u64 4] fun k3 r2=>∃A1 l1 c1,some (slice A1 l1 c1)=some r2∧
 Rt R k3 (agg ((bool false) :: ((slice none 0 0) :: ((bool false) :: ((slice none 0 0) :: ((bool false) :: ((slice none 0 0) :: (cs0.toList++((slice A1 l1 c1) :: ([]))))))))).toArray)) :
  CallsG Tryz.prog 103 #[int .i64 3,int .u64 4] k R:=
  Sy.execFn_use_heap (cfg:={ opq:=[33] }) (args:=[.one (.lit (.int .i64 (3))),.one (.lit (.int .u64 (4)))]) (vals:=[]) (kinds:=[]) (blks:=[]) (heap:=[]) ox trivial ox trivial ox h
theorem aJb
 (h:Cl k 21 #[int .i64 1] fun k1 r0=>Gt 2 r0 fun cs0=>
 Cl k1 46 #[int .u64 2] fun k3 r2=>∃A1 l1 c1,some (slice A1 l1 c1)=some r2∧
 Rt R k3 (agg ((bool false) :: ((slice none 0 0) :: ((bool false) :: ((slice none 0 0) :: (cs0.toList++((bool false) :: ((slice none 0 0) :: ((slice A1 l1 c1) :: ([]))))))))).toArray)) :
  CallsG Tryz.prog 103 #[int .i64 2,int .u64 2] k R:=
  Sy.execFn_use_heap (cfg:={ opq:=[33] }) (args:=[.one (.lit (.int .i64 (2))),.one (.lit (.int .u64 (2)))]) (vals:=[]) (kinds:=[]) (blks:=[]) (heap:=[]) ox trivial ox trivial ox h
theorem aIz
 (h:Cl k 21 #[int .i64 1] fun k1 r0=>Gt 2 r0 fun cs0=>
 Cl k1 46 #[int .u64 2] fun k3 r2=>∃A1 l1 c1,some (slice A1 l1 c1)=some r2∧
 Rt R k3 (agg ((bool false) :: ((slice none 0 0) :: (cs0.toList++((bool false) :: ((slice none 0 0) :: ((bool false) :: ((slice none 0 0) :: ((slice A1 l1 c1) :: ([]))))))))).toArray)) :
  CallsG Tryz.prog 103 #[int .i64 1,int .u64 2] k R:=
  Sy.execFn_use_heap (cfg:={ opq:=[33] }) (args:=[.one (.lit (.int .i64 (1))),.one (.lit (.int .u64 (2)))]) (vals:=[]) (kinds:=[]) (blks:=[]) (heap:=[]) ox trivial ox trivial ox h
theorem aIy
 (h:Cl k 21 #[int .i64 1] fun k1 r0=>Gt 2 r0 fun cs0=>
 Cl k1 46 #[int .u64 2] fun k3 r2=>∃A1 l1 c1,some (slice A1 l1 c1)=some r2∧
 Rt R k3 (agg (cs0.toList++((bool false) :: ((slice none 0 0) :: ((bool false) :: ((slice none 0 0) :: ((bool false) :: ((slice none 0 0) :: ((slice A1 l1 c1) :: ([]))))))))).toArray)) :
  CallsG Tryz.prog 103 #[int .i64 0,int .u64 2] k R:=
  Sy.execFn_use_heap (cfg:={ opq:=[33] }) (args:=[.one (.lit (.int .i64 (0))),.one (.lit (.int .u64 (2)))]) (vals:=[]) (kinds:=[]) (blks:=[]) (heap:=[]) ox trivial ox trivial ox h
end Go.Proofs.YthiaclljcnincaaGreat

namespace Go.Proofs.YthiaclljcnincaaGreat
open IntKind (wrap)
open Go.RowKit Num
open Sy (Up Sees CallsG Seg)
section
variable {k k':World}{cs cs' c0 c1:Array Value}{R:World→Value→Prop}{v v':Q4}{x y:W4}{K L:Nat}
theorem IntV.cut {z:Int}(h:IntV k cs z K) (hz:z.natAbs≤1000):IntV k cs z 1:=by
 obtain⟨b,A,n,c,e,h1,h2⟩:=h;refine⟨b,A,n,c,e,h1,?_⟩;rw [h1.lim.len];exact aY (by unfold B64;omega)
theorem jW {z:Int}{m:Nat}(hm:0<m) (h:q4s (mkRat z m)=true):m ∣ 4*z.natAbs∧4*z.natAbs≤1000*m:=by
 unfold q4s at h;rw [qf,beq_iff_eq,decide_eq_true_iff]at h;have e:(4:Rat)*mkRat z m=mkRat (z*(4:Nat)) m:=by rw [qI z 4 hm];rfl
 rw [e,kV _ hm,jD _ hm]at h;obtain⟨h1,h2⟩:=h;have hz:(z*((4:Nat):Int)).natAbs=4*z.natAbs:=by rw [ww,zi,oa]
 rw [hz]at h1 h2;generalize hg:Nat.gcd (4*z.natAbs) m=g at h1 h2;have d1:g ∣ m:=hg▸ki _ _;have d2:g ∣ 4*z.natAbs:=hg▸xe _ _;have em:m=g:=by have:=Nat.div_mul_cancel d1;rw [h1,yv]at this;exact this.symm
 have hle:=ol g h2;rw [Nat.div_mul_cancel d2]at hle;rw [em];exact⟨d2,hle⟩
theorem SurdV.cut (h:SurdV k cs v K) (hs:v.small=true):SurdV k cs v 1:=by
 obtain⟨c0,c1,c2,c3,D,d,e,y0,y1,y2,y3,m,h1,hm,hg,rfl,i0,i1,i2,i3,l,hd⟩:=h;unfold Q4.small mkQ at hs;rw [qf,qf,qf]at hs;obtain⟨⟨⟨s0,s1⟩,s2⟩,s3⟩:=hs;obtain⟨d0,b0⟩:=jW hm s0;obtain⟨d1,b1⟩:=jW hm s1;obtain⟨d2,b2⟩:=jW hm s2;obtain⟨d3,b3⟩:=jW hm s3;have hm4:m ∣ 4:=by
  have dm:m ∣ 4*m:=Nat.dvd_mul_left m 4;have:=xi (xi (xi (xi dm d0) d1) d2) d3;rw [xw,xw,xw,xw]at this;unfold gcd5 at hg;rw [hg]at this;exact this
 have hm4:=Nat.le_of_dvd oz hm4;refine⟨c0,c1,c2,c3,D,d,e,y0,y1,y2,y3,m,h1,hm,hg,rfl,i0.cut oq,i1.cut oq,i2.cut oq,i3.cut oq,l,?_⟩;rw [l.len];refine aY ?_;unfold B64;split <;> omega
theorem WaveV.nil:WaveV k #[.bool false,.slice none 0 0,.bool false,.slice none 0 0,.bool false,.slice none 0 0,.bool false,.slice none 0 0,.slice none 0 0,.bool false,.slice none 0 0,.bool false,.slice none 0 0,.bool false,.slice none 0 0,.bool false,.slice none 0 0,.slice none 0 0] W4.zero K:=
 ⟨#[.bool false,.slice none 0 0,.bool false,.slice none 0 0,.bool false,.slice none 0 0,.bool false,.slice none 0 0,.slice none 0 0],#[.bool false,.slice none 0 0,.bool false,.slice none 0 0,.bool false,.slice none 0 0,.bool false,.slice none 0 0,.slice none 0 0],rfl,SurdV.nil (jx _),SurdV.nil (jx _)⟩
theorem oG (C:∀k' ds,Up k k'→SurdV k' ds ⟨0,1/4,0,0⟩ 1→R k' (.agg ds)) :
 Cl k 103 #[.int .i64 1,.int .u64 4] R:=by
 intro k0 u0;refine aJa ?_;refine aIp oz oz fun k1 d1 u1 i1=>⟨d1,i1.seg,rfl,?_⟩;refine uO (x:=4) oz fun k2 A l c u2 l2 hl=>⟨A,l,c,rfl,fun k3 u3=>?_⟩;exact C k3 _ (((u0.trans u1).trans u2).trans u3) ⟨#[.bool false,.slice none 0 0],d1,#[.bool false,.slice none 0 0],#[.bool false,.slice none 0 0],A,l,c,0,1,0,0,4,rfl,oz,oz,by decide +kernel,IntV.nil,(i1.up u2).up u3,IntV.nil,IntV.nil,(by rw [oh oz];exact l2.up u3),hl⟩
theorem oH (C:∀k' ds,Up k k'→SurdV k' ds ⟨0,0,0,1/4⟩ 1→R k' (.agg ds)) :
 Cl k 103 #[.int .i64 3,.int .u64 4] R:=by
 intro k0 u0;refine aJc ?_;refine aIp oz oz fun k1 d1 u1 i1=>⟨d1,i1.seg,rfl,?_⟩;refine uO (x:=4) oz fun k2 A l c u2 l2 hl=>⟨A,l,c,rfl,fun k3 u3=>?_⟩;exact C k3 _ (((u0.trans u1).trans u2).trans u3) ⟨#[.bool false,.slice none 0 0],#[.bool false,.slice none 0 0],#[.bool false,.slice none 0 0],d1,A,l,c,0,0,0,1,4,rfl,oz,oz,by decide +kernel,IntV.nil,IntV.nil,IntV.nil,(i1.up u2).up u3,(by rw [oh oz];exact l2.up u3),hl⟩
theorem aBa (C:∀k' ds,Up k k'→SurdV k' ds ⟨0,0,1/2,0⟩ 1→R k' (.agg ds)) :
 Cl k 103 #[.int .i64 2,.int .u64 2] R:=by
 intro k0 u0;refine aJb ?_;refine aIp oz oz fun k1 d1 u1 i1=>⟨d1,i1.seg,rfl,?_⟩;refine uO (x:=2) oz fun k2 A l c u2 l2 hl=>⟨A,l,c,rfl,fun k3 u3=>?_⟩;exact C k3 _ (((u0.trans u1).trans u2).trans u3) ⟨#[.bool false,.slice none 0 0],#[.bool false,.slice none 0 0],d1,#[.bool false,.slice none 0 0],A,l,c,0,0,1,0,2,rfl,oz,oz,by decide +kernel,IntV.nil,IntV.nil,(i1.up u2).up u3,IntV.nil,(by rw [oh oz];exact l2.up u3),hl⟩
theorem aAz (C:∀k' ds,Up k k'→SurdV k' ds ⟨0,1/2,0,0⟩ 1→R k' (.agg ds)) :
 Cl k 103 #[.int .i64 1,.int .u64 2] R:=by
 intro k0 u0;refine aIz ?_;refine aIp oz oz fun k1 d1 u1 i1=>⟨d1,i1.seg,rfl,?_⟩;refine uO (x:=2) oz fun k2 A l c u2 l2 hl=>⟨A,l,c,rfl,fun k3 u3=>?_⟩;exact C k3 _ (((u0.trans u1).trans u2).trans u3) ⟨#[.bool false,.slice none 0 0],d1,#[.bool false,.slice none 0 0],#[.bool false,.slice none 0 0],A,l,c,0,1,0,0,2,rfl,oz,oz,by decide +kernel,IntV.nil,(i1.up u2).up u3,IntV.nil,IntV.nil,(by rw [oh oz];exact l2.up u3),hl⟩
theorem aAy (C:∀k' ds,Up k k'→SurdV k' ds ⟨1/2,0,0,0⟩ 1→R k' (.agg ds)) :
 Cl k 103 #[.int .i64 0,.int .u64 2] R:=by
 intro k0 u0;refine aIy ?_;refine aIp oz oz fun k1 d1 u1 i1=>⟨d1,i1.seg,rfl,?_⟩;refine uO (x:=2) oz fun k2 A l c u2 l2 hl=>⟨A,l,c,rfl,fun k3 u3=>?_⟩;exact C k3 _ (((u0.trans u1).trans u2).trans u3) ⟨d1,#[.bool false,.slice none 0 0],#[.bool false,.slice none 0 0],#[.bool false,.slice none 0 0],A,l,c,1,0,0,0,2,rfl,oz,oz,by decide +kernel,(i1.up u2).up u3,IntV.nil,IntV.nil,IntV.nil,(by rw [oh oz];exact l2.up u3),hl⟩
theorem cast4 (h:SurdV k cs v K) (e:v=v'):SurdV k cs v' K:=e▸h
theorem aGs (C:∀k' ds,Up k k'→SurdV k' ds (cH 0) 1→R k' (.agg ds)) :
 Cl k 75 #[.int .i64 0] R:=by
 intro k0 u0;refine bM ⟨fun h=>absurd h (by decide +kernel),fun _=>⟨fun h=>absurd h (by decide +kernel),fun _=>⟨fun _=>?_,fun h=>absurd h (by decide +kernel)⟩⟩⟩;refine aIp oz oz fun k1 d1 u1 i1=>⟨d1,i1.seg,rfl,fun k2 u2=>?_⟩;exact C k2 _ ((u0.trans u1).trans u2) ⟨d1,#[.bool false,.slice none 0 0],#[.bool false,.slice none 0 0],#[.bool false,.slice none 0 0],none,0,0,1,0,0,0,1,rfl,oz,oz,by decide +kernel,i1.up u2,IntV.nil,IntV.nil,IntV.nil,(by rw [og rfl];exact LimR.nil),jx _⟩
theorem yT (C:∀k' ds,Up k k'→SurdV k' ds (cH 1) 1→R k' (.agg ds)) :
 Cl k 75 #[.int .i64 1] R:=by
 intro k0 u0;refine bM ⟨fun h=>absurd h (by decide +kernel),fun _=>⟨fun h=>absurd h (by decide +kernel),fun _=>⟨fun h=>absurd h (by decide +kernel),fun _=>⟨fun _=>?_,fun h=>absurd h (by decide +kernel)⟩⟩⟩⟩;refine oG fun k1 d1 u1 h1=>⟨d1,h1.seg,rfl,?_⟩;refine oH fun k2 d2 u2 h2=>⟨d2,h2.seg,rfl,?_⟩;refine kK (h1.up u2) h2 oz oz fun k3 d3 u3 h3=>⟨d3,h3.seg,rfl,fun k4 u4=>?_⟩;refine C k4 d3 ((((u0.trans u1).trans u2).trans u3).trans u4) (SurdV.cut (K:=2*1+1) (cast4 (h3.up u4) (by decide +kernel)) (by decide +kernel))
theorem yU (C:∀k' ds,Up k k'→SurdV k' ds (cH 2) 1→R k' (.agg ds)) :
 Cl k 75 #[.int .i64 2] R:=by
 intro k0 u0;refine bM ⟨fun h=>absurd h (by decide +kernel),fun _=>⟨fun h=>absurd h (by decide +kernel),fun _=>⟨fun h=>absurd h (by decide +kernel),fun _=>⟨fun h=>absurd h (by decide +kernel),fun _=>⟨fun _=>?_,fun h=>absurd h (by decide +kernel)⟩⟩⟩⟩⟩;exact aBa fun k1 d1 u1 h1=>⟨d1,h1.seg,rfl,fun k2 u2=>C k2 d1 ((u0.trans u1).trans u2) (h1.up u2)⟩
theorem yV (C:∀k' ds,Up k k'→SurdV k' ds (cH 3) 1→R k' (.agg ds)) :
 Cl k 75 #[.int .i64 3] R:=by
 intro k0 u0;refine bM ⟨fun h=>absurd h (by decide +kernel),fun _=>⟨fun h=>absurd h (by decide +kernel),fun _=>⟨fun h=>absurd h (by decide +kernel),fun _=>⟨fun h=>absurd h (by decide +kernel),fun _=>⟨fun h=>absurd h (by decide +kernel),fun _=>⟨fun _=>?_,fun h=>absurd h (by decide +kernel)⟩⟩⟩⟩⟩⟩;exact aAz fun k1 d1 u1 h1=>⟨d1,h1.seg,rfl,fun k2 u2=>C k2 d1 ((u0.trans u1).trans u2) (h1.up u2)⟩
theorem yW (C:∀k' ds,Up k k'→SurdV k' ds (cH 4) 1→R k' (.agg ds)) :
 Cl k 75 #[.int .i64 4] R:=by
 intro k0 u0;refine bM ⟨fun h=>absurd h (by decide +kernel),fun _=>⟨fun h=>absurd h (by decide +kernel),fun _=>⟨fun h=>absurd h (by decide +kernel),fun _=>⟨fun h=>absurd h (by decide +kernel),fun _=>⟨fun h=>absurd h (by decide +kernel),fun _=>⟨fun h=>absurd h (by decide +kernel),fun _=>⟨fun _=>?_,fun h=>absurd h (by decide +kernel)⟩⟩⟩⟩⟩⟩⟩;exact aAy fun k1 d1 u1 h1=>⟨d1,h1.seg,rfl,fun k2 u2=>C k2 d1 ((u0.trans u1).trans u2) (h1.up u2)⟩
theorem yX (C:∀k' ds,Up k k'→SurdV k' ds (cH 5) 1→R k' (.agg ds)) :
 Cl k 75 #[.int .i64 5] R:=by
 intro k0 u0;refine bM ⟨fun h=>absurd h (by decide +kernel),fun _=>⟨fun h=>absurd h (by decide +kernel),fun _=>⟨fun h=>absurd h (by decide +kernel),fun _=>⟨fun h=>absurd h (by decide +kernel),fun _=>⟨fun h=>absurd h (by decide +kernel),fun _=>⟨fun h=>absurd h (by decide +kernel),fun _=>⟨fun h=>absurd h (by decide +kernel),fun _=>⟨fun _=>?_,fun h=>absurd h (by decide +kernel)⟩⟩⟩⟩⟩⟩⟩⟩;refine oH fun k1 d1 u1 h1=>⟨d1,h1.seg,rfl,?_⟩;refine oG fun k2 d2 u2 h2=>⟨d2,h2.seg,rfl,?_⟩;refine pA (h1.up u2) h2 oz oz fun k3 d3 u3 h3=>⟨d3,h3.seg,rfl,fun k4 u4=>?_⟩;refine C k4 d3 ((((u0.trans u1).trans u2).trans u3).trans u4) (SurdV.cut (K:=2*1+1) (cast4 (h3.up u4) (by decide +kernel)) (by decide +kernel))
theorem aWf (C:∀k' ds,Up k k'→SurdV k' ds (cH 6) 1→R k' (.agg ds)) :
 Cl k 75 #[.int .i64 6] R:=by
 intro k0 u0;refine bM ⟨fun h=>absurd h (by decide +kernel),fun _=>⟨fun h=>absurd h (by decide +kernel),fun _=>⟨fun h=>absurd h (by decide +kernel),fun _=>⟨fun h=>absurd h (by decide +kernel),fun _=>⟨fun h=>absurd h (by decide +kernel),fun _=>⟨fun h=>absurd h (by decide +kernel),fun _=>⟨fun h=>absurd h (by decide +kernel),fun _=>⟨fun h=>absurd h (by decide +kernel),fun _=>?_⟩⟩⟩⟩⟩⟩⟩⟩;intro k1 u1;exact C k1 _ (u0.trans u1) (SurdV.nil (jx _))
theorem aWg (C:∀k' ds,Up k k'→SurdV k' ds (cH 7) 1→R k' (.agg ds)) :
 Cl k 75 #[.int .i64 7] R:=by
 intro k0 u0;refine bM ⟨fun h=>absurd h (by decide +kernel),fun _=>⟨fun _=>?_,fun h=>absurd h (by decide +kernel)⟩⟩;rw [show wrap .i64 (12-7)=(5:Int) from by decide +kernel];refine yX fun k1 d1 u1 h1=>⟨d1,h1.seg,rfl,?_⟩;refine eV h1 oz fun k3 d3 u3 h3=>⟨d3,h3.seg,rfl,fun k4 u4=>?_⟩;exact C k4 d3 (((u0.trans u1).trans u3).trans u4) (h3.up u4)
theorem aWh (C:∀k' ds,Up k k'→SurdV k' ds (cH 8) 1→R k' (.agg ds)) :
 Cl k 75 #[.int .i64 8] R:=by
 intro k0 u0;refine bM ⟨fun h=>absurd h (by decide +kernel),fun _=>⟨fun _=>?_,fun h=>absurd h (by decide +kernel)⟩⟩;rw [show wrap .i64 (12-8)=(4:Int) from by decide +kernel];refine yW fun k1 d1 u1 h1=>⟨d1,h1.seg,rfl,?_⟩;refine eV h1 oz fun k3 d3 u3 h3=>⟨d3,h3.seg,rfl,fun k4 u4=>?_⟩;exact C k4 d3 (((u0.trans u1).trans u3).trans u4) (h3.up u4)
theorem aWi (C:∀k' ds,Up k k'→SurdV k' ds (cH 9) 1→R k' (.agg ds)) :
 Cl k 75 #[.int .i64 9] R:=by
 intro k0 u0;refine bM ⟨fun h=>absurd h (by decide +kernel),fun _=>⟨fun _=>?_,fun h=>absurd h (by decide +kernel)⟩⟩;rw [show wrap .i64 (12-9)=(3:Int) from by decide +kernel];refine yV fun k1 d1 u1 h1=>⟨d1,h1.seg,rfl,?_⟩;refine eV h1 oz fun k3 d3 u3 h3=>⟨d3,h3.seg,rfl,fun k4 u4=>?_⟩;exact C k4 d3 (((u0.trans u1).trans u3).trans u4) (h3.up u4)
theorem aRn (C:∀k' ds,Up k k'→SurdV k' ds (cH 10) 1→R k' (.agg ds)) :
 Cl k 75 #[.int .i64 10] R:=by
 intro k0 u0;refine bM ⟨fun h=>absurd h (by decide +kernel),fun _=>⟨fun _=>?_,fun h=>absurd h (by decide +kernel)⟩⟩;rw [show wrap .i64 (12-10)=(2:Int) from by decide +kernel];refine yU fun k1 d1 u1 h1=>⟨d1,h1.seg,rfl,?_⟩;refine eV h1 oz fun k3 d3 u3 h3=>⟨d3,h3.seg,rfl,fun k4 u4=>?_⟩;exact C k4 d3 (((u0.trans u1).trans u3).trans u4) (h3.up u4)
theorem aRo (C:∀k' ds,Up k k'→SurdV k' ds (cH 11) 1→R k' (.agg ds)) :
 Cl k 75 #[.int .i64 11] R:=by
 intro k0 u0;refine bM ⟨fun h=>absurd h (by decide +kernel),fun _=>⟨fun _=>?_,fun h=>absurd h (by decide +kernel)⟩⟩;rw [show wrap .i64 (12-11)=(1:Int) from by decide +kernel];refine yT fun k1 d1 u1 h1=>⟨d1,h1.seg,rfl,?_⟩;refine eV h1 oz fun k3 d3 u3 h3=>⟨d3,h3.seg,rfl,fun k4 u4=>?_⟩;exact C k4 d3 (((u0.trans u1).trans u3).trans u4) (h3.up u4)
theorem aRp (C:∀k' ds,Up k k'→SurdV k' ds (cH 12) 1→R k' (.agg ds)) :
 Cl k 75 #[.int .i64 12] R:=by
 intro k0 u0;refine bM ⟨fun h=>absurd h (by decide +kernel),fun _=>⟨fun _=>?_,fun h=>absurd h (by decide +kernel)⟩⟩;rw [show wrap .i64 (12-12)=(0:Int) from by decide +kernel];refine aGs fun k1 d1 u1 h1=>⟨d1,h1.seg,rfl,?_⟩;refine eV h1 oz fun k3 d3 u3 h3=>⟨d3,h3.seg,rfl,fun k4 u4=>?_⟩;exact C k4 d3 (((u0.trans u1).trans u3).trans u4) (h3.up u4)
theorem aRq (C:∀k' ds,Up k k'→SurdV k' ds (cH 13) 1→R k' (.agg ds)) :
 Cl k 75 #[.int .i64 13] R:=by
 intro k0 u0;refine bM ⟨fun _=>⟨fun _=>?_,fun h=>absurd h (by decide +kernel)⟩,fun h=>absurd h (by decide +kernel)⟩;rw [show wrap .i64 (12-(wrap .i64 (24-13)))=(1:Int) from by decide +kernel];refine yT fun k1 d1 u1 h1=>⟨d1,h1.seg,rfl,?_⟩;refine eV h1 oz fun k3 d3 u3 h3=>⟨d3,h3.seg,rfl,fun k4 u4=>?_⟩;exact C k4 d3 (((u0.trans u1).trans u3).trans u4) (h3.up u4)
theorem aRr (C:∀k' ds,Up k k'→SurdV k' ds (cH 14) 1→R k' (.agg ds)) :
 Cl k 75 #[.int .i64 14] R:=by
 intro k0 u0;refine bM ⟨fun _=>⟨fun _=>?_,fun h=>absurd h (by decide +kernel)⟩,fun h=>absurd h (by decide +kernel)⟩;rw [show wrap .i64 (12-(wrap .i64 (24-14)))=(2:Int) from by decide +kernel];refine yU fun k1 d1 u1 h1=>⟨d1,h1.seg,rfl,?_⟩;refine eV h1 oz fun k3 d3 u3 h3=>⟨d3,h3.seg,rfl,fun k4 u4=>?_⟩;exact C k4 d3 (((u0.trans u1).trans u3).trans u4) (h3.up u4)
theorem aRs (C:∀k' ds,Up k k'→SurdV k' ds (cH 15) 1→R k' (.agg ds)) :
 Cl k 75 #[.int .i64 15] R:=by
 intro k0 u0;refine bM ⟨fun _=>⟨fun _=>?_,fun h=>absurd h (by decide +kernel)⟩,fun h=>absurd h (by decide +kernel)⟩;rw [show wrap .i64 (12-(wrap .i64 (24-15)))=(3:Int) from by decide +kernel];refine yV fun k1 d1 u1 h1=>⟨d1,h1.seg,rfl,?_⟩;refine eV h1 oz fun k3 d3 u3 h3=>⟨d3,h3.seg,rfl,fun k4 u4=>?_⟩;exact C k4 d3 (((u0.trans u1).trans u3).trans u4) (h3.up u4)
theorem aRt (C:∀k' ds,Up k k'→SurdV k' ds (cH 16) 1→R k' (.agg ds)) :
 Cl k 75 #[.int .i64 16] R:=by
 intro k0 u0;refine bM ⟨fun _=>⟨fun _=>?_,fun h=>absurd h (by decide +kernel)⟩,fun h=>absurd h (by decide +kernel)⟩;rw [show wrap .i64 (12-(wrap .i64 (24-16)))=(4:Int) from by decide +kernel];refine yW fun k1 d1 u1 h1=>⟨d1,h1.seg,rfl,?_⟩;refine eV h1 oz fun k3 d3 u3 h3=>⟨d3,h3.seg,rfl,fun k4 u4=>?_⟩;exact C k4 d3 (((u0.trans u1).trans u3).trans u4) (h3.up u4)
theorem aRu (C:∀k' ds,Up k k'→SurdV k' ds (cH 17) 1→R k' (.agg ds)) :
 Cl k 75 #[.int .i64 17] R:=by
 intro k0 u0;refine bM ⟨fun _=>⟨fun _=>?_,fun h=>absurd h (by decide +kernel)⟩,fun h=>absurd h (by decide +kernel)⟩;rw [show wrap .i64 (12-(wrap .i64 (24-17)))=(5:Int) from by decide +kernel];refine yX fun k1 d1 u1 h1=>⟨d1,h1.seg,rfl,?_⟩;refine eV h1 oz fun k3 d3 u3 h3=>⟨d3,h3.seg,rfl,fun k4 u4=>?_⟩;exact C k4 d3 (((u0.trans u1).trans u3).trans u4) (h3.up u4)
theorem aRv (C:∀k' ds,Up k k'→SurdV k' ds (cH 18) 1→R k' (.agg ds)) :
 Cl k 75 #[.int .i64 18] R:=by
 intro k0 u0;refine bM ⟨fun _=>⟨fun h=>absurd h (by decide +kernel),fun _=>⟨fun h=>absurd h (by decide +kernel),fun _=>⟨fun h=>absurd h (by decide +kernel),fun _=>⟨fun h=>absurd h (by decide +kernel),fun _=>⟨fun h=>absurd h (by decide +kernel),fun _=>⟨fun h=>absurd h (by decide +kernel),fun _=>⟨fun h=>absurd h (by decide +kernel),fun _=>?_⟩⟩⟩⟩⟩⟩⟩,fun h=>absurd h (by decide +kernel)⟩;intro k1 u1;exact C k1 _ (u0.trans u1) (SurdV.nil (jx _))
theorem aRw (C:∀k' ds,Up k k'→SurdV k' ds (cH 19) 1→R k' (.agg ds)) :
 Cl k 75 #[.int .i64 19] R:=by
 intro k0 u0;refine bM ⟨fun _=>⟨fun h=>absurd h (by decide +kernel),fun _=>⟨fun h=>absurd h (by decide +kernel),fun _=>⟨fun h=>absurd h (by decide +kernel),fun _=>⟨fun h=>absurd h (by decide +kernel),fun _=>⟨fun h=>absurd h (by decide +kernel),fun _=>⟨fun h=>absurd h (by decide +kernel),fun _=>⟨fun _=>?_,fun h=>absurd h (by decide +kernel)⟩⟩⟩⟩⟩⟩⟩,fun h=>absurd h (by decide +kernel)⟩;refine oH fun k1 d1 u1 h1=>⟨d1,h1.seg,rfl,?_⟩;refine oG fun k2 d2 u2 h2=>⟨d2,h2.seg,rfl,?_⟩;refine pA (h1.up u2) h2 oz oz fun k3 d3 u3 h3=>⟨d3,h3.seg,rfl,fun k4 u4=>?_⟩;refine C k4 d3 ((((u0.trans u1).trans u2).trans u3).trans u4) (SurdV.cut (K:=2*1+1) (cast4 (h3.up u4) (by decide +kernel)) (by decide +kernel))
theorem aRx (C:∀k' ds,Up k k'→SurdV k' ds (cH 20) 1→R k' (.agg ds)) :
 Cl k 75 #[.int .i64 20] R:=by
 intro k0 u0;refine bM ⟨fun _=>⟨fun h=>absurd h (by decide +kernel),fun _=>⟨fun h=>absurd h (by decide +kernel),fun _=>⟨fun h=>absurd h (by decide +kernel),fun _=>⟨fun h=>absurd h (by decide +kernel),fun _=>⟨fun h=>absurd h (by decide +kernel),fun _=>⟨fun _=>?_,fun h=>absurd h (by decide +kernel)⟩⟩⟩⟩⟩⟩,fun h=>absurd h (by decide +kernel)⟩;exact aAy fun k1 d1 u1 h1=>⟨d1,h1.seg,rfl,fun k2 u2=>C k2 d1 ((u0.trans u1).trans u2) (h1.up u2)⟩
theorem aRy (C:∀k' ds,Up k k'→SurdV k' ds (cH 21) 1→R k' (.agg ds)) :
 Cl k 75 #[.int .i64 21] R:=by
 intro k0 u0;refine bM ⟨fun _=>⟨fun h=>absurd h (by decide +kernel),fun _=>⟨fun h=>absurd h (by decide +kernel),fun _=>⟨fun h=>absurd h (by decide +kernel),fun _=>⟨fun h=>absurd h (by decide +kernel),fun _=>⟨fun _=>?_,fun h=>absurd h (by decide +kernel)⟩⟩⟩⟩⟩,fun h=>absurd h (by decide +kernel)⟩;exact aAz fun k1 d1 u1 h1=>⟨d1,h1.seg,rfl,fun k2 u2=>C k2 d1 ((u0.trans u1).trans u2) (h1.up u2)⟩
theorem aRz (C:∀k' ds,Up k k'→SurdV k' ds (cH 22) 1→R k' (.agg ds)) :
 Cl k 75 #[.int .i64 22] R:=by
 intro k0 u0;refine bM ⟨fun _=>⟨fun h=>absurd h (by decide +kernel),fun _=>⟨fun h=>absurd h (by decide +kernel),fun _=>⟨fun h=>absurd h (by decide +kernel),fun _=>⟨fun _=>?_,fun h=>absurd h (by decide +kernel)⟩⟩⟩⟩,fun h=>absurd h (by decide +kernel)⟩;exact aBa fun k1 d1 u1 h1=>⟨d1,h1.seg,rfl,fun k2 u2=>C k2 d1 ((u0.trans u1).trans u2) (h1.up u2)⟩
theorem aSa (C:∀k' ds,Up k k'→SurdV k' ds (cH 23) 1→R k' (.agg ds)) :
 Cl k 75 #[.int .i64 23] R:=by
 intro k0 u0;refine bM ⟨fun _=>⟨fun h=>absurd h (by decide +kernel),fun _=>⟨fun h=>absurd h (by decide +kernel),fun _=>⟨fun _=>?_,fun h=>absurd h (by decide +kernel)⟩⟩⟩,fun h=>absurd h (by decide +kernel)⟩;refine oG fun k1 d1 u1 h1=>⟨d1,h1.seg,rfl,?_⟩;refine oH fun k2 d2 u2 h2=>⟨d2,h2.seg,rfl,?_⟩;refine kK (h1.up u2) h2 oz oz fun k3 d3 u3 h3=>⟨d3,h3.seg,rfl,fun k4 u4=>?_⟩;refine C k4 d3 ((((u0.trans u1).trans u2).trans u3).trans u4) (SurdV.cut (K:=2*1+1) (cast4 (h3.up u4) (by decide +kernel)) (by decide +kernel))
theorem aSb {n:Nat}(hn:n<24) (C:∀k' ds,Up k k'→SurdV k' ds (cH n) 1→R k' (.agg ds)) :
 Cl k 75 #[.int .i64 (n:Int)] R:=by
 match n,hn with
 | 0,_=>exact aGs C
 | 1,_=>exact yT C
 | 2,_=>exact yU C
 | 3,_=>exact yV C
 | 4,_=>exact yW C
 | 5,_=>exact yX C
 | 6,_=>exact aWf C
 | 7,_=>exact aWg C
 | 8,_=>exact aWh C
 | 9,_=>exact aWi C
 | 10,_=>exact aRn C
 | 11,_=>exact aRo C
 | 12,_=>exact aRp C
 | 13,_=>exact aRq C
 | 14,_=>exact aRr C
 | 15,_=>exact aRs C
 | 16,_=>exact aRt C
 | 17,_=>exact aRu C
 | 18,_=>exact aRv C
 | 19,_=>exact aRw C
 | 20,_=>exact aRx C
 | 21,_=>exact aRy C
 | 22,_=>exact aRz C
 | 23,_=>exact aSa C
 | n+24,h=>exact absurd h oq
theorem aOe {n:Int}:Int.tmod (wrap .i64 ((Int.tmod n 24)+24)) 24=(plc n:Int):=by
 have h:Int.tmod n 24=n % 24∨Int.tmod n 24=n % 24-24:=by
  rw [Int.tmod_eq_emod];split
  ·left;omega
  ·right;rfl
 have hw:wrap .i64 ((Int.tmod n 24)+24)=Int.tmod n 24+24:=by rw [xk];omega
 rw [hw,Int.tmod_eq_emod_of_nonneg oq];unfold plc;omega
theorem aFt {n:Int}(C:∀k',Up k k'→R k' (.int .i64 (plc n:Int))) :
 Cl k 74 #[.int .i64 n] R:=by
 intro k0 u0;refine aOc fun k1 u1=>?_;rw [aOe];exact C k1 (u0.trans u1)
theorem aOd {m:Nat}(h:m<24):plc (wrap .i64 ((m:Int)-6))=(m+18) % 24:=by
 have hw:wrap .i64 ((m:Int)-6)=(m:Int)-6:=by rw [xk];omega
 rw [hw];unfold plc;omega
theorem sG {n:Int}(C:∀k' ds,Up k k'→WaveV k' ds (iV (plc n)) 1→R k' (.agg ds)) :
 Cl k 49 #[.int .i64 n] R:=by
 intro k0 u0;have hl:=aOf n;refine aRm (aFt fun k1 u1=>⟨_,rfl,?_⟩);refine aSb hl fun k2 d2 u2 h2=>⟨d2,h2.seg,rfl,?_⟩;have e:=aOd hl;refine aFt fun k3 u3=>⟨_,rfl,?_⟩;rw [e];refine aSb (qg _ oz) fun k4 d4 u4 h4=>⟨d4,h4.seg,rfl,fun k5 u5=>?_⟩;exact C k5 _ (((((u0.trans u1).trans u2).trans u3).trans u4).trans u5) ⟨d2,d4,rfl,((h2.up u3).up u4).up u5,h4.up u5⟩
end
def Bel (v:Q4) (b:Nat):Prop:=∃(y0 y1 y2 y3:Int) (m:Nat),0<m∧v=mkQ y0 y1 y2 y3 m∧y0.natAbs<b∧y1.natAbs<b∧y2.natAbs<b∧y3.natAbs<b∧m<b
section
variable {k k':World}{cs cs':Array Value}{R:World→Value→Prop}{v v':Q4}{x y:W4}{K L M b c:Nat}
theorem Bel.mono (h:Bel v b) (hb:b≤c):Bel v c:=by
 obtain⟨y0,y1,y2,y3,m,hm,e,h0,h1,h2,h3,h4⟩:=h;exact⟨y0,y1,y2,y3,m,hm,e,oq,oq,oq,oq,oq⟩
theorem IntV.lt {z:Int}(h:IntV k cs z K):z.natAbs<B64^K:=by
 obtain⟨s,A,n,c,e,h1,h2⟩:=h;refine qy (dA _) (qb aG ?_);rw [←h1.lim.len];exact h2
theorem SurdV.bel (h:SurdV k cs v K) (hK:1≤K):Bel v (B64^K):=by
 obtain⟨c0,c1,c2,c3,D,d,e,y0,y1,y2,y3,m,h1,hm,hg,hv,i0,i1,i2,i3,l,hd⟩:=h;refine⟨y0,y1,y2,y3,m,hm,hv,i0.lt,i1.lt,i2.lt,i3.lt,?_⟩
 by_cases e:m=1
 ·subst e;exact qy (show 1<B64^1 by decide) (qb aG hK)
 ·rw [oh e]at l;refine qy (dA _) (qb aG ?_);rw [←l.len];exact hd
theorem IntV.cutW {z:Int}(h:IntV k cs z K) (hz:z.natAbs<B64^L):IntV k cs z L:=by
 obtain⟨b,A,n,c,e,h1,h2⟩:=h;refine⟨b,A,n,c,e,h1,?_⟩;rw [h1.lim.len];exact aY hz
theorem iS {x y:Int}{m n:Nat}(hm:0<m) (hn:0<n) (h:mkRat x m=mkRat y n):x*n=y*m:=(Rat.mkRat_eq_iff oq oq).1 h
theorem SurdV.cutB (h:SurdV k cs v K) (hb:Bel v (B64^L)):SurdV k cs v L:=by
 obtain⟨c0,c1,c2,c3,D,d,e,y0,y1,y2,y3,m,h1,hm,hg,rfl,i0,i1,i2,i3,l,hd⟩:=h;obtain⟨z0,z1,z2,z3,n,hn,e,b0,b1,b2,b3,b4⟩:=hb;have e0:=iS hm hn (congrArg Q4.a e);have e1:=iS hm hn (congrArg Q4.b e);have e2:=iS hm hn (congrArg Q4.c e);have e3:=iS hm hn (congrArg Q4.d e);have dv:∀ {y z:Int},y*n=z*m→m ∣ n*y.natAbs:=by
  intro y z h;have:=congrArg Int.natAbs h;rw [ww,ww,zi,zi]at this;exact⟨z.natAbs,by rw [oa,this,oa]⟩
 have hmn:m ∣ n:=by
  have dm:m ∣ n*m:=Nat.dvd_mul_left m n;have:=xi (xi (xi (xi dm (dv e0)) (dv e1)) (dv e2)) (dv e3);rw [xw,xw,xw,xw]at this;unfold gcd5 at hg;rw [hg,js]at this;exact this
 have le:∀ {y z:Int},y*n=z*m→y.natAbs≤z.natAbs:=by
  intro y z h;obtain⟨t,rfl⟩:=hmn;have:=congrArg Int.natAbs h;rw [ww,ww,zi,zi]at this;have ht:0<t:=Nat.pos_of_mul_pos_left hn |> fun _=>zx fun e=>by subst e;simp at hn
  have h3:y.natAbs*t*m=z.natAbs*m:=by rw [←this,jl,oa t]
  have h4:=Nat.eq_of_mul_eq_mul_right hm h3;have:=zl y.natAbs ht;omega
 have hmle:=Nat.le_of_dvd hn hmn;refine⟨c0,c1,c2,c3,D,d,_,y0,y1,y2,y3,m,h1,hm,hg,rfl,i0.cutW (jm (le e0) b0),i1.cutW (jm (le e1) b1),i2.cutW (jm (le e2) b2),i3.cutW (jm (le e3) b3),l,?_⟩;rw [l.len];refine aY ?_;split <;> omega
theorem cU {a b:Nat}{x y:Int}(hx:x.natAbs<a) (hy:y.natAbs<b):(x*y).natAbs<a*b:=by
 rw [ww];exact xa hx hy
theorem aTw (x0 x1 x2 x3 y0 y1 y2 y3:Int) {m n:Nat}(hm:0<m) (hn:0<n):mkQ (x0*n+y0*m) (x1*n+y1*m) (x2*n+y2*m) (x3*n+y3*m) (m*n)=(mkQ x0 x1 x2 x3 m).add (mkQ y0 y1 y2 y3 n):=by
 unfold mkQ Q4.add;simp only [mU _ _ hm hn]
theorem Bel.add (h:Bel v b) (h':Bel v' c):Bel (v.add v') (2*(b*c)):=by
 obtain⟨x0,x1,x2,x3,m,hm,rfl,a0,a1,a2,a3,a4⟩:=h;obtain⟨y0,y1,y2,y3,n,hn,rfl,b0,b1,b2,b3,b4⟩:=h';have p:∀ {x y:Int},x.natAbs<b→y.natAbs<c→(x*n+y*m).natAbs<2*(b*c):=by
  intro x y hx hy;have h1:=cU (x:=x) (y:=(n:Int)) hx (by rw [zi];exact b4);have h2:=cU (x:=y) (y:=(m:Int)) hy (by rw [zi];exact a4);rw [oa c b]at h2;have:=Int.natAbs_add_le (x*n) (y*m);omega
 have q:=xa a4 b4;exact⟨_,_,_,_,m*n,zg hm hn,(aTw _ _ _ _ _ _ _ _ hm hn).symm,p a0 b0,p a1 b1,p a2 b2,p a3 b3,oq⟩
theorem Bel.neg (h:Bel v b):Bel v.neg b:=by
 obtain⟨x0,x1,x2,x3,m,hm,rfl,a0,a1,a2,a3,a4⟩:=h;refine⟨-x0,-x1,-x2,-x3,m,hm,?_,oq,oq,oq,oq,a4⟩;unfold mkQ Q4.neg;simp only [mV]
theorem Bel.mul (h:Bel v b) (h':Bel v' c):Bel (v.mul v') (12*(b*c)):=by
 obtain⟨x0,x1,x2,x3,m,hm,rfl,a0,a1,a2,a3,a4⟩:=h;obtain⟨y0,y1,y2,y3,n,hn,rfl,b0,b1,b2,b3,b4⟩:=h';have q:=xa a4 b4;refine⟨_,_,_,_,m*n,zg hm hn,(aFn _ _ _ _ _ _ _ _ hm hn).symm,?_,?_,?_,?_,oq⟩
 ·have h1:=cU a0 b0;have h2:=cU a1 b1;have h3:=cU a2 b2;have h4:=cU a3 b3;omega
 ·have h1:=cU a0 b1;have h2:=cU a1 b0;have h3:=cU a2 b3;have h4:=cU a3 b2;omega
 ·have h1:=cU a0 b2;have h2:=cU a2 b0;have h3:=cU a1 b3;have h4:=cU a3 b1;omega
 ·have h1:=cU a0 b3;have h2:=cU a3 b0;have h3:=cU a1 b2;have h4:=cU a2 b1;omega
theorem pow3 (K L:Nat):12*(B64^K*B64^L)≤B64^(K+L+1):=by
 have e:B64^(K+L+1)=B64^K*B64^L*B64:=by rw [jj,jt]
 rw [e,oa 12];exact qn _ oz
theorem pow2 (K L:Nat):2*(B64^K*B64^L)≤B64^(K+L+1):=qr (ol _ oz) (pow3 K L)
theorem aLf (hx:SurdV k cs v K) (hy:SurdV k cs' v' L) (hK1:1≤K) (hL1:1≤L) (hK:K≤100000000) (hL:L≤100000000) (C:∀k' ds,Up k k'→SurdV k' ds (v.add v') (K+L+1)→R k' (.agg ds)) :
 Cl k 26 #[.agg cs,.agg cs'] R:=
 kK (hx.mono (Nat.le_max_left K L)) (hy.mono (yy K L)) oq oq fun k' ds u h=>C k' ds u (h.cutB (((hx.bel hK1).add (hy.bel hL1)).mono (pow2 K L)))
theorem aWw (hx:SurdV k cs v K) (hy:SurdV k cs' v' L) (hK1:1≤K) (hL1:1≤L) (hK:K≤100000000) (hL:L≤100000000) (C:∀k' ds,Up k k'→SurdV k' ds (v.sub v') (K+L+1)→R k' (.agg ds)) :
 Cl k 27 #[.agg cs,.agg cs'] R:=
 pA (hx.mono (Nat.le_max_left K L)) (hy.mono (yy K L)) oq oq fun k' ds u h=>C k' ds u (h.cutB (((hx.bel hK1).add (hy.bel hL1).neg).mono (pow2 K L)))
theorem sI (hx:SurdV k cs v K) (hy:SurdV k cs' v' L) (hK1:1≤K) (hL1:1≤L) (hK:K≤100000000) (hL:L≤100000000) (C:∀k' ds,Up k k'→SurdV k' ds (v.mul v') (K+L+1)→R k' (.agg ds)) :
 Cl k 25 #[.agg cs,.agg cs'] R:=
 mN (hx.mono (Nat.le_max_left K L)) (hy.mono (yy K L)) oq oq fun k' ds u h=>C k' ds u (h.cutB (((hx.bel hK1).mul (hy.bel hL1)).mono (pow3 K L)))
theorem WaveV.cutB (h:WaveV k cs x K) (h0:Bel x.re (B64^L)) (h1:Bel x.im (B64^L)):WaveV k cs x L:=by
 obtain⟨c0,c1,e,a,b⟩:=h;exact⟨c0,c1,e,a.cutB h0,b.cutB h1⟩
theorem WaveV.bel (h:WaveV k cs x K) (hK:1≤K):Bel x.re (B64^K)∧Bel x.im (B64^K):=by
 obtain⟨c0,c1,e,a,b⟩:=h;exact⟨a.bel hK,b.bel hK⟩
theorem aXa (hx:WaveV k cs x K) (hy:WaveV k cs' y L) (hK1:1≤K) (hL1:1≤L) (hK:K≤30000000) (hL:L≤30000000) (C:∀k' ds,Up k k'→WaveV k' ds (x.add y) (K+L+1)→R k' (.agg ds)) :
 Cl k 47 #[.agg cs,.agg cs'] R:=
 aWz (hx.mono (Nat.le_max_left K L)) (hy.mono (yy K L)) oq oq fun k' ds u h=>C k' ds u (h.cutB (((hx.bel hK1).1.add (hy.bel hL1).1).mono (pow2 K L)) (((hx.bel hK1).2.add (hy.bel hL1).2).mono (pow2 K L)))
end
end Go.Proofs.YthiaclljcnincaaGreat

namespace Go.Proofs.YthiaclljcnincaaGreat.W32
open IntKind (wrap)
open Go.RowKit Num
open Sy (Up Sees CallsG Seg)
section
variable {k k':World}{cs cs' c0 c1:Array Value}{R:World→Value→Prop}{v v':Q4}{x y:W4}{K L:Nat}
theorem in64s {z:Int}(h:z.natAbs≤100):In64 z:=⟨oq,oq⟩
theorem aFy (C:∀k' ds,Up k k'→SQ k' ds (cH 0) 2→R k' (.agg ds)) :
 Cl k 99 #[.int .i64 0] R:=by
 intro k0 u0;refine aOr (bB (in64s oz) (in64s oz) fun k1 d1 u1 h1=>⟨d1,h1.seg,_,rfl,?_⟩);refine bB (in64s oz) (in64s oz) fun k2 d2 u2 h2=>⟨d2,h2.seg,_,rfl,?_⟩;refine bB (in64s oz) (in64s oz) fun k3 d3 u3 h3=>⟨d3,h3.seg,_,rfl,?_⟩;refine bB (in64s oz) (in64s oz) fun k4 d4 u4 h4=>⟨d4,h4.seg,_,rfl,fun k9 u9=>?_⟩;exact C k9 _ (((((u0.trans u1).trans u2).trans u3).trans u4).trans u9) ⟨d1,d2,d3,d4,rfl,((((h1.up u2).up u3).up u4).up u9).cast (by decide +kernel),(((h2.up u3).up u4).up u9).cast (by decide +kernel),((h3.up u4).up u9).cast (by decide +kernel),(h4.up u9).cast (by decide +kernel)⟩
theorem xZ (C:∀k' ds,Up k k'→SQ k' ds (cH 1) 2→R k' (.agg ds)) :
 Cl k 99 #[.int .i64 1] R:=by
 intro k0 u0;refine aPc (bB (in64s oz) (in64s oz) fun k1 d1 u1 h1=>⟨d1,h1.seg,_,rfl,?_⟩);refine bB (in64s oz) (in64s oz) fun k2 d2 u2 h2=>⟨d2,h2.seg,_,rfl,?_⟩;refine bB (in64s oz) (in64s oz) fun k3 d3 u3 h3=>⟨d3,h3.seg,_,rfl,?_⟩;refine bB (in64s oz) (in64s oz) fun k4 d4 u4 h4=>⟨d4,h4.seg,_,rfl,fun k9 u9=>?_⟩;exact C k9 _ (((((u0.trans u1).trans u2).trans u3).trans u4).trans u9) ⟨d1,d2,d3,d4,rfl,((((h1.up u2).up u3).up u4).up u9).cast (by decide +kernel),(((h2.up u3).up u4).up u9).cast (by decide +kernel),((h3.up u4).up u9).cast (by decide +kernel),(h4.up u9).cast (by decide +kernel)⟩
theorem yA (C:∀k' ds,Up k k'→SQ k' ds (cH 2) 2→R k' (.agg ds)) :
 Cl k 99 #[.int .i64 2] R:=by
 intro k0 u0;refine aPh (bB (in64s oz) (in64s oz) fun k1 d1 u1 h1=>⟨d1,h1.seg,_,rfl,?_⟩);refine bB (in64s oz) (in64s oz) fun k2 d2 u2 h2=>⟨d2,h2.seg,_,rfl,?_⟩;refine bB (in64s oz) (in64s oz) fun k3 d3 u3 h3=>⟨d3,h3.seg,_,rfl,?_⟩;refine bB (in64s oz) (in64s oz) fun k4 d4 u4 h4=>⟨d4,h4.seg,_,rfl,fun k9 u9=>?_⟩;exact C k9 _ (((((u0.trans u1).trans u2).trans u3).trans u4).trans u9) ⟨d1,d2,d3,d4,rfl,((((h1.up u2).up u3).up u4).up u9).cast (by decide +kernel),(((h2.up u3).up u4).up u9).cast (by decide +kernel),((h3.up u4).up u9).cast (by decide +kernel),(h4.up u9).cast (by decide +kernel)⟩
theorem yB (C:∀k' ds,Up k k'→SQ k' ds (cH 3) 2→R k' (.agg ds)) :
 Cl k 99 #[.int .i64 3] R:=by
 intro k0 u0;refine aPi (bB (in64s oz) (in64s oz) fun k1 d1 u1 h1=>⟨d1,h1.seg,_,rfl,?_⟩);refine bB (in64s oz) (in64s oz) fun k2 d2 u2 h2=>⟨d2,h2.seg,_,rfl,?_⟩;refine bB (in64s oz) (in64s oz) fun k3 d3 u3 h3=>⟨d3,h3.seg,_,rfl,?_⟩;refine bB (in64s oz) (in64s oz) fun k4 d4 u4 h4=>⟨d4,h4.seg,_,rfl,fun k9 u9=>?_⟩;exact C k9 _ (((((u0.trans u1).trans u2).trans u3).trans u4).trans u9) ⟨d1,d2,d3,d4,rfl,((((h1.up u2).up u3).up u4).up u9).cast (by decide +kernel),(((h2.up u3).up u4).up u9).cast (by decide +kernel),((h3.up u4).up u9).cast (by decide +kernel),(h4.up u9).cast (by decide +kernel)⟩
theorem yC (C:∀k' ds,Up k k'→SQ k' ds (cH 4) 2→R k' (.agg ds)) :
 Cl k 99 #[.int .i64 4] R:=by
 intro k0 u0;refine aPj (bB (in64s oz) (in64s oz) fun k1 d1 u1 h1=>⟨d1,h1.seg,_,rfl,?_⟩);refine bB (in64s oz) (in64s oz) fun k2 d2 u2 h2=>⟨d2,h2.seg,_,rfl,?_⟩;refine bB (in64s oz) (in64s oz) fun k3 d3 u3 h3=>⟨d3,h3.seg,_,rfl,?_⟩;refine bB (in64s oz) (in64s oz) fun k4 d4 u4 h4=>⟨d4,h4.seg,_,rfl,fun k9 u9=>?_⟩;exact C k9 _ (((((u0.trans u1).trans u2).trans u3).trans u4).trans u9) ⟨d1,d2,d3,d4,rfl,((((h1.up u2).up u3).up u4).up u9).cast (by decide +kernel),(((h2.up u3).up u4).up u9).cast (by decide +kernel),((h3.up u4).up u9).cast (by decide +kernel),(h4.up u9).cast (by decide +kernel)⟩
theorem yD (C:∀k' ds,Up k k'→SQ k' ds (cH 5) 2→R k' (.agg ds)) :
 Cl k 99 #[.int .i64 5] R:=by
 intro k0 u0;refine aPk (bB (in64s oz) (in64s oz) fun k1 d1 u1 h1=>⟨d1,h1.seg,_,rfl,?_⟩);refine bB (in64s oz) (in64s oz) fun k2 d2 u2 h2=>⟨d2,h2.seg,_,rfl,?_⟩;refine bB (in64s oz) (in64s oz) fun k3 d3 u3 h3=>⟨d3,h3.seg,_,rfl,?_⟩;refine bB (in64s oz) (in64s oz) fun k4 d4 u4 h4=>⟨d4,h4.seg,_,rfl,fun k9 u9=>?_⟩;exact C k9 _ (((((u0.trans u1).trans u2).trans u3).trans u4).trans u9) ⟨d1,d2,d3,d4,rfl,((((h1.up u2).up u3).up u4).up u9).cast (by decide +kernel),(((h2.up u3).up u4).up u9).cast (by decide +kernel),((h3.up u4).up u9).cast (by decide +kernel),(h4.up u9).cast (by decide +kernel)⟩
theorem aUr (C:∀k' ds,Up k k'→SQ k' ds (cH 6) 2→R k' (.agg ds)) :
 Cl k 99 #[.int .i64 6] R:=by
 intro k0 u0;refine aPl (bB (in64s oz) (in64s oz) fun k1 d1 u1 h1=>⟨d1,h1.seg,_,rfl,?_⟩);refine bB (in64s oz) (in64s oz) fun k2 d2 u2 h2=>⟨d2,h2.seg,_,rfl,?_⟩;refine bB (in64s oz) (in64s oz) fun k3 d3 u3 h3=>⟨d3,h3.seg,_,rfl,?_⟩;refine bB (in64s oz) (in64s oz) fun k4 d4 u4 h4=>⟨d4,h4.seg,_,rfl,fun k9 u9=>?_⟩;exact C k9 _ (((((u0.trans u1).trans u2).trans u3).trans u4).trans u9) ⟨d1,d2,d3,d4,rfl,((((h1.up u2).up u3).up u4).up u9).cast (by decide +kernel),(((h2.up u3).up u4).up u9).cast (by decide +kernel),((h3.up u4).up u9).cast (by decide +kernel),(h4.up u9).cast (by decide +kernel)⟩
theorem aUs (C:∀k' ds,Up k k'→SQ k' ds (cH 7) 2→R k' (.agg ds)) :
 Cl k 99 #[.int .i64 7] R:=by
 intro k0 u0;refine aPm (yD fun k1 d1 u1 h1=>?_);have h1':=h1;obtain⟨a0,a1,a2,a3,rfl,q0,q1,q2,q3⟩:=h1';refine⟨a0,q0.seg,a1,q1.seg,a2,q2.seg,a3,q3.seg,rfl,?_⟩;refine fW h1 oz fun k3 d3 u3 h3=>?_;have h3':=h3;obtain⟨b0,b1,b2,b3,rfl,r0,r1,r2,r3⟩:=h3';exact⟨b0,r0.seg,b1,r1.seg,b2,r2.seg,b3,r3.seg,rfl,fun k4 u4=>C k4 _ (((u0.trans u1).trans u3).trans u4) (h3.up u4)⟩
theorem aUt (C:∀k' ds,Up k k'→SQ k' ds (cH 8) 2→R k' (.agg ds)) :
 Cl k 99 #[.int .i64 8] R:=by
 intro k0 u0;refine aPn (yC fun k1 d1 u1 h1=>?_);have h1':=h1;obtain⟨a0,a1,a2,a3,rfl,q0,q1,q2,q3⟩:=h1';refine⟨a0,q0.seg,a1,q1.seg,a2,q2.seg,a3,q3.seg,rfl,?_⟩;refine fW h1 oz fun k3 d3 u3 h3=>?_;have h3':=h3;obtain⟨b0,b1,b2,b3,rfl,r0,r1,r2,r3⟩:=h3';exact⟨b0,r0.seg,b1,r1.seg,b2,r2.seg,b3,r3.seg,rfl,fun k4 u4=>C k4 _ (((u0.trans u1).trans u3).trans u4) (h3.up u4)⟩
theorem aUu (C:∀k' ds,Up k k'→SQ k' ds (cH 9) 2→R k' (.agg ds)) :
 Cl k 99 #[.int .i64 9] R:=by
 intro k0 u0;refine aPo (yB fun k1 d1 u1 h1=>?_);have h1':=h1;obtain⟨a0,a1,a2,a3,rfl,q0,q1,q2,q3⟩:=h1';refine⟨a0,q0.seg,a1,q1.seg,a2,q2.seg,a3,q3.seg,rfl,?_⟩;refine fW h1 oz fun k3 d3 u3 h3=>?_;have h3':=h3;obtain⟨b0,b1,b2,b3,rfl,r0,r1,r2,r3⟩:=h3';exact⟨b0,r0.seg,b1,r1.seg,b2,r2.seg,b3,r3.seg,rfl,fun k4 u4=>C k4 _ (((u0.trans u1).trans u3).trans u4) (h3.up u4)⟩
theorem aOs (C:∀k' ds,Up k k'→SQ k' ds (cH 10) 2→R k' (.agg ds)) :
 Cl k 99 #[.int .i64 10] R:=by
 intro k0 u0;refine aJn (yA fun k1 d1 u1 h1=>?_);have h1':=h1;obtain⟨a0,a1,a2,a3,rfl,q0,q1,q2,q3⟩:=h1';refine⟨a0,q0.seg,a1,q1.seg,a2,q2.seg,a3,q3.seg,rfl,?_⟩;refine fW h1 oz fun k3 d3 u3 h3=>?_;have h3':=h3;obtain⟨b0,b1,b2,b3,rfl,r0,r1,r2,r3⟩:=h3';exact⟨b0,r0.seg,b1,r1.seg,b2,r2.seg,b3,r3.seg,rfl,fun k4 u4=>C k4 _ (((u0.trans u1).trans u3).trans u4) (h3.up u4)⟩
theorem aOt (C:∀k' ds,Up k k'→SQ k' ds (cH 11) 2→R k' (.agg ds)) :
 Cl k 99 #[.int .i64 11] R:=by
 intro k0 u0;refine aJo (xZ fun k1 d1 u1 h1=>?_);have h1':=h1;obtain⟨a0,a1,a2,a3,rfl,q0,q1,q2,q3⟩:=h1';refine⟨a0,q0.seg,a1,q1.seg,a2,q2.seg,a3,q3.seg,rfl,?_⟩;refine fW h1 oz fun k3 d3 u3 h3=>?_;have h3':=h3;obtain⟨b0,b1,b2,b3,rfl,r0,r1,r2,r3⟩:=h3';exact⟨b0,r0.seg,b1,r1.seg,b2,r2.seg,b3,r3.seg,rfl,fun k4 u4=>C k4 _ (((u0.trans u1).trans u3).trans u4) (h3.up u4)⟩
theorem aOu (C:∀k' ds,Up k k'→SQ k' ds (cH 12) 2→R k' (.agg ds)) :
 Cl k 99 #[.int .i64 12] R:=by
 intro k0 u0;refine aJp (aFy fun k1 d1 u1 h1=>?_);have h1':=h1;obtain⟨a0,a1,a2,a3,rfl,q0,q1,q2,q3⟩:=h1';refine⟨a0,q0.seg,a1,q1.seg,a2,q2.seg,a3,q3.seg,rfl,?_⟩;refine fW h1 oz fun k3 d3 u3 h3=>?_;have h3':=h3;obtain⟨b0,b1,b2,b3,rfl,r0,r1,r2,r3⟩:=h3';exact⟨b0,r0.seg,b1,r1.seg,b2,r2.seg,b3,r3.seg,rfl,fun k4 u4=>C k4 _ (((u0.trans u1).trans u3).trans u4) (h3.up u4)⟩
theorem aOv (C:∀k' ds,Up k k'→SQ k' ds (cH 13) 2→R k' (.agg ds)) :
 Cl k 99 #[.int .i64 13] R:=by
 intro k0 u0;refine aJq (xZ fun k1 d1 u1 h1=>?_);have h1':=h1;obtain⟨a0,a1,a2,a3,rfl,q0,q1,q2,q3⟩:=h1';refine⟨a0,q0.seg,a1,q1.seg,a2,q2.seg,a3,q3.seg,rfl,?_⟩;refine fW h1 oz fun k3 d3 u3 h3=>?_;have h3':=h3;obtain⟨b0,b1,b2,b3,rfl,r0,r1,r2,r3⟩:=h3';exact⟨b0,r0.seg,b1,r1.seg,b2,r2.seg,b3,r3.seg,rfl,fun k4 u4=>C k4 _ (((u0.trans u1).trans u3).trans u4) (h3.up u4)⟩
theorem aOw (C:∀k' ds,Up k k'→SQ k' ds (cH 14) 2→R k' (.agg ds)) :
 Cl k 99 #[.int .i64 14] R:=by
 intro k0 u0;refine aJr (yA fun k1 d1 u1 h1=>?_);have h1':=h1;obtain⟨a0,a1,a2,a3,rfl,q0,q1,q2,q3⟩:=h1';refine⟨a0,q0.seg,a1,q1.seg,a2,q2.seg,a3,q3.seg,rfl,?_⟩;refine fW h1 oz fun k3 d3 u3 h3=>?_;have h3':=h3;obtain⟨b0,b1,b2,b3,rfl,r0,r1,r2,r3⟩:=h3';exact⟨b0,r0.seg,b1,r1.seg,b2,r2.seg,b3,r3.seg,rfl,fun k4 u4=>C k4 _ (((u0.trans u1).trans u3).trans u4) (h3.up u4)⟩
theorem aOx (C:∀k' ds,Up k k'→SQ k' ds (cH 15) 2→R k' (.agg ds)) :
 Cl k 99 #[.int .i64 15] R:=by
 intro k0 u0;refine aJs (yB fun k1 d1 u1 h1=>?_);have h1':=h1;obtain⟨a0,a1,a2,a3,rfl,q0,q1,q2,q3⟩:=h1';refine⟨a0,q0.seg,a1,q1.seg,a2,q2.seg,a3,q3.seg,rfl,?_⟩;refine fW h1 oz fun k3 d3 u3 h3=>?_;have h3':=h3;obtain⟨b0,b1,b2,b3,rfl,r0,r1,r2,r3⟩:=h3';exact⟨b0,r0.seg,b1,r1.seg,b2,r2.seg,b3,r3.seg,rfl,fun k4 u4=>C k4 _ (((u0.trans u1).trans u3).trans u4) (h3.up u4)⟩
theorem aOy (C:∀k' ds,Up k k'→SQ k' ds (cH 16) 2→R k' (.agg ds)) :
 Cl k 99 #[.int .i64 16] R:=by
 intro k0 u0;refine aJt (yC fun k1 d1 u1 h1=>?_);have h1':=h1;obtain⟨a0,a1,a2,a3,rfl,q0,q1,q2,q3⟩:=h1';refine⟨a0,q0.seg,a1,q1.seg,a2,q2.seg,a3,q3.seg,rfl,?_⟩;refine fW h1 oz fun k3 d3 u3 h3=>?_;have h3':=h3;obtain⟨b0,b1,b2,b3,rfl,r0,r1,r2,r3⟩:=h3';exact⟨b0,r0.seg,b1,r1.seg,b2,r2.seg,b3,r3.seg,rfl,fun k4 u4=>C k4 _ (((u0.trans u1).trans u3).trans u4) (h3.up u4)⟩
theorem aOz (C:∀k' ds,Up k k'→SQ k' ds (cH 17) 2→R k' (.agg ds)) :
 Cl k 99 #[.int .i64 17] R:=by
 intro k0 u0;refine aJu (yD fun k1 d1 u1 h1=>?_);have h1':=h1;obtain⟨a0,a1,a2,a3,rfl,q0,q1,q2,q3⟩:=h1';refine⟨a0,q0.seg,a1,q1.seg,a2,q2.seg,a3,q3.seg,rfl,?_⟩;refine fW h1 oz fun k3 d3 u3 h3=>?_;have h3':=h3;obtain⟨b0,b1,b2,b3,rfl,r0,r1,r2,r3⟩:=h3';exact⟨b0,r0.seg,b1,r1.seg,b2,r2.seg,b3,r3.seg,rfl,fun k4 u4=>C k4 _ (((u0.trans u1).trans u3).trans u4) (h3.up u4)⟩
theorem aPa (C:∀k' ds,Up k k'→SQ k' ds (cH 18) 2→R k' (.agg ds)) :
 Cl k 99 #[.int .i64 18] R:=by
 intro k0 u0;refine aJv (bB (in64s oz) (in64s oz) fun k1 d1 u1 h1=>⟨d1,h1.seg,_,rfl,?_⟩);refine bB (in64s oz) (in64s oz) fun k2 d2 u2 h2=>⟨d2,h2.seg,_,rfl,?_⟩;refine bB (in64s oz) (in64s oz) fun k3 d3 u3 h3=>⟨d3,h3.seg,_,rfl,?_⟩;refine bB (in64s oz) (in64s oz) fun k4 d4 u4 h4=>⟨d4,h4.seg,_,rfl,fun k9 u9=>?_⟩;exact C k9 _ (((((u0.trans u1).trans u2).trans u3).trans u4).trans u9) ⟨d1,d2,d3,d4,rfl,((((h1.up u2).up u3).up u4).up u9).cast (by decide +kernel),(((h2.up u3).up u4).up u9).cast (by decide +kernel),((h3.up u4).up u9).cast (by decide +kernel),(h4.up u9).cast (by decide +kernel)⟩
theorem aPb (C:∀k' ds,Up k k'→SQ k' ds (cH 19) 2→R k' (.agg ds)) :
 Cl k 99 #[.int .i64 19] R:=by
 intro k0 u0;refine aJw (bB (in64s oz) (in64s oz) fun k1 d1 u1 h1=>⟨d1,h1.seg,_,rfl,?_⟩);refine bB (in64s oz) (in64s oz) fun k2 d2 u2 h2=>⟨d2,h2.seg,_,rfl,?_⟩;refine bB (in64s oz) (in64s oz) fun k3 d3 u3 h3=>⟨d3,h3.seg,_,rfl,?_⟩;refine bB (in64s oz) (in64s oz) fun k4 d4 u4 h4=>⟨d4,h4.seg,_,rfl,fun k9 u9=>?_⟩;exact C k9 _ (((((u0.trans u1).trans u2).trans u3).trans u4).trans u9) ⟨d1,d2,d3,d4,rfl,((((h1.up u2).up u3).up u4).up u9).cast (by decide +kernel),(((h2.up u3).up u4).up u9).cast (by decide +kernel),((h3.up u4).up u9).cast (by decide +kernel),(h4.up u9).cast (by decide +kernel)⟩
theorem aPd (C:∀k' ds,Up k k'→SQ k' ds (cH 20) 2→R k' (.agg ds)) :
 Cl k 99 #[.int .i64 20] R:=by
 intro k0 u0;refine aJx (bB (in64s oz) (in64s oz) fun k1 d1 u1 h1=>⟨d1,h1.seg,_,rfl,?_⟩);refine bB (in64s oz) (in64s oz) fun k2 d2 u2 h2=>⟨d2,h2.seg,_,rfl,?_⟩;refine bB (in64s oz) (in64s oz) fun k3 d3 u3 h3=>⟨d3,h3.seg,_,rfl,?_⟩;refine bB (in64s oz) (in64s oz) fun k4 d4 u4 h4=>⟨d4,h4.seg,_,rfl,fun k9 u9=>?_⟩;exact C k9 _ (((((u0.trans u1).trans u2).trans u3).trans u4).trans u9) ⟨d1,d2,d3,d4,rfl,((((h1.up u2).up u3).up u4).up u9).cast (by decide +kernel),(((h2.up u3).up u4).up u9).cast (by decide +kernel),((h3.up u4).up u9).cast (by decide +kernel),(h4.up u9).cast (by decide +kernel)⟩
theorem aPe (C:∀k' ds,Up k k'→SQ k' ds (cH 21) 2→R k' (.agg ds)) :
 Cl k 99 #[.int .i64 21] R:=by
 intro k0 u0;refine aJy (bB (in64s oz) (in64s oz) fun k1 d1 u1 h1=>⟨d1,h1.seg,_,rfl,?_⟩);refine bB (in64s oz) (in64s oz) fun k2 d2 u2 h2=>⟨d2,h2.seg,_,rfl,?_⟩;refine bB (in64s oz) (in64s oz) fun k3 d3 u3 h3=>⟨d3,h3.seg,_,rfl,?_⟩;refine bB (in64s oz) (in64s oz) fun k4 d4 u4 h4=>⟨d4,h4.seg,_,rfl,fun k9 u9=>?_⟩;exact C k9 _ (((((u0.trans u1).trans u2).trans u3).trans u4).trans u9) ⟨d1,d2,d3,d4,rfl,((((h1.up u2).up u3).up u4).up u9).cast (by decide +kernel),(((h2.up u3).up u4).up u9).cast (by decide +kernel),((h3.up u4).up u9).cast (by decide +kernel),(h4.up u9).cast (by decide +kernel)⟩
theorem aPf (C:∀k' ds,Up k k'→SQ k' ds (cH 22) 2→R k' (.agg ds)) :
 Cl k 99 #[.int .i64 22] R:=by
 intro k0 u0;refine aJz (bB (in64s oz) (in64s oz) fun k1 d1 u1 h1=>⟨d1,h1.seg,_,rfl,?_⟩);refine bB (in64s oz) (in64s oz) fun k2 d2 u2 h2=>⟨d2,h2.seg,_,rfl,?_⟩;refine bB (in64s oz) (in64s oz) fun k3 d3 u3 h3=>⟨d3,h3.seg,_,rfl,?_⟩;refine bB (in64s oz) (in64s oz) fun k4 d4 u4 h4=>⟨d4,h4.seg,_,rfl,fun k9 u9=>?_⟩;exact C k9 _ (((((u0.trans u1).trans u2).trans u3).trans u4).trans u9) ⟨d1,d2,d3,d4,rfl,((((h1.up u2).up u3).up u4).up u9).cast (by decide +kernel),(((h2.up u3).up u4).up u9).cast (by decide +kernel),((h3.up u4).up u9).cast (by decide +kernel),(h4.up u9).cast (by decide +kernel)⟩
theorem aPg (C:∀k' ds,Up k k'→SQ k' ds (cH 23) 2→R k' (.agg ds)) :
 Cl k 99 #[.int .i64 23] R:=by
 intro k0 u0;refine aKa (bB (in64s oz) (in64s oz) fun k1 d1 u1 h1=>⟨d1,h1.seg,_,rfl,?_⟩);refine bB (in64s oz) (in64s oz) fun k2 d2 u2 h2=>⟨d2,h2.seg,_,rfl,?_⟩;refine bB (in64s oz) (in64s oz) fun k3 d3 u3 h3=>⟨d3,h3.seg,_,rfl,?_⟩;refine bB (in64s oz) (in64s oz) fun k4 d4 u4 h4=>⟨d4,h4.seg,_,rfl,fun k9 u9=>?_⟩;exact C k9 _ (((((u0.trans u1).trans u2).trans u3).trans u4).trans u9) ⟨d1,d2,d3,d4,rfl,((((h1.up u2).up u3).up u4).up u9).cast (by decide +kernel),(((h2.up u3).up u4).up u9).cast (by decide +kernel),((h3.up u4).up u9).cast (by decide +kernel),(h4.up u9).cast (by decide +kernel)⟩
theorem aPp {n:Nat}(hn:n<24) (C:∀k' ds,Up k k'→SQ k' ds (cH n) 2→R k' (.agg ds)) :
 Cl k 99 #[.int .i64 (n:Int)] R:=by
 match n,hn with
 | 0,_=>exact aFy C
 | 1,_=>exact xZ C
 | 2,_=>exact yA C
 | 3,_=>exact yB C
 | 4,_=>exact yC C
 | 5,_=>exact yD C
 | 6,_=>exact aUr C
 | 7,_=>exact aUs C
 | 8,_=>exact aUt C
 | 9,_=>exact aUu C
 | 10,_=>exact aOs C
 | 11,_=>exact aOt C
 | 12,_=>exact aOu C
 | 13,_=>exact aOv C
 | 14,_=>exact aOw C
 | 15,_=>exact aOx C
 | 16,_=>exact aOy C
 | 17,_=>exact aOz C
 | 18,_=>exact aPa C
 | 19,_=>exact aPb C
 | 20,_=>exact aPd C
 | 21,_=>exact aPe C
 | 22,_=>exact aPf C
 | 23,_=>exact aPg C
 | n+24,h=>exact absurd h oq
theorem aGc {n:Int}(C:∀k' ds,Up k k'→WQ k' ds (iV (plc n)) 2→R k' (.agg ds)) :
 Cl k 65 #[.int .i64 n] R:=by
 intro k0 u0;have hl:=aOf n;have e:Int.tmod (wrap .i64 ((plc n:Int)+18)) 24=(((plc n+18) % 24:Nat):Int):=by
  generalize plc n=m at hl ⊢;rw [xk,Int.tmod_eq_emod_of_nonneg oq];omega
 refine aOp ?_;rw [aOe,e];refine aPp hl fun k2 d2 u2 h2=>⟨d2,h2.seg,rfl,?_⟩;refine aPp (qg _ oz) fun k4 d4 u4 h4=>⟨d4,h4.seg,rfl,fun k5 u5=>?_⟩;exact C k5 _ (((u0.trans u2).trans u4).trans u5) ⟨d2,d4,rfl,(h2.up u4).up u5,h4.up u5⟩
end
