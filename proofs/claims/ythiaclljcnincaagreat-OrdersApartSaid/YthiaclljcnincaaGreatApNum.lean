import Derived.Test.YthiaclljcnincaaGreatApAA
namespace Go.Proofs.YthiaclljcnincaaGreat.Num
def wd (b n i:Nat):Nat:=n/b^i % b
structure Len (b n k:Nat):Prop where
 lt:n<b^k
 le:0<k→b^(k-1)≤n
section
variable {b:Nat} 
theorem aBy (hb:0<b) (n i:Nat):wd b n i<b:=qg _ hb
theorem kC {n i:Nat}(h:n<b^i):wd b n i=0:=by
 unfold wd;rw [qa h];simp
theorem rH (hb:0<b) {n i k:Nat}(h:n<b^k) (hi:k≤i):wd b n i=0:=
 kC (qy h (qb hb hi))
theorem dW (n i:Nat):n % b^(i+1)=n % b^i+b^i*wd b n i:=Nat.mod_pow_succ
theorem dK (n i:Nat):n/b^i=n/b^(i+1)*b+wd b n i:=by
 unfold wd;rw [jj,←jp,oa];exact (jf _ _).symm
theorem Len.zero (hb:0<b) {k:Nat}(h:Len b 0 k):k=0:=by
 rcases ju k with h0|h0
 ·exact h0
 ·have:=h.le h0;have:=oc (n:=k-1) hb;omega
theorem Len.pos {n k:Nat}(h:Len b n k) (hb:0<b) (hk:0<k):0<n:=by
 have:=h.le hk;have:=oc (n:=k-1) hb;omega
theorem Len.eq_zero {n:Nat}(h:Len b n 0):n=0:=by have:=h.lt;simp at this;exact this
theorem Len.nil:Len b 0 0:=⟨by simp,fun h=>absurd h oq⟩
theorem Len.zero_iff {n k:Nat}(h:Len b n k) (hb:0<b):k=0↔n=0:=
 ⟨fun e=>by subst e;exact h.eq_zero,fun e=>by subst e;exact h.zero hb⟩
theorem Len.lt_of {n m k l:Nat}(hb:0<b) (h:Len b n k) (h':Len b m l) (hk:k<l):n<m:=by
 have h1:=h.lt;have h2:=h'.le oq;have:=qb hb (show k≤l-1 by omega);omega
theorem Len.unique {n k l:Nat}(hb:0<b) (h:Len b n k) (h':Len b n l):k=l:=by
 rcases yj k l with h1|h1|h1
 ·have:=h.lt_of hb h' h1;omega
 ·exact h1
 ·have:=h'.lt_of hb h h1;omega
theorem Len.top {n k:Nat}(hb:0<b) (h:Len b n k) (hk:0<k):wd b n (k-1)≠0:=by
 intro e;have h1:=dK (b:=b) n (k-1);rw [e,show k-1+1=k by omega,qa h.lt]at h1;have h2:=h.le hk;have:=(zy (oc (n:=k-1) hb)).2 (by rw [yv];exact h2);omega
theorem Len.of_top {n k:Nat}(h:n<b^k) (ht:0<k→wd b n (k-1)≠0):Len b n k:=by
 refine⟨h,fun hk=>?_⟩;have h1:=ht hk;refine zw fun hlt=>h1 (kC hlt)
theorem vP {n k:Nat}(hb:0<b) (h:n<b^(k+1)) (ht:wd b n k=0):n<b^k:=by
 have h1:=dK (b:=b) n k;rw [ht,qa h]at h1;have hp:=oc (n:=k) hb;refine vu fun hle=>?_;have:=(zy hp).2 (by rw [yv];exact hle);omega
theorem Len.one {n:Nat}(h:n<b) (hn:0<n):Len b n 1:=⟨by simpa using h,fun _=>by simp;omega⟩
theorem oX {n:Nat}(h:n<b):wd b n 0=n:=by
 unfold wd;simp [Nat.mod_eq_of_lt h]
theorem Len.val1 {n:Nat}(h:Len b n 1):wd b n 0=n:=oX (by simpa using h.lt)
theorem wW {n m i:Nat}(h:n/b^(i+1)=m/b^(i+1)) (hw:wd b n i<wd b m i):n<m:=by
 have h1:=dK (b:=b) n i;have h2:=dK (b:=b) m i;rw [h]at h1;refine vu fun hle=>?_;have:=Nat.div_le_div_right (c:=b^i) hle;omega
theorem aLu {n m i:Nat}(h:n/b^(i+1)=m/b^(i+1)) (hw:wd b n i=wd b m i):n/b^i=m/b^i:=by
 rw [dK n i,dK m i,h,hw]
def carry (b n m k:Nat):Nat:=(n % b^k+m % b^k) / b^k
theorem sO (n m:Nat):carry b n m 0=0:=by simp [carry,Nat.mod_one]
theorem zL (hb:0<b) (n m k:Nat):carry b n m k≤1:=by
 have hp:=oc (n:=k) hb;have h1:=qg n hp;have h2:=qg m hp;unfold carry;have:(n % b^k+m % b^k) / b^k<2:=(qj hp).2 oq;omega
theorem sM (hb:0<b) (n m k:Nat):carry b n m (k+1)=(wd b n k+wd b m k+carry b n m k) / b:=by
 have hp:=oc (n:=k) hb;unfold carry;rw [dW n,dW m,jj,←jp]
 congr 1
 rw [show n % b^k+b^k*wd b n k+(m % b^k+b^k*wd b m k)=(n % b^k+m % b^k)+b^k*(wd b n k+wd b m k) by rw [zu];omega,jg _ _ hp];omega
theorem aEp (hb:0<b) (n m k:Nat):wd b (n+m) k=(wd b n k+wd b m k+carry b n m k) % b:=by
 have hp:=oc (n:=k) hb;unfold wd carry;have e:(n+m) / b^k=n/b^k+m/b^k+(n % b^k+m % b^k) / b^k:=by
  have h1:=jf n (b^k);have h2:=jf m (b^k);have:n+m=(n % b^k+m % b^k)+b^k*(n/b^k+m/b^k):=by rw [zu];omega
  rw [this,jg _ _ hp];omega
 rw [e];simp [Nat.add_mod]
theorem aGy {n m k:Nat}(hn:n<b^k) (hm:m<b^k):carry b n m k=(n+m) / b^k:=by
 unfold carry;rw [oi hn,oi hm]
def borrow (b n m k:Nat):Nat:=if n % b^k<m % b^k then 1 else 0
theorem pZ (n m:Nat):borrow b n m 0=0:=by simp [borrow,Nat.mod_one]
theorem pC (n m k:Nat):borrow b n m k≤1:=by unfold borrow;split <;> omega
theorem pY (hb:0<b) (n m k:Nat):borrow b n m (k+1)=if wd b n k<wd b m k+borrow b n m k then 1 else 0:=by
 have hp:=oc (n:=k) hb;have h1:=qg n hp;have h2:=qg m hp;unfold borrow;rw [dW n,dW m];generalize n % b^k=x at *
 generalize m % b^k=y at *
 generalize wd b n k=u;generalize wd b m k=v;generalize b^k=p at *
 by_cases h:x<y
 ·rw [og h]
  by_cases h':u<v+1
  ·rw [og h',og];have:p*u≤p*v:=qn p oq;omega
  ·rw [oh h',oh];have:p*(v+1)≤p*u:=qn p oq;rw [zu]at this;omega
 ·rw [oh h]
  by_cases h':u<v+0
  ·rw [og h',og];have:p*(u+1)≤p*v:=qn p oq;rw [zu]at this;omega
  ·rw [oh h',oh];have:p*v≤p*u:=qn p oq;omega
theorem aRh (hb:0<b) {n m:Nat}(h:m≤n) (k:Nat):wd b (n-m) k=(wd b n k+b-wd b m k-borrow b n m k) % b:=by
 have e:=aEp hb (n-m) m k;rw [xy h]at e;have hc:carry b (n-m) m k=borrow b n m k:=by
  have hp:=oc (n:=k) hb;have h1:=qg (n-m) hp;have h2:=qg m hp;have h3:n % b^k=((n-m) % b^k+m % b^k) % b^k:=by rw [←Nat.add_mod,xy h]
  unfold carry borrow;rw [h3];generalize (n-m) % b^k=x at *
  generalize m % b^k=y at *
  generalize b^k=p at *
  by_cases hx:x+y<p
  ·rw [oi hx,qa hx,oh oq]
  ·have:(x+y) % p=x+y-p:=by rw [Nat.mod_eq_sub_mod oq,oi oq]
   rw [this,og oq];have:(x+y) / p=1:=by
    rw [Nat.div_eq_sub_div hp oq,qa oq]
   exact this
 rw [hc]at e;have h1:=aBy hb (n-m) k;have h2:=aBy hb m k;have h3:=pC (b:=b) n m k;rw [e];generalize wd b (n-m) k=x at *
 generalize wd b m k=y at *
 generalize borrow b n m k=z at *
 by_cases hx:x+y+z<b
 ·rw [oi hx,show x+y+z+b-y-z=x+b by omega,Nat.add_mod_right,oi h1]
 ·have:(x+y+z) % b=x+y+z-b:=by rw [Nat.mod_eq_sub_mod oq,oi oq]
  rw [this,show x+y+z-b+b-y-z=x by omega,oi h1]
def upd (b n j x:Nat):Nat:=n-b^j*wd b n j+b^j*x
theorem aGq (n j:Nat):b^j*wd b n j≤n:=
 qr (by rw [dW];exact Nat.le_add_left _ _) (Nat.mod_le n (b^(j+1)))
theorem eC (hb:0<b) (x y k:Nat) (hx:x<b^k) (i:Nat):wd b (x+b^k*y) i=if i<k then wd b x i else wd b y (i-k):=by
 have hp:=oc (n:=k) hb;split
 ·rename_i h;unfold wd;have e:b^k=b^i*b*b^(k-i-1):=by
   rw [←jj,←jt];congr 1;omega
  rw [e,jl,jl,jg _ _ (oc hb),zv]
 ·rename_i h;unfold wd;have e:b^i=b^k*b^(i-k):=by rw [←jt];congr 1;omega
  rw [e,←jp,jg _ _ hp,qa hx,qc]
theorem nI (hb:0<b) (n k i:Nat) (h:i<k):wd b (n % b^k) i=wd b n i:=by
 have hp:=oc (n:=k) hb;have:=eC hb (n % b^k) (n/b^k) k (qg _ hp) i;rw [vg,jf,og h]at this;exact this.symm
theorem jZ (n k i:Nat):wd b (n/b^k) i=wd b n (k+i):=by
 unfold wd;rw [jp,←jt]
theorem aZd (n j x:Nat):upd b n j x=n % b^j+b^j*(x+b*(n/b^(j+1))):=by
 unfold upd;have h1:=jf n (b^j);rw [dK n j,zu,oa (n/b^(j+1)) b]at h1;rw [zu];generalize n % b^j=r at *
 generalize b^j*(b*(n/b^(j+1)))=s at *
 generalize b^j*wd b n j=t at *
 omega
theorem aRi (hb:0<b) {n j x:Nat}(hx:x<b) (i:Nat):wd b (upd b n j x) i=if i=j then x else wd b n i:=by
 have hp:=oc (n:=j) hb;rw [aZd,eC hb _ _ _ (qg _ hp)]
 by_cases h:i<j
 ·rw [og h,oh oq,nI hb _ _ _ h]
 ·rw [oh h];have:=eC hb x (n/b^(j+1)) 1 (by simpa using hx) (i-j);rw [yx]at this;rw [this]
  by_cases h2:i=j
  ·subst h2;simp [oX hx]
  ·rw [oh oq,oh h2,jZ,show j+1+(i-j-1)=i by omega]
theorem aBx (n j x:Nat) (h:wd b n j=0):upd b n j x=n+b^j*x:=by unfold upd;rw [h];simp
theorem aRb (s k:Nat):upd b (s % b^k) k (wd b s k)=s % b^(k+1):=by
 have h:wd b (s % b^k) k=0:=by
  rcases ju (b^k) with h0|h0
  ·unfold wd;rw [h0];simp
  ·exact kC (qg _ h0)
 rw [aBx _ _ _ h,dW]
theorem aTy (c P x Q:Nat):(c+(P+x*Q)) % b=(P % b+x*(Q % b)+c) % b:=by
 have h1:=jf P b;have h2:x*Q=x*(Q % b)+b*(x*(Q/b)):=by
  rw [Nat.mul_left_comm,←zu]
  congr 1
  have:=jf Q b;omega
 have:c+(P+x*Q)=(P % b+x*(Q % b)+c)+b*(P/b+x*(Q/b)):=by rw [zu];omega
 rw [this,zv]
def cmul (b U x m k:Nat):Nat:=(U % b^k+x*(m % b^k)) / b^k
theorem vC (U x m:Nat):cmul b U x m 0=0:=by simp [cmul,Nat.mod_one]
theorem aFa (hb:0<b) (U m k:Nat) {x:Nat}(hx:x<b):cmul b U x m k<b:=by
 have hp:=oc (n:=k) hb;have h1:=qg U hp;have h2:=qg m hp;unfold cmul;rw [qj hp];generalize U % b^k=u at *
 generalize m % b^k=v at *
 generalize b^k=p at *
 have h3:x*(v+1)≤x*p:=qn _ h2;have h4:(x+1)*p≤b*p:=ol _ hx;rw [zu]at h3;rw [jo]at h4;omega
theorem vB (hb:0<b) (U x m k:Nat):cmul b U x m (k+1)=(wd b U k+x*wd b m k+cmul b U x m k) / b:=by
 have hp:=oc (n:=k) hb;unfold cmul;rw [dW U,dW m,jj,←jp]
 congr 1
 rw [show U % b^k+b^k*wd b U k+x*(m % b^k+b^k*wd b m k)=(U % b^k+x*(m % b^k))+b^k*(wd b U k+x*wd b m k) by
  rw [zu,zu,Nat.mul_left_comm x];omega,jg _ _ hp]
 omega
theorem aGp (hb:0<b) (U x m k:Nat):wd b (U+x*m) k=(wd b U k+x*wd b m k+cmul b U x m k) % b:=by
 have hp:=oc (n:=k) hb;unfold wd cmul;have e:(U+x*m) / b^k=(U % b^k+x*(m % b^k)) / b^k+(U/b^k+x*(m/b^k)):=by
  have h1:=jf U (b^k);have h2:x*m=x*(m % b^k)+b^k*(x*(m/b^k)):=by
   rw [Nat.mul_left_comm,←zu]
   congr 1
   have:=jf m (b^k);omega
  have:U+x*m=(U % b^k+x*(m % b^k))+b^k*(U/b^k+x*(m/b^k)):=by rw [zu];omega
  rw [this,jg _ _ hp]
 rw [e,aTy]
def mrow (b a m i:Nat):Nat:=(a % b^i)*m
theorem vW (a m i:Nat):mrow b a m (i+1)=mrow b a m i+b^i*(wd b a i*m):=by
 unfold mrow;rw [dW,jo,jl]
theorem rZ (hb:0<b) {a m i l:Nat}(hm:m<b^l):mrow b a m i<b^(i+l):=by
 have hp:=oc (n:=i) hb;unfold mrow;rw [jt];exact xa (qg _ hp) hm
theorem vV (hb:0<b) (a m i:Nat):mrow b a m (i+1) / b^i=mrow b a m i/b^i+wd b a i*m:=by
 rw [vW,jg _ _ (oc hb)]
theorem aAo (hb:0<b) (a m:Nat) {i j:Nat}(h:j<i):wd b (mrow b a m (i+1)) j=wd b (mrow b a m i) j:=by
 rw [←nI hb _ i j h,vW,zv,nI hb _ i j h]
def mcar (b a m i k:Nat):Nat:=cmul b (mrow b a m i/b^i) (wd b a i) m k
theorem vR (a m i:Nat):mcar b a m i 0=0:=vC _ _ _
theorem xK (hb:0<b) (a m i k:Nat):mcar b a m i k<b:=aFa hb _ _ _ (aBy hb _ _)
theorem vQ (hb:0<b) (a m i k:Nat) :
 wd b (mrow b a m (i+1)) (i+k)=(wd b (mrow b a m i) (i+k)+wd b a i*wd b m k+mcar b a m i k) % b∧
 mcar b a m i (k+1)=(wd b (mrow b a m i) (i+k)+wd b a i*wd b m k+mcar b a m i k) / b:=by
 rw [←jZ,←jZ,vV hb];exact⟨aGp hb _ _ _ _,vB hb _ _ _ _⟩
theorem aAn (hb:0<b) {a m i l:Nat}(hm:m<b^l):mcar b a m i l=wd b (mrow b a m (i+1)) (i+l):=by
 have h:=rZ (a:=a) (i:=i) hb hm;have hu:mrow b a m i/b^i<b^l:=by
  rw [qj (oc hb),←jt,vg];exact h
 rw [←jZ,vV hb];have hc:=xK hb a m i l;unfold mcar cmul at hc ⊢;rw [oi hu,oi hm]at hc ⊢;unfold wd at hc ⊢;exact (oi hc).symm
theorem qJ (hb:0<b) {a m i l j:Nat}(hm:m<b^l) (hj:i+l<j):wd b (mrow b a m i) j=wd b (mrow b a m (i+1)) j:=by
 rw [rH hb (rZ hb hm) oq,rH hb (rZ (i:=i+1) hb hm) oq]
theorem byword {n d:Nat}(hb:0<b) (hd:0<d) (i:Nat) :
 (n/b^(i+1) % d*b+wd b n i) / d=wd b (n/d) i∧(n/b^(i+1) % d*b+wd b n i) % d=n/b^i % d:=by
 have hw:=aBy hb n i;have h1:=dK (b:=b) n i;have h2:n/d/b^i=n/b^i/d:=by rw [jp,jp,oa]
 have h3:=jf (n/b^(i+1)) d;have hr:=qg (n/b^(i+1)) hd;unfold wd at h1 hw ⊢;rw [h2];generalize n/b^i % b=w at *
 generalize n/b^i=N at *
 generalize n/b^(i+1)=M at *
 generalize M % d=r at *
 generalize M/d=q at *
 subst h3;have e:N=(r*b+w)+d*(q*b):=by rw [h1,jo,jl];omega
 have hlt:(r*b+w) / d<b:=by
  rw [qj hd];have:(r+1)*b≤d*b:=ol b hr;rw [jo]at this;rw [oa b d];omega
 refine⟨?_,by rw [e,zv]⟩;rw [e,jg _ _ hd,Nat.add_mul_mod_self_right,oi hlt]
theorem aGx {d r w:Nat}(hr:r<d) (hw:w<b):r*b+w<d*b:=by
 have:(r+1)*b≤d*b:=ol b hr;rw [jo]at this;omega
theorem pG {p V B q uu v1:Nat}(hv:v1*B≤V) (hv1:0<v1) (hu:p<(uu+1)*B) (hq:q*V≤p):q≤uu/v1:=by
 rw [zy hv1];have h1:q*(v1*B)≤q*V:=qn q hv;have h2:(q*v1)*B<(uu+1)*B:=by rw [jl];omega
 have:=Nat.lt_of_mul_lt_mul_right h2;omega
theorem tH {p V C uu v1 v2 u2 g r:Nat}(hv:(v1*b+v2)*C≤V) (hu:p<(uu*b+u2+1)*C) (hr:g*v1+r=uu) (ht:r*b+u2<g*v2) (hq:g*V≤p):False:=by
 have h1:g*((v1*b+v2)*C)≤g*V:=qn g hv;have h2:(g*(v1*b+v2))*C<(uu*b+u2+1)*C:=by rw [jl];omega
 have h3:=Nat.lt_of_mul_lt_mul_right h2;rw [←hr,zu,←jl,jo]at h3;omega
end
theorem top1 {b n x:Nat}(hx:x<b^(n+1)):x/b^n=wd b x n:=by
 have h:=dK (b:=b) x n;rw [qa hx,xf,qc]at h;exact h
theorem top2 {b n x:Nat}(hx:x<b^(n+2)):x/b^n=wd b x (n+1)*b+wd b x n:=by
 rw [dK x n,top1 hx]
theorem top3 {b n x:Nat}(hx:x<b^(n+3)):x/b^n=(wd b x (n+2)*b+wd b x (n+1))*b+wd b x n:=by
 rw [dK x n,top2 hx]
theorem oC {x p:Nat}(hp:0<p):x<(x/p+1)*p:=by
 have:=jf x p;have:=qg x hp;rw [jo,oa];omega
section
variable {D n1 n0 Y n32 u1 q r:Nat}
theorem aFg (hn:n32<Y) (hu:u1<D):(n32*D+u1) / Y<D:=by
 rw [qj oq];have:(n32+1)*D≤Y*D:=ol D hn;rw [jo]at this;rw [oa D Y];omega
theorem aHt (hY:Y=n1*D+n0) (h0:n0<D) (hn:n32<Y) (hu:u1<D) (h1:D≤2*n1) (hp:0<n1):n32/n1≤D+1∧(n32*D+u1) / Y≤n32/n1:=by
 constructor
 ·have:n32/n1<D+2:=by
   rw [qj hp,jo,oa D n1];omega
  omega
 ·have hYp:0<Y:=oq
  refine pG (p:=n32*D+u1) (V:=Y) (B:=D) (v1:=n1) oq hp (by rw [jo];omega) ?_;exact vj _ _
theorem vM (hY:Y=n1*D+n0) (_hu:u1<D) (hq:q*n1+r=n32) (ht:D*r+u1<q*n0):(n32*D+u1) / Y<q:=by
 refine vu fun hle=>?_;refine tH (b:=D) (p:=n32*D+u1) (V:=Y) (C:=1) (uu:=n32) (v1:=n1) (v2:=n0) (u2:=u1) (g:=q) (r:=r) oq oq hq (by rw [oa r D];exact ht) ?_;exact qr (ol Y hle) (vj _ _)
theorem tI (hY:Y=n1*D+n0) (hp:0<Y) (hq:q*n1+r=n32) (ht:q*n0≤D*r+u1) (hge:(n32*D+u1) / Y≤q):q=(n32*D+u1) / Y:=by
 refine Nat.le_antisymm ?_ hge;rw [zy hp,hY,←hq,zu,jo,←jl,oa r D];omega
theorem vL (hY:Y=n1*D+n0) (hp:0<Y) (h0:n0<D) (hq:q*n1+r=n32) (hr:D≤r) (hqD:q≤D) (hge:(n32*D+u1) / Y≤q):q=(n32*D+u1) / Y:=by
 refine tI hY hp hq ?_ hge;have h1:q*n0≤D*n0:=ol _ hqD;have h2:D*n0≤D*r:=qn _ oq;omega
theorem aMn {m1 m0:Nat}(hp:0<Y) :
 ((n32*D+m1)*D+m0) / Y=(n32*D+m1) / Y*D+((n32*D+m1) % Y*D+m0) / Y∧((n32*D+m1)*D+m0) % Y=((n32*D+m1) % Y*D+m0) % Y:=by
 have h1:=jf (n32*D+m1) Y;generalize (n32*D+m1) / Y=Q at *
 generalize (n32*D+m1) % Y=X at *
 have e:(n32*D+m1)*D+m0=(X*D+m0)+Y*(Q*D):=by
  rw [←h1,jo,jl];omega
 rw [e,jg _ _ hp,zv];exact⟨vg _ _,rfl⟩
end
theorem aQq (y P R:Nat) (hP:0<P) (hR:0<R):y/P % (P*R)=y % (P*R) / P+y/(P*R) % (P*R)*R % (P*R):=by
 have h1:=jf y (P*R);have h2:y % (P*R) / P<R:=by
  rw [qj hP,oa R P];exact qg _ (zg hP hR)
 have h3:y/P=y % (P*R) / P+R*(y/(P*R)):=by
  conv=>lhs;rw [←h1]
  rw [vg,jl,jg _ _ hP]
 generalize y % (P*R) / P=w at *
 generalize y/(P*R)=z at *
 rw [h3,oa P R,Nat.mod_mul,zv,oi h2,jg _ _ hR,qa h2,qc]
 congr 1
 rw [oa _ R,Nat.mul_mod_mul_left,Nat.mod_mul_left_mod]
theorem lE (x P R:Nat) (hP:0<P) (_hR:0<R):x*P % (P*R)=x % R*P∧x*P/(P*R)=x/R:=by
 constructor
 ·rw [oa x P,Nat.mul_mod_mul_left,oa]
 ·rw [oa x P,Nat.mul_div_mul_left _ _ hP]
theorem aRg {b P R:Nat}(hb:b=P*R) (hP:0<P) (hR:0<R) (m q i:Nat) :
 wd b (m/(b^q*P)) i=wd b m (i+q) / P+wd b m (i+q+1)*R % b:=by
 unfold wd;have e1:m/(b^q*P) / b^i=m/b^(i+q) / P:=by
  rw [jp,jp]
  congr 1
  rw [jt];ac_rfl
 have e2:m/b^(i+q+1)=m/b^(i+q) / b:=by rw [jj,jp]
 rw [e1,e2,hb];exact aQq _ P R hP hR
theorem aQp {b P R:Nat}(hb:b=P*R) (hP:0<P) (hR:0<R) {M j x:Nat}(hM:M<b^j*P) (_hx:x<b) :
 wd b M j<P∧wd b M j+x*P % b<b∧upd b (upd b M j (wd b M j+x*P % b)) (j+1) (x/R)=M+b^j*(x*P):=by
 have hb0:0<b:=by rw [hb];exact zg hP hR
 have hp:=oc (n:=j) hb0;have hu:M/b^j<P:=(qj hp).2 (by rw [oa];exact hM);have hPb:P≤b:=by rw [hb];exact zl _ hR
 have ew:wd b M j=M/b^j:=oi oq;have hc:=lE x P R hP hR;rw [←hb]at hc;have hlo:wd b M j+x*P % b<b:=by
  rw [ew,hc.1];have h1:x % R*P+P≤b:=by
   have:(x % R+1)*P≤R*P:=ol P (qg _ hR);rw [hb,oa P R]
   rwa [zj]at this
  omega
 refine⟨by rw [ew];exact hu,hlo,?_⟩;have hM2:M<b^(j+1):=by
  rw [jj];exact qy hM (qn _ hPb)
 have h0:wd b (upd b M j (wd b M j+x*P % b)) (j+1)=0:=by
  rw [aRi hb0 hlo,oh oq];exact kC hM2
 rw [aBx _ _ _ h0];unfold upd;have hpart:=aGq (b:=b) M j;have hdm:=jf (x*P) b;rw [hc.2]at hdm;have:b^j*(x*P)=b^(j+1)*(x/R)+b^j*(x*P % b):=by
  conv=>lhs;rw [←hdm]
  rw [zu,jj,jl]
 rw [this,zu];omega
def bl (n:Nat):Nat:=if n=0 then 0 else n.log2+1
theorem kF {n k:Nat}:bl n≤k↔n<2^k:=by
 unfold bl
 by_cases h:n=0
 ·simp [h,Nat.pow_pos]
 ·rw [oh h,←Nat.log2_lt h];omega
theorem aSz:bl 0=0:=rfl
theorem mE (n:Nat):n<2^bl n:=kF.1 (oy _)
theorem nH {n:Nat}(h:n≠0):2^(bl n-1)≤n:=by
 unfold bl;rw [oh h];exact (Nat.le_log2 h).1 (oy _)
def nwk (k n:Nat):Nat:=(bl n+(k-1)) / k
theorem aFr {k:Nat}(hk:0<k) (n:Nat):Len (2^k) n (nwk k n):=by
 unfold nwk;constructor
 ·rw [←yk,←kF];have:=jf (bl n+(k-1)) k;have:=qg (bl n+(k-1)) hk;omega
 ·intro h;rw [←yk];have h0:n≠0:=by
   intro e;subst e;simp only [aSz,qc]at h;rw [qa oq]at h;omega
  refine qr (qb oq ?_) (nH h0);have h1:=jf (bl n+(k-1)) k;have:=Nat.mul_sub k ((bl n+(k-1)) / k) 1;have:=qg (bl n+(k-1)) hk;omega
theorem aYm {k:Nat}(hk:0<k) (n:Nat):nwk k n≤bl n:=by
 unfold nwk;rcases ju (bl n) with h|h
 ·rw [h,qa oq];omega
 ·apply Nat.le_of_lt_succ;rw [qj hk];have:bl n*k ≥ bl n:=zl _ hk;have:1*k≤bl n*k:=ol k h;rw [zj];omega
