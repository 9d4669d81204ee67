import Derived.Test.YtmifbgccpdmjpaaGreatTbAA
namespace Go.Proofs.YtmifbgccpdmjpaaGreat.Num
def wd (b n i:Nat):Nat:=n/b^i % b
structure Len (b n k:Nat):Prop where
 lt:n<b^k
 le:0<k→b^(k-1)≤n
section
variable {b:Nat} 
theorem aBv (hb:0<b) (n i:Nat):wd b n i<b:=qg _ hb
theorem jU {n i:Nat}(h:n<b^i):wd b n i=0:=by
 unfold wd;rw [jx h];simp
theorem rA (hb:0<b) {n i k:Nat}(h:n<b^k) (hi:k≤i):wd b n i=0:=
 jU (qu h (qh hb hi))
theorem dW (n i:Nat):n % b^(i+1)=n % b^i+b^i*wd b n i:=Nat.mod_pow_succ
theorem dM (n i:Nat):n/b^i=n/b^(i+1)*b+wd b n i:=by
 unfold wd;rw [qa,←jy,qx];exact (jd _ _).symm
theorem Len.zero (hb:0<b) {k:Nat}(h:Len b 0 k):k=0:=by
 rcases jt k with h0|h0
 ·exact h0
 ·have:=h.le h0;have:=oc (n:=k-1) hb;omega
theorem Len.pos {n k:Nat}(h:Len b n k) (hb:0<b) (hk:0<k):0<n:=by
 have:=h.le hk;have:=oc (n:=k-1) hb;omega
theorem Len.eq_zero {n:Nat}(h:Len b n 0):n=0:=by have:=h.lt;simp at this;exact this
theorem Len.nil:Len b 0 0:=⟨by simp,fun h=>absurd h oq⟩
theorem Len.zero_iff {n k:Nat}(h:Len b n k) (hb:0<b):k=0↔n=0:=
 ⟨fun e=>by subst e;exact h.eq_zero,fun e=>by subst e;exact h.zero hb⟩
theorem Len.lt_of {n m k l:Nat}(hb:0<b) (h:Len b n k) (h':Len b m l) (hk:k<l):n<m:=by
 have h1:=h.lt;have h2:=h'.le oq;have:=qh hb (show k≤l-1 by omega);omega
theorem Len.unique {n k l:Nat}(hb:0<b) (h:Len b n k) (h':Len b n l):k=l:=by
 rcases yh k l with h1|h1|h1
 ·have:=h.lt_of hb h' h1;omega
 ·exact h1
 ·have:=h'.lt_of hb h h1;omega
theorem Len.top {n k:Nat}(hb:0<b) (h:Len b n k) (hk:0<k):wd b n (k-1)≠0:=by
 intro e;have h1:=dM (b:=b) n (k-1);rw [e,show k-1+1=k by omega,jx h.lt]at h1;have h2:=h.le hk;have:=(zv (oc (n:=k-1) hb)).2 (by rw [zy];exact h2);omega
theorem Len.of_top {n k:Nat}(h:n<b^k) (ht:0<k→wd b n (k-1)≠0):Len b n k:=by
 refine⟨h,fun hk=>?_⟩;have h1:=ht hk;refine js fun hlt=>h1 (jU hlt)
theorem vI {n k:Nat}(hb:0<b) (h:n<b^(k+1)) (ht:wd b n k=0):n<b^k:=by
 have h1:=dM (b:=b) n k;rw [ht,jx h]at h1;have hp:=oc (n:=k) hb;refine vk fun hle=>?_;have:=(zv hp).2 (by rw [zy];exact hle);omega
theorem Len.one {n:Nat}(h:n<b) (hn:0<n):Len b n 1:=⟨by simpa using h,fun _=>by simp;omega⟩
theorem oO {n:Nat}(h:n<b):wd b n 0=n:=by
 unfold wd;simp [Nat.mod_eq_of_lt h]
theorem Len.val1 {n:Nat}(h:Len b n 1):wd b n 0=n:=oO (by simpa using h.lt)
theorem wQ {n m i:Nat}(h:n/b^(i+1)=m/b^(i+1)) (hw:wd b n i<wd b m i):n<m:=by
 have h1:=dM (b:=b) n i;have h2:=dM (b:=b) m i;rw [h]at h1;refine vk fun hle=>?_;have:=Nat.div_le_div_right (c:=b^i) hle;omega
theorem aLo {n m i:Nat}(h:n/b^(i+1)=m/b^(i+1)) (hw:wd b n i=wd b m i):n/b^i=m/b^i:=by
 rw [dM n i,dM m i,h,hw]
def carry (b n m k:Nat):Nat:=(n % b^k+m % b^k) / b^k
theorem sD (n m:Nat):carry b n m 0=0:=by simp [carry,Nat.mod_one]
theorem zD (hb:0<b) (n m k:Nat):carry b n m k≤1:=by
 have hp:=oc (n:=k) hb;have h1:=qg n hp;have h2:=qg m hp;unfold carry;have:(n % b^k+m % b^k) / b^k<2:=(qp hp).2 oq;omega
theorem sC (hb:0<b) (n m k:Nat):carry b n m (k+1)=(wd b n k+wd b m k+carry b n m k) / b:=by
 have hp:=oc (n:=k) hb;unfold carry;rw [dW n,dW m,qa,←jy]
 congr 1
 rw [show n % b^k+b^k*wd b n k+(m % b^k+b^k*wd b m k)=(n % b^k+m % b^k)+b^k*(wd b n k+wd b m k) by rw [zm];omega,jg _ _ hp];omega
theorem aEp (hb:0<b) (n m k:Nat):wd b (n+m) k=(wd b n k+wd b m k+carry b n m k) % b:=by
 have hp:=oc (n:=k) hb;unfold wd carry;have e:(n+m) / b^k=n/b^k+m/b^k+(n % b^k+m % b^k) / b^k:=by
  have h1:=jd n (b^k);have h2:=jd m (b^k);have:n+m=(n % b^k+m % b^k)+b^k*(n/b^k+m/b^k):=by rw [zm];omega
  rw [this,jg _ _ hp];omega
 rw [e];simp [Nat.add_mod]
theorem aHc {n m k:Nat}(hn:n<b^k) (hm:m<b^k):carry b n m k=(n+m) / b^k:=by
 unfold carry;rw [qz hn,qz hm]
def borrow (b n m k:Nat):Nat:=if n % b^k<m % b^k then 1 else 0
theorem pV (n m:Nat):borrow b n m 0=0:=by simp [borrow,Nat.mod_one]
theorem oU (n m k:Nat):borrow b n m k≤1:=by unfold borrow;split <;> omega
theorem pU (hb:0<b) (n m k:Nat):borrow b n m (k+1)=if wd b n k<wd b m k+borrow b n m k then 1 else 0:=by
 have hp:=oc (n:=k) hb;have h1:=qg n hp;have h2:=qg m hp;unfold borrow;rw [dW n,dW m];generalize n % b^k=x at *
 generalize m % b^k=y at *
 generalize wd b n k=u;generalize wd b m k=v;generalize b^k=p at *
 by_cases h:x<y
 ·rw [od h]
  by_cases h':u<v+1
  ·rw [od h',od];have:p*u≤p*v:=jj p oq;omega
  ·rw [oh h',oh];have:p*(v+1)≤p*u:=jj p oq;rw [zm]at this;omega
 ·rw [oh h]
  by_cases h':u<v+0
  ·rw [od h',od];have:p*(u+1)≤p*v:=jj p oq;rw [zm]at this;omega
  ·rw [oh h',oh];have:p*v≤p*u:=jj p oq;omega
theorem aRo (hb:0<b) {n m:Nat}(h:m≤n) (k:Nat):wd b (n-m) k=(wd b n k+b-wd b m k-borrow b n m k) % b:=by
 have e:=aEp hb (n-m) m k;rw [xh h]at e;have hc:carry b (n-m) m k=borrow b n m k:=by
  have hp:=oc (n:=k) hb;have h1:=qg (n-m) hp;have h2:=qg m hp;have h3:n % b^k=((n-m) % b^k+m % b^k) % b^k:=by rw [←Nat.add_mod,xh h]
  unfold carry borrow;rw [h3];generalize (n-m) % b^k=x at *
  generalize m % b^k=y at *
  generalize b^k=p at *
  by_cases hx:x+y<p
  ·rw [qz hx,jx hx,oh oq]
  ·have:(x+y) % p=x+y-p:=by rw [Nat.mod_eq_sub_mod oq,qz oq]
   rw [this,od oq];have:(x+y) / p=1:=by
    rw [Nat.div_eq_sub_div hp oq,jx oq]
   exact this
 rw [hc]at e;have h1:=aBv hb (n-m) k;have h2:=aBv hb m k;have h3:=oU (b:=b) n m k;rw [e];generalize wd b (n-m) k=x at *
 generalize wd b m k=y at *
 generalize borrow b n m k=z at *
 by_cases hx:x+y+z<b
 ·rw [qz hx,show x+y+z+b-y-z=x+b by omega,Nat.add_mod_right,qz h1]
 ·have:(x+y+z) % b=x+y+z-b:=by rw [Nat.mod_eq_sub_mod oq,qz oq]
  rw [this,show x+y+z-b+b-y-z=x by omega,qz h1]
def upd (b n j x:Nat):Nat:=n-b^j*wd b n j+b^j*x
theorem aGr (n j:Nat):b^j*wd b n j≤n:=
 qe (by rw [dW];exact Nat.le_add_left _ _) (Nat.mod_le n (b^(j+1)))
theorem dZ (hb:0<b) (x y k:Nat) (hx:x<b^k) (i:Nat):wd b (x+b^k*y) i=if i<k then wd b x i else wd b y (i-k):=by
 have hp:=oc (n:=k) hb;split
 ·rename_i h;unfold wd;have e:b^k=b^i*b*b^(k-i-1):=by
   rw [←qa,←ju];congr 1;omega
  rw [e,jh,jh,jg _ _ (oc hb),zu]
 ·rename_i h;unfold wd;have e:b^i=b^k*b^(i-k):=by rw [←ju];congr 1;omega
  rw [e,←jy,jg _ _ hp,jx hx,qt]
theorem nD (hb:0<b) (n k i:Nat) (h:i<k):wd b (n % b^k) i=wd b n i:=by
 have hp:=oc (n:=k) hb;have:=dZ hb (n % b^k) (n/b^k) k (qg _ hp) i;rw [vg,jd,od h]at this;exact this.symm
theorem jT (n k i:Nat):wd b (n/b^k) i=wd b n (k+i):=by
 unfold wd;rw [jy,←ju]
theorem bAg (n j x:Nat):upd b n j x=n % b^j+b^j*(x+b*(n/b^(j+1))):=by
 unfold upd;have h1:=jd n (b^j);rw [dM n j,zm,qx (n/b^(j+1)) b]at h1;rw [zm];generalize n % b^j=r at *
 generalize b^j*(b*(n/b^(j+1)))=s at *
 generalize b^j*wd b n j=t at *
 omega
theorem aRp (hb:0<b) {n j x:Nat}(hx:x<b) (i:Nat):wd b (upd b n j x) i=if i=j then x else wd b n i:=by
 have hp:=oc (n:=j) hb;rw [bAg,dZ hb _ _ _ (qg _ hp)]
 by_cases h:i<j
 ·rw [od h,oh oq,nD hb _ _ _ h]
 ·rw [oh h];have:=dZ hb x (n/b^(j+1)) 1 (by simpa using hx) (i-j);rw [yc]at this;rw [this]
  by_cases h2:i=j
  ·subst h2;simp [oO hx]
  ·rw [oh oq,oh h2,jT,show j+1+(i-j-1)=i by omega]
theorem aBu (n j x:Nat) (h:wd b n j=0):upd b n j x=n+b^j*x:=by unfold upd;rw [h];simp
theorem aRf (s k:Nat):upd b (s % b^k) k (wd b s k)=s % b^(k+1):=by
 have h:wd b (s % b^k) k=0:=by
  rcases jt (b^k) with h0|h0
  ·unfold wd;rw [h0];simp
  ·exact jU (qg _ h0)
 rw [aBu _ _ _ h,dW]
theorem aUi (c P x Q:Nat):(c+(P+x*Q)) % b=(P % b+x*(Q % b)+c) % b:=by
 have h1:=jd P b;have h2:x*Q=x*(Q % b)+b*(x*(Q/b)):=by
  rw [Nat.mul_left_comm,←zm]
  congr 1
  have:=jd Q b;omega
 have:c+(P+x*Q)=(P % b+x*(Q % b)+c)+b*(P/b+x*(Q/b)):=by rw [zm];omega
 rw [this,zu]
def cmul (b U x m k:Nat):Nat:=(U % b^k+x*(m % b^k)) / b^k
theorem uV (U x m:Nat):cmul b U x m 0=0:=by simp [cmul,Nat.mod_one]
theorem aFa (hb:0<b) (U m k:Nat) {x:Nat}(hx:x<b):cmul b U x m k<b:=by
 have hp:=oc (n:=k) hb;have h1:=qg U hp;have h2:=qg m hp;unfold cmul;rw [qp hp];generalize U % b^k=u at *
 generalize m % b^k=v at *
 generalize b^k=p at *
 have h3:x*(v+1)≤x*p:=jj _ h2;have h4:(x+1)*p≤b*p:=oi _ hx;rw [zm]at h3;rw [zz]at h4;omega
theorem uU (hb:0<b) (U x m k:Nat):cmul b U x m (k+1)=(wd b U k+x*wd b m k+cmul b U x m k) / b:=by
 have hp:=oc (n:=k) hb;unfold cmul;rw [dW U,dW m,qa,←jy]
 congr 1
 rw [show U % b^k+b^k*wd b U k+x*(m % b^k+b^k*wd b m k)=(U % b^k+x*(m % b^k))+b^k*(wd b U k+x*wd b m k) by
  rw [zm,zm,Nat.mul_left_comm x];omega,jg _ _ hp]
 omega
theorem aGq (hb:0<b) (U x m k:Nat):wd b (U+x*m) k=(wd b U k+x*wd b m k+cmul b U x m k) % b:=by
 have hp:=oc (n:=k) hb;unfold wd cmul;have e:(U+x*m) / b^k=(U % b^k+x*(m % b^k)) / b^k+(U/b^k+x*(m/b^k)):=by
  have h1:=jd U (b^k);have h2:x*m=x*(m % b^k)+b^k*(x*(m/b^k)):=by
   rw [Nat.mul_left_comm,←zm]
   congr 1
   have:=jd m (b^k);omega
  have:U+x*m=(U % b^k+x*(m % b^k))+b^k*(U/b^k+x*(m/b^k)):=by rw [zm];omega
  rw [this,jg _ _ hp]
 rw [e,aUi]
def mrow (b a m i:Nat):Nat:=(a % b^i)*m
theorem vP (a m i:Nat):mrow b a m (i+1)=mrow b a m i+b^i*(wd b a i*m):=by
 unfold mrow;rw [dW,zz,jh]
theorem rR (hb:0<b) {a m i l:Nat}(hm:m<b^l):mrow b a m i<b^(i+l):=by
 have hp:=oc (n:=i) hb;unfold mrow;rw [ju];exact yi (qg _ hp) hm
theorem vO (hb:0<b) (a m i:Nat):mrow b a m (i+1) / b^i=mrow b a m i/b^i+wd b a i*m:=by
 rw [vP,jg _ _ (oc hb)]
theorem aAk (hb:0<b) (a m:Nat) {i j:Nat}(h:j<i):wd b (mrow b a m (i+1)) j=wd b (mrow b a m i) j:=by
 rw [←nD hb _ i j h,vP,zu,nD hb _ i j h]
def mcar (b a m i k:Nat):Nat:=cmul b (mrow b a m i/b^i) (wd b a i) m k
theorem vK (a m i:Nat):mcar b a m i 0=0:=uV _ _ _
theorem wZ (hb:0<b) (a m i k:Nat):mcar b a m i k<b:=aFa hb _ _ _ (aBv hb _ _)
theorem vJ (hb:0<b) (a m i k:Nat) :
 wd b (mrow b a m (i+1)) (i+k)=(wd b (mrow b a m i) (i+k)+wd b a i*wd b m k+mcar b a m i k) % b∧
 mcar b a m i (k+1)=(wd b (mrow b a m i) (i+k)+wd b a i*wd b m k+mcar b a m i k) / b:=by
 rw [←jT,←jT,vO hb];exact⟨aGq hb _ _ _ _,uU hb _ _ _ _⟩
theorem aAj (hb:0<b) {a m i l:Nat}(hm:m<b^l):mcar b a m i l=wd b (mrow b a m (i+1)) (i+l):=by
 have h:=rR (a:=a) (i:=i) hb hm;have hu:mrow b a m i/b^i<b^l:=by
  rw [qp (oc hb),←ju,vg];exact h
 rw [←jT,vO hb];have hc:=wZ hb a m i l;unfold mcar cmul at hc ⊢;rw [qz hu,qz hm]at hc ⊢;unfold wd at hc ⊢;exact (qz hc).symm
theorem qF (hb:0<b) {a m i l j:Nat}(hm:m<b^l) (hj:i+l<j):wd b (mrow b a m i) j=wd b (mrow b a m (i+1)) j:=by
 rw [rA hb (rR hb hm) oq,rA hb (rR (i:=i+1) hb hm) oq]
theorem byword {n d:Nat}(hb:0<b) (hd:0<d) (i:Nat) :
 (n/b^(i+1) % d*b+wd b n i) / d=wd b (n/d) i∧(n/b^(i+1) % d*b+wd b n i) % d=n/b^i % d:=by
 have hw:=aBv hb n i;have h1:=dM (b:=b) n i;have h2:n/d/b^i=n/b^i/d:=by rw [jy,jy,qx]
 have h3:=jd (n/b^(i+1)) d;have hr:=qg (n/b^(i+1)) hd;unfold wd at h1 hw ⊢;rw [h2];generalize n/b^i % b=w at *
 generalize n/b^i=N at *
 generalize n/b^(i+1)=M at *
 generalize M % d=r at *
 generalize M/d=q at *
 subst h3;have e:N=(r*b+w)+d*(q*b):=by rw [h1,zz,jh];omega
 have hlt:(r*b+w) / d<b:=by
  rw [qp hd];have:(r+1)*b≤d*b:=oi b hr;rw [zz]at this;rw [qx b d];omega
 refine⟨?_,by rw [e,zu]⟩;rw [e,jg _ _ hd,Nat.add_mul_mod_self_right,qz hlt]
theorem aHb {d r w:Nat}(hr:r<d) (hw:w<b):r*b+w<d*b:=by
 have:(r+1)*b≤d*b:=oi b hr;rw [zz]at this;omega
theorem pC {p V B q uu v1:Nat}(hv:v1*B≤V) (hv1:0<v1) (hu:p<(uu+1)*B) (hq:q*V≤p):q≤uu/v1:=by
 rw [zv hv1];have h1:q*(v1*B)≤q*V:=jj q hv;have h2:(q*v1)*B<(uu+1)*B:=by rw [jh];omega
 have:=Nat.lt_of_mul_lt_mul_right h2;omega
theorem sQ {p V C uu v1 v2 u2 g r:Nat}(hv:(v1*b+v2)*C≤V) (hu:p<(uu*b+u2+1)*C) (hr:g*v1+r=uu) (ht:r*b+u2<g*v2) (hq:g*V≤p):False:=by
 have h1:g*((v1*b+v2)*C)≤g*V:=jj g hv;have h2:(g*(v1*b+v2))*C<(uu*b+u2+1)*C:=by rw [jh];omega
 have h3:=Nat.lt_of_mul_lt_mul_right h2;rw [←hr,zm,←jh,zz]at h3;omega
end
theorem top1 {b n x:Nat}(hx:x<b^(n+1)):x/b^n=wd b x n:=by
 have h:=dM (b:=b) x n;rw [jx hx,xg,qt]at h;exact h
theorem top2 {b n x:Nat}(hx:x<b^(n+2)):x/b^n=wd b x (n+1)*b+wd b x n:=by
 rw [dM x n,top1 hx]
theorem top3 {b n x:Nat}(hx:x<b^(n+3)):x/b^n=(wd b x (n+2)*b+wd b x (n+1))*b+wd b x n:=by
 rw [dM x n,top2 hx]
theorem nW {x p:Nat}(hp:0<p):x<(x/p+1)*p:=by
 have:=jd x p;have:=qg x hp;rw [zz,qx];omega
section
variable {D n1 n0 Y n32 u1 q r:Nat}
theorem aFi (hn:n32<Y) (hu:u1<D):(n32*D+u1) / Y<D:=by
 rw [qp oq];have:(n32+1)*D≤Y*D:=oi D hn;rw [zz]at this;rw [qx D Y];omega
theorem aHs (hY:Y=n1*D+n0) (h0:n0<D) (hn:n32<Y) (hu:u1<D) (h1:D≤2*n1) (hp:0<n1):n32/n1≤D+1∧(n32*D+u1) / Y≤n32/n1:=by
 constructor
 ·have:n32/n1<D+2:=by
   rw [qp hp,zz,qx D n1];omega
  omega
 ·have hYp:0<Y:=oq
  refine pC (p:=n32*D+u1) (V:=Y) (B:=D) (v1:=n1) oq hp (by rw [zz];omega) ?_;exact vu _ _
theorem vE (hY:Y=n1*D+n0) (_hu:u1<D) (hq:q*n1+r=n32) (ht:D*r+u1<q*n0):(n32*D+u1) / Y<q:=by
 refine vk fun hle=>?_;refine sQ (b:=D) (p:=n32*D+u1) (V:=Y) (C:=1) (uu:=n32) (v1:=n1) (v2:=n0) (u2:=u1) (g:=q) (r:=r) oq oq hq (by rw [qx r D];exact ht) ?_;exact qe (oi Y hle) (vu _ _)
theorem sR (hY:Y=n1*D+n0) (hp:0<Y) (hq:q*n1+r=n32) (ht:q*n0≤D*r+u1) (hge:(n32*D+u1) / Y≤q):q=(n32*D+u1) / Y:=by
 refine Nat.le_antisymm ?_ hge;rw [zv hp,hY,←hq,zm,zz,←jh,qx r D];omega
theorem vD (hY:Y=n1*D+n0) (hp:0<Y) (h0:n0<D) (hq:q*n1+r=n32) (hr:D≤r) (hqD:q≤D) (hge:(n32*D+u1) / Y≤q):q=(n32*D+u1) / Y:=by
 refine sR hY hp hq ?_ hge;have h1:q*n0≤D*n0:=oi _ hqD;have h2:D*n0≤D*r:=jj _ oq;omega
theorem aMd {m1 m0:Nat}(hp:0<Y) :
 ((n32*D+m1)*D+m0) / Y=(n32*D+m1) / Y*D+((n32*D+m1) % Y*D+m0) / Y∧((n32*D+m1)*D+m0) % Y=((n32*D+m1) % Y*D+m0) % Y:=by
 have h1:=jd (n32*D+m1) Y;generalize (n32*D+m1) / Y=Q at *
 generalize (n32*D+m1) % Y=X at *
 have e:(n32*D+m1)*D+m0=(X*D+m0)+Y*(Q*D):=by
  rw [←h1,zz,jh];omega
 rw [e,jg _ _ hp,zu];exact⟨vg _ _,rfl⟩
end
theorem aQr (y P R:Nat) (hP:0<P) (hR:0<R):y/P % (P*R)=y % (P*R) / P+y/(P*R) % (P*R)*R % (P*R):=by
 have h1:=jd y (P*R);have h2:y % (P*R) / P<R:=by
  rw [qp hP,qx R P];exact qg _ (zw hP hR)
 have h3:y/P=y % (P*R) / P+R*(y/(P*R)):=by
  conv=>lhs;rw [←h1]
  rw [vg,jh,jg _ _ hP]
 generalize y % (P*R) / P=w at *
 generalize y/(P*R)=z at *
 rw [h3,qx P R,Nat.mod_mul,zu,qz h2,jg _ _ hR,jx h2,qt]
 congr 1
 rw [qx _ R,Nat.mul_mod_mul_left,Nat.mod_mul_left_mod]
theorem lC (x P R:Nat) (hP:0<P) (_hR:0<R):x*P % (P*R)=x % R*P∧x*P/(P*R)=x/R:=by
 constructor
 ·rw [qx x P,Nat.mul_mod_mul_left,qx]
 ·rw [qx x P,Nat.mul_div_mul_left _ _ hP]
theorem aRn {b P R:Nat}(hb:b=P*R) (hP:0<P) (hR:0<R) (m q i:Nat) :
 wd b (m/(b^q*P)) i=wd b m (i+q) / P+wd b m (i+q+1)*R % b:=by
 unfold wd;have e1:m/(b^q*P) / b^i=m/b^(i+q) / P:=by
  rw [jy,jy]
  congr 1
  rw [ju];ac_rfl
 have e2:m/b^(i+q+1)=m/b^(i+q) / b:=by rw [qa,jy]
 rw [e1,e2,hb];exact aQr _ P R hP hR
theorem aQq {b P R:Nat}(hb:b=P*R) (hP:0<P) (hR:0<R) {M j x:Nat}(hM:M<b^j*P) (_hx:x<b) :
 wd b M j<P∧wd b M j+x*P % b<b∧upd b (upd b M j (wd b M j+x*P % b)) (j+1) (x/R)=M+b^j*(x*P):=by
 have hb0:0<b:=by rw [hb];exact zw hP hR
 have hp:=oc (n:=j) hb0;have hu:M/b^j<P:=(qp hp).2 (by rw [qx];exact hM);have hPb:P≤b:=by rw [hb];exact vf _ hR
 have ew:wd b M j=M/b^j:=qz oq;have hc:=lC x P R hP hR;rw [←hb]at hc;have hlo:wd b M j+x*P % b<b:=by
  rw [ew,hc.1];have h1:x % R*P+P≤b:=by
   have:(x % R+1)*P≤R*P:=oi P (qg _ hR);rw [hb,qx P R]
   rwa [zp]at this
  omega
 refine⟨by rw [ew];exact hu,hlo,?_⟩;have hM2:M<b^(j+1):=by
  rw [qa];exact qu hM (jj _ hPb)
 have h0:wd b (upd b M j (wd b M j+x*P % b)) (j+1)=0:=by
  rw [aRp hb0 hlo,oh oq];exact jU hM2
 rw [aBu _ _ _ h0];unfold upd;have hpart:=aGr (b:=b) M j;have hdm:=jd (x*P) b;rw [hc.2]at hdm;have:b^j*(x*P)=b^(j+1)*(x/R)+b^j*(x*P % b):=by
  conv=>lhs;rw [←hdm]
  rw [zm,qa,jh]
 rw [this,zm];omega
def bl (n:Nat):Nat:=if n=0 then 0 else n.log2+1
theorem iO {n k:Nat}:bl n≤k↔n<2^k:=by
 unfold bl
 by_cases h:n=0
 ·simp [h,Nat.pow_pos]
 ·rw [oh h,←Nat.log2_lt h];omega
theorem aTk:bl 0=0:=rfl
theorem kO (n:Nat):n<2^bl n:=iO.1 (oy _)
theorem nC {n:Nat}(h:n≠0):2^(bl n-1)≤n:=by
 unfold bl;rw [oh h];exact (Nat.le_log2 h).1 (oy _)
def nwk (k n:Nat):Nat:=(bl n+(k-1)) / k
theorem aFw {k:Nat}(hk:0<k) (n:Nat):Len (2^k) n (nwk k n):=by
 unfold nwk;constructor
 ·rw [←vd,←iO];have:=jd (bl n+(k-1)) k;have:=qg (bl n+(k-1)) hk;omega
 ·intro h;rw [←vd];have h0:n≠0:=by
   intro e;subst e;simp only [aTk,qt]at h;rw [jx oq]at h;omega
  refine qe (qh oq ?_) (nC h0);have h1:=jd (bl n+(k-1)) k;have:=Nat.mul_sub k ((bl n+(k-1)) / k) 1;have:=qg (bl n+(k-1)) hk;omega
theorem aZj {k:Nat}(hk:0<k) (n:Nat):nwk k n≤bl n:=by
 unfold nwk;rcases jt (bl n) with h|h
 ·rw [h,jx oq];omega
 ·apply Nat.le_of_lt_succ;rw [qp hk];have:bl n*k ≥ bl n:=vf _ hk;have:1*k≤bl n*k:=oi k h;rw [zp];omega
