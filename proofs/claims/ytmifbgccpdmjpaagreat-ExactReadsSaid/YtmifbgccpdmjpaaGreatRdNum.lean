import Derived.Test.YtmifbgccpdmjpaaGreatRdAA
namespace Go.Proofs.YtmifbgccpdmjpaaGreat.Num
def wd (b n i:Nat):Nat:=n/b^i % b
structure Len (b n k:Nat):Prop where
 lt:n<b^k
 le:0<k→b^(k-1)≤n
section
variable {b:Nat} 
theorem aAs (hb:0<b) (n i:Nat):wd b n i<b:=qt _ hb
theorem kC {n i:Nat}(h:n<b^i):wd b n i=0:=by
 unfold wd;rw [jj h];simp
theorem rG (hb:0<b) {n i k:Nat}(h:n<b^k) (hi:k≤i):wd b n i=0:=
 kC (qu h (ql hb hi))
theorem dW (n i:Nat):n % b^(i+1)=n % b^i+b^i*wd b n i:=Nat.mod_pow_succ
theorem dI (n i:Nat):n/b^i=n/b^(i+1)*b+wd b n i:=by
 unfold wd;rw [qi,←jy,qy];exact (jd _ _).symm
theorem Len.zero (hb:0<b) {k:Nat}(h:Len b 0 k):k=0:=by
 rcases jf k with h0|h0
 ·exact h0
 ·have:=h.le h0;have:=oc (n:=k-1) hb;omega
theorem Len.pos {n k:Nat}(h:Len b n k) (hb:0<b) (hk:0<k):0<n:=by
 have:=h.le hk;have:=oc (n:=k-1) hb;omega
theorem Len.eq_zero {n:Nat}(h:Len b n 0):n=0:=by have:=h.lt;simp at this;exact this
theorem Len.nil:Len b 0 0:=⟨by simp,fun h=>absurd h oq⟩
theorem Len.zero_iff {n k:Nat}(h:Len b n k) (hb:0<b):k=0↔n=0:=
 ⟨fun e=>by subst e;exact h.eq_zero,fun e=>by subst e;exact h.zero hb⟩
theorem Len.lt_of {n m k l:Nat}(hb:0<b) (h:Len b n k) (h':Len b m l) (hk:k<l):n<m:=by
 have h1:=h.lt;have h2:=h'.le oq;have:=ql hb (show k≤l-1 by omega);omega
theorem Len.unique {n k l:Nat}(hb:0<b) (h:Len b n k) (h':Len b n l):k=l:=by
 rcases yp k l with h1|h1|h1
 ·have:=h.lt_of hb h' h1;omega
 ·exact h1
 ·have:=h'.lt_of hb h h1;omega
theorem Len.top {n k:Nat}(hb:0<b) (h:Len b n k) (hk:0<k):wd b n (k-1)≠0:=by
 intro e;have h1:=dI (b:=b) n (k-1);rw [e,show k-1+1=k by omega,jj h.lt]at h1;have h2:=h.le hk;have:=(zg (oc (n:=k-1) hb)).2 (by rw [xu];exact h2);omega
theorem Len.of_top {n k:Nat}(h:n<b^k) (ht:0<k→wd b n (k-1)≠0):Len b n k:=by
 refine⟨h,fun hk=>?_⟩;have h1:=ht hk;refine jl fun hlt=>h1 (kC hlt)
theorem vK {n k:Nat}(hb:0<b) (h:n<b^(k+1)) (ht:wd b n k=0):n<b^k:=by
 have h1:=dI (b:=b) n k;rw [ht,jj h]at h1;have hp:=oc (n:=k) hb;refine vt fun hle=>?_;have:=(zg hp).2 (by rw [xu];exact hle);omega
theorem Len.one {n:Nat}(h:n<b) (hn:0<n):Len b n 1:=⟨by simpa using h,fun _=>by simp;omega⟩
theorem oT {n:Nat}(h:n<b):wd b n 0=n:=by
 unfold wd;simp [Nat.mod_eq_of_lt h]
theorem Len.val1 {n:Nat}(h:Len b n 1):wd b n 0=n:=oT (by simpa using h.lt)
theorem wQ {n m i:Nat}(h:n/b^(i+1)=m/b^(i+1)) (hw:wd b n i<wd b m i):n<m:=by
 have h1:=dI (b:=b) n i;have h2:=dI (b:=b) m i;rw [h]at h1;refine vt fun hle=>?_;have:=Nat.div_le_div_right (c:=b^i) hle;omega
theorem aJb {n m i:Nat}(h:n/b^(i+1)=m/b^(i+1)) (hw:wd b n i=wd b m i):n/b^i=m/b^i:=by
 rw [dI n i,dI m i,h,hw]
def carry (b n m k:Nat):Nat:=(n % b^k+m % b^k) / b^k
theorem sB (n m:Nat):carry b n m 0=0:=by simp [carry,Nat.mod_one]
theorem yL (hb:0<b) (n m k:Nat):carry b n m k≤1:=by
 have hp:=oc (n:=k) hb;have h1:=qt n hp;have h2:=qt m hp;unfold carry;have:(n % b^k+m % b^k) / b^k<2:=(qf hp).2 oq;omega
theorem sA (hb:0<b) (n m k:Nat):carry b n m (k+1)=(wd b n k+wd b m k+carry b n m k) / b:=by
 have hp:=oc (n:=k) hb;unfold carry;rw [dW n,dW m,qi,←jy]
 congr 1
 rw [show n % b^k+b^k*wd b n k+(m % b^k+b^k*wd b m k)=(n % b^k+m % b^k)+b^k*(wd b n k+wd b m k) by rw [zf];omega,jh _ _ hp];omega
theorem aDj (hb:0<b) (n m k:Nat):wd b (n+m) k=(wd b n k+wd b m k+carry b n m k) % b:=by
 have hp:=oc (n:=k) hb;unfold wd carry;have e:(n+m) / b^k=n/b^k+m/b^k+(n % b^k+m % b^k) / b^k:=by
  have h1:=jd n (b^k);have h2:=jd m (b^k);have:n+m=(n % b^k+m % b^k)+b^k*(n/b^k+m/b^k):=by rw [zf];omega
  rw [this,jh _ _ hp];omega
 rw [e];simp [Nat.add_mod]
theorem aFk {n m k:Nat}(hn:n<b^k) (hm:m<b^k):carry b n m k=(n+m) / b^k:=by
 unfold carry;rw [oa hn,oa hm]
def borrow (b n m k:Nat):Nat:=if n % b^k<m % b^k then 1 else 0
theorem pY (n m:Nat):borrow b n m 0=0:=by simp [borrow,Nat.mod_one]
theorem oX (n m k:Nat):borrow b n m k≤1:=by unfold borrow;split <;> omega
theorem pX (hb:0<b) (n m k:Nat):borrow b n m (k+1)=if wd b n k<wd b m k+borrow b n m k then 1 else 0:=by
 have hp:=oc (n:=k) hb;have h1:=qt n hp;have h2:=qt m hp;unfold borrow;rw [dW n,dW m];generalize n % b^k=x at *
 generalize m % b^k=y at *
 generalize wd b n k=u;generalize wd b m k=v;generalize b^k=p at *
 by_cases h:x<y
 ·rw [om h]
  by_cases h':u<v+1
  ·rw [om h',om];have:p*u≤p*v:=jq p oq;omega
  ·rw [og h',og];have:p*(v+1)≤p*u:=jq p oq;rw [zf]at this;omega
 ·rw [og h]
  by_cases h':u<v+0
  ·rw [om h',om];have:p*(u+1)≤p*v:=jq p oq;rw [zf]at this;omega
  ·rw [og h',og];have:p*v≤p*u:=jq p oq;omega
theorem aMt (hb:0<b) {n m:Nat}(h:m≤n) (k:Nat):wd b (n-m) k=(wd b n k+b-wd b m k-borrow b n m k) % b:=by
 have e:=aDj hb (n-m) m k;rw [xb h]at e;have hc:carry b (n-m) m k=borrow b n m k:=by
  have hp:=oc (n:=k) hb;have h1:=qt (n-m) hp;have h2:=qt m hp;have h3:n % b^k=((n-m) % b^k+m % b^k) % b^k:=by rw [←Nat.add_mod,xb h]
  unfold carry borrow;rw [h3];generalize (n-m) % b^k=x at *
  generalize m % b^k=y at *
  generalize b^k=p at *
  by_cases hx:x+y<p
  ·rw [oa hx,jj hx,og oq]
  ·have:(x+y) % p=x+y-p:=by rw [Nat.mod_eq_sub_mod oq,oa oq]
   rw [this,om oq];have:(x+y) / p=1:=by
    rw [Nat.div_eq_sub_div hp oq,jj oq]
   exact this
 rw [hc]at e;have h1:=aAs hb (n-m) k;have h2:=aAs hb m k;have h3:=oX (b:=b) n m k;rw [e];generalize wd b (n-m) k=x at *
 generalize wd b m k=y at *
 generalize borrow b n m k=z at *
 by_cases hx:x+y+z<b
 ·rw [oa hx,show x+y+z+b-y-z=x+b by omega,Nat.add_mod_right,oa h1]
 ·have:(x+y+z) % b=x+y+z-b:=by rw [Nat.mod_eq_sub_mod oq,oa oq]
  rw [this,show x+y+z-b+b-y-z=x by omega,oa h1]
def upd (b n j x:Nat):Nat:=n-b^j*wd b n j+b^j*x
theorem aFe (n j:Nat):b^j*wd b n j≤n:=
 qr (by rw [dW];exact Nat.le_add_left _ _) (Nat.mod_le n (b^(j+1)))
theorem eB (hb:0<b) (x y k:Nat) (hx:x<b^k) (i:Nat):wd b (x+b^k*y) i=if i<k then wd b x i else wd b y (i-k):=by
 have hp:=oc (n:=k) hb;split
 ·rename_i h;unfold wd;have e:b^k=b^i*b*b^(k-i-1):=by
   rw [←qi,←jc];congr 1;omega
  rw [e,jm,jm,jh _ _ (oc hb),zw]
 ·rename_i h;unfold wd;have e:b^i=b^k*b^(i-k):=by rw [←jc];congr 1;omega
  rw [e,←jy,jh _ _ hp,jj hx,qe]
theorem nA (hb:0<b) (n k i:Nat) (h:i<k):wd b (n % b^k) i=wd b n i:=by
 have hp:=oc (n:=k) hb;have:=eB hb (n % b^k) (n/b^k) k (qt _ hp) i;rw [ve,jd,om h]at this;exact this.symm
theorem jZ (n k i:Nat):wd b (n/b^k) i=wd b n (k+i):=by
 unfold wd;rw [jy,←jc]
theorem aTi (n j x:Nat):upd b n j x=n % b^j+b^j*(x+b*(n/b^(j+1))):=by
 unfold upd;have h1:=jd n (b^j);rw [dI n j,zf,qy (n/b^(j+1)) b]at h1;rw [zf];generalize n % b^j=r at *
 generalize b^j*(b*(n/b^(j+1)))=s at *
 generalize b^j*wd b n j=t at *
 omega
theorem aMu (hb:0<b) {n j x:Nat}(hx:x<b) (i:Nat):wd b (upd b n j x) i=if i=j then x else wd b n i:=by
 have hp:=oc (n:=j) hb;rw [aTi,eB hb _ _ _ (qt _ hp)]
 by_cases h:i<j
 ·rw [om h,og oq,nA hb _ _ _ h]
 ·rw [og h];have:=eB hb x (n/b^(j+1)) 1 (by simpa using hx) (i-j);rw [we]at this;rw [this]
  by_cases h2:i=j
  ·subst h2;simp [oT hx]
  ·rw [og oq,og h2,jZ,show j+1+(i-j-1)=i by omega]
theorem aAr (n j x:Nat) (h:wd b n j=0):upd b n j x=n+b^j*x:=by unfold upd;rw [h];simp
theorem aMp (s k:Nat):upd b (s % b^k) k (wd b s k)=s % b^(k+1):=by
 have h:wd b (s % b^k) k=0:=by
  rcases jf (b^k) with h0|h0
  ·unfold wd;rw [h0];simp
  ·exact kC (qt _ h0)
 rw [aAr _ _ _ h,dW]
theorem aOr (c P x Q:Nat):(c+(P+x*Q)) % b=(P % b+x*(Q % b)+c) % b:=by
 have h1:=jd P b;have h2:x*Q=x*(Q % b)+b*(x*(Q/b)):=by
  rw [Nat.mul_left_comm,←zf]
  congr 1
  have:=jd Q b;omega
 have:c+(P+x*Q)=(P % b+x*(Q % b)+c)+b*(P/b+x*(Q/b)):=by rw [zf];omega
 rw [this,zw]
def cmul (b U x m k:Nat):Nat:=(U % b^k+x*(m % b^k)) / b^k
theorem uW (U x m:Nat):cmul b U x m 0=0:=by simp [cmul,Nat.mod_one]
theorem aDx (hb:0<b) (U m k:Nat) {x:Nat}(hx:x<b):cmul b U x m k<b:=by
 have hp:=oc (n:=k) hb;have h1:=qt U hp;have h2:=qt m hp;unfold cmul;rw [qf hp];generalize U % b^k=u at *
 generalize m % b^k=v at *
 generalize b^k=p at *
 have h3:x*(v+1)≤x*p:=jq _ h2;have h4:(x+1)*p≤b*p:=qd _ hx;rw [zf]at h3;rw [jo]at h4;omega
theorem uV (hb:0<b) (U x m k:Nat):cmul b U x m (k+1)=(wd b U k+x*wd b m k+cmul b U x m k) / b:=by
 have hp:=oc (n:=k) hb;unfold cmul;rw [dW U,dW m,qi,←jy]
 congr 1
 rw [show U % b^k+b^k*wd b U k+x*(m % b^k+b^k*wd b m k)=(U % b^k+x*(m % b^k))+b^k*(wd b U k+x*wd b m k) by
  rw [zf,zf,Nat.mul_left_comm x];omega,jh _ _ hp]
 omega
theorem aFd (hb:0<b) (U x m k:Nat):wd b (U+x*m) k=(wd b U k+x*wd b m k+cmul b U x m k) % b:=by
 have hp:=oc (n:=k) hb;unfold wd cmul;have e:(U+x*m) / b^k=(U % b^k+x*(m % b^k)) / b^k+(U/b^k+x*(m/b^k)):=by
  have h1:=jd U (b^k);have h2:x*m=x*(m % b^k)+b^k*(x*(m/b^k)):=by
   rw [Nat.mul_left_comm,←zf]
   congr 1
   have:=jd m (b^k);omega
  have:U+x*m=(U % b^k+x*(m % b^k))+b^k*(U/b^k+x*(m/b^k)):=by rw [zf];omega
  rw [this,jh _ _ hp]
 rw [e,aOr]
def mrow (b a m i:Nat):Nat:=(a % b^i)*m
theorem vR (a m i:Nat):mrow b a m (i+1)=mrow b a m i+b^i*(wd b a i*m):=by
 unfold mrow;rw [dW,jo,jm]
theorem rU (hb:0<b) {a m i l:Nat}(hm:m<b^l):mrow b a m i<b^(i+l):=by
 have hp:=oc (n:=i) hb;unfold mrow;rw [jc];exact Nat.mul_lt_mul'' (qt _ hp) hm
theorem vQ (hb:0<b) (a m i:Nat):mrow b a m (i+1) / b^i=mrow b a m i/b^i+wd b a i*m:=by
 rw [vR,jh _ _ (oc hb)]
theorem zJ (hb:0<b) (a m:Nat) {i j:Nat}(h:j<i):wd b (mrow b a m (i+1)) j=wd b (mrow b a m i) j:=by
 rw [←nA hb _ i j h,vR,zw,nA hb _ i j h]
def mcar (b a m i k:Nat):Nat:=cmul b (mrow b a m i/b^i) (wd b a i) m k
theorem vM (a m i:Nat):mcar b a m i 0=0:=uW _ _ _
theorem wZ (hb:0<b) (a m i k:Nat):mcar b a m i k<b:=aDx hb _ _ _ (aAs hb _ _)
theorem vL (hb:0<b) (a m i k:Nat) :
 wd b (mrow b a m (i+1)) (i+k)=(wd b (mrow b a m i) (i+k)+wd b a i*wd b m k+mcar b a m i k) % b∧
 mcar b a m i (k+1)=(wd b (mrow b a m i) (i+k)+wd b a i*wd b m k+mcar b a m i k) / b:=by
 rw [←jZ,←jZ,vQ hb];exact⟨aFd hb _ _ _ _,uV hb _ _ _ _⟩
theorem zI (hb:0<b) {a m i l:Nat}(hm:m<b^l):mcar b a m i l=wd b (mrow b a m (i+1)) (i+l):=by
 have h:=rU (a:=a) (i:=i) hb hm;have hu:mrow b a m i/b^i<b^l:=by
  rw [qf (oc hb),←jc,ve];exact h
 rw [←jZ,vQ hb];have hc:=wZ hb a m i l;unfold mcar cmul at hc ⊢;rw [oa hu,oa hm]at hc ⊢;unfold wd at hc ⊢;exact (oa hc).symm
theorem qH (hb:0<b) {a m i l j:Nat}(hm:m<b^l) (hj:i+l<j):wd b (mrow b a m i) j=wd b (mrow b a m (i+1)) j:=by
 rw [rG hb (rU hb hm) oq,rG hb (rU (i:=i+1) hb hm) oq]
theorem byword {n d:Nat}(hb:0<b) (hd:0<d) (i:Nat) :
 (n/b^(i+1) % d*b+wd b n i) / d=wd b (n/d) i∧(n/b^(i+1) % d*b+wd b n i) % d=n/b^i % d:=by
 have hw:=aAs hb n i;have h1:=dI (b:=b) n i;have h2:n/d/b^i=n/b^i/d:=by rw [jy,jy,qy]
 have h3:=jd (n/b^(i+1)) d;have hr:=qt (n/b^(i+1)) hd;unfold wd at h1 hw ⊢;rw [h2];generalize n/b^i % b=w at *
 generalize n/b^i=N at *
 generalize n/b^(i+1)=M at *
 generalize M % d=r at *
 generalize M/d=q at *
 subst h3;have e:N=(r*b+w)+d*(q*b):=by rw [h1,jo,jm];omega
 have hlt:(r*b+w) / d<b:=by
  rw [qf hd];have:(r+1)*b≤d*b:=qd b hr;rw [jo]at this;rw [qy b d];omega
 refine⟨?_,by rw [e,zw]⟩;rw [e,jh _ _ hd,Nat.add_mul_mod_self_right,oa hlt]
theorem aFj {d r w:Nat}(hr:r<d) (hw:w<b):r*b+w<d*b:=by
 have:(r+1)*b≤d*b:=qd b hr;rw [jo]at this;omega
theorem pG {p V B q uu v1:Nat}(hv:v1*B≤V) (hv1:0<v1) (hu:p<(uu+1)*B) (hq:q*V≤p):q≤uu/v1:=by
 rw [zg hv1];have h1:q*(v1*B)≤q*V:=jq q hv;have h2:(q*v1)*B<(uu+1)*B:=by rw [jm];omega
 have:=Nat.lt_of_mul_lt_mul_right h2;omega
theorem sQ {p V C uu v1 v2 u2 g r:Nat}(hv:(v1*b+v2)*C≤V) (hu:p<(uu*b+u2+1)*C) (hr:g*v1+r=uu) (ht:r*b+u2<g*v2) (hq:g*V≤p):False:=by
 have h1:g*((v1*b+v2)*C)≤g*V:=jq g hv;have h2:(g*(v1*b+v2))*C<(uu*b+u2+1)*C:=by rw [jm];omega
 have h3:=Nat.lt_of_mul_lt_mul_right h2;rw [←hr,zf,←jm,jo]at h3;omega
end
theorem top1 {b n x:Nat}(hx:x<b^(n+1)):x/b^n=wd b x n:=by
 have h:=dI (b:=b) x n;rw [jj hx,kn,qe]at h;exact h
theorem top2 {b n x:Nat}(hx:x<b^(n+2)):x/b^n=wd b x (n+1)*b+wd b x n:=by
 rw [dI x n,top1 hx]
theorem top3 {b n x:Nat}(hx:x<b^(n+3)):x/b^n=(wd b x (n+2)*b+wd b x (n+1))*b+wd b x n:=by
 rw [dI x n,top2 hx]
theorem nZ {x p:Nat}(hp:0<p):x<(x/p+1)*p:=by
 have:=jd x p;have:=qt x hp;rw [jo,qy];omega
section
variable {D n1 n0 Y n32 u1 q r:Nat}
theorem aEe (hn:n32<Y) (hu:u1<D):(n32*D+u1) / Y<D:=by
 rw [qf oq];have:(n32+1)*D≤Y*D:=qd D hn;rw [jo]at this;rw [qy D Y];omega
theorem aGa (hY:Y=n1*D+n0) (h0:n0<D) (hn:n32<Y) (hu:u1<D) (h1:D≤2*n1) (hp:0<n1):n32/n1≤D+1∧(n32*D+u1) / Y≤n32/n1:=by
 constructor
 ·have:n32/n1<D+2:=by
   rw [qf hp,jo,qy D n1];omega
  omega
 ·have hYp:0<Y:=oq
  refine pG (p:=n32*D+u1) (V:=Y) (B:=D) (v1:=n1) oq hp (by rw [jo];omega) ?_;exact vu _ _
theorem vH (hY:Y=n1*D+n0) (_hu:u1<D) (hq:q*n1+r=n32) (ht:D*r+u1<q*n0):(n32*D+u1) / Y<q:=by
 refine vt fun hle=>?_;refine sQ (b:=D) (p:=n32*D+u1) (V:=Y) (C:=1) (uu:=n32) (v1:=n1) (v2:=n0) (u2:=u1) (g:=q) (r:=r) oq oq hq (by rw [qy r D];exact ht) ?_;exact qr (qd Y hle) (vu _ _)
theorem sR (hY:Y=n1*D+n0) (hp:0<Y) (hq:q*n1+r=n32) (ht:q*n0≤D*r+u1) (hge:(n32*D+u1) / Y≤q):q=(n32*D+u1) / Y:=by
 refine Nat.le_antisymm ?_ hge;rw [zg hp,hY,←hq,zf,jo,←jm,qy r D];omega
theorem vG (hY:Y=n1*D+n0) (hp:0<Y) (h0:n0<D) (hq:q*n1+r=n32) (hr:D≤r) (hqD:q≤D) (hge:(n32*D+u1) / Y≤q):q=(n32*D+u1) / Y:=by
 refine sR hY hp hq ?_ hge;have h1:q*n0≤D*n0:=qd _ hqD;have h2:D*n0≤D*r:=jq _ oq;omega
theorem aJu {m1 m0:Nat}(hp:0<Y) :
 ((n32*D+m1)*D+m0) / Y=(n32*D+m1) / Y*D+((n32*D+m1) % Y*D+m0) / Y∧((n32*D+m1)*D+m0) % Y=((n32*D+m1) % Y*D+m0) % Y:=by
 have h1:=jd (n32*D+m1) Y;generalize (n32*D+m1) / Y=Q at *
 generalize (n32*D+m1) % Y=X at *
 have e:(n32*D+m1)*D+m0=(X*D+m0)+Y*(Q*D):=by
  rw [←h1,jo,jm];omega
 rw [e,jh _ _ hp,zw];exact⟨ve _ _,rfl⟩
end
theorem aMd (y P R:Nat) (hP:0<P) (hR:0<R):y/P % (P*R)=y % (P*R) / P+y/(P*R) % (P*R)*R % (P*R):=by
 have h1:=jd y (P*R);have h2:y % (P*R) / P<R:=by
  rw [qf hP,qy R P];exact qt _ (zn hP hR)
 have h3:y/P=y % (P*R) / P+R*(y/(P*R)):=by
  conv=>lhs;rw [←h1]
  rw [ve,jm,jh _ _ hP]
 generalize y % (P*R) / P=w at *
 generalize y/(P*R)=z at *
 rw [h3,qy P R,Nat.mod_mul,zw,oa h2,jh _ _ hR,jj h2,qe]
 congr 1
 rw [qy _ R,Nat.mul_mod_mul_left,Nat.mod_mul_left_mod]
theorem lA (x P R:Nat) (hP:0<P) (_hR:0<R):x*P % (P*R)=x % R*P∧x*P/(P*R)=x/R:=by
 constructor
 ·rw [qy x P,Nat.mul_mod_mul_left,qy]
 ·rw [qy x P,Nat.mul_div_mul_left _ _ hP]
theorem aMs {b P R:Nat}(hb:b=P*R) (hP:0<P) (hR:0<R) (m q i:Nat) :
 wd b (m/(b^q*P)) i=wd b m (i+q) / P+wd b m (i+q+1)*R % b:=by
 unfold wd;have e1:m/(b^q*P) / b^i=m/b^(i+q) / P:=by
  rw [jy,jy]
  congr 1
  rw [jc];ac_rfl
 have e2:m/b^(i+q+1)=m/b^(i+q) / b:=by rw [qi,jy]
 rw [e1,e2,hb];exact aMd _ P R hP hR
theorem aMc {b P R:Nat}(hb:b=P*R) (hP:0<P) (hR:0<R) {M j x:Nat}(hM:M<b^j*P) (_hx:x<b) :
 wd b M j<P∧wd b M j+x*P % b<b∧upd b (upd b M j (wd b M j+x*P % b)) (j+1) (x/R)=M+b^j*(x*P):=by
 have hb0:0<b:=by rw [hb];exact zn hP hR
 have hp:=oc (n:=j) hb0;have hu:M/b^j<P:=(qf hp).2 (by rw [qy];exact hM);have hPb:P≤b:=by rw [hb];exact vp _ hR
 have ew:wd b M j=M/b^j:=oa oq;have hc:=lA x P R hP hR;rw [←hb]at hc;have hlo:wd b M j+x*P % b<b:=by
  rw [ew,hc.1];have h1:x % R*P+P≤b:=by
   have:(x % R+1)*P≤R*P:=qd P (qt _ hR);rw [hb,qy P R]
   rwa [xe]at this
  omega
 refine⟨by rw [ew];exact hu,hlo,?_⟩;have hM2:M<b^(j+1):=by
  rw [qi];exact qu hM (jq _ hPb)
 have h0:wd b (upd b M j (wd b M j+x*P % b)) (j+1)=0:=by
  rw [aMu hb0 hlo,og oq];exact kC hM2
 rw [aAr _ _ _ h0];unfold upd;have hpart:=aFe (b:=b) M j;have hdm:=jd (x*P) b;rw [hc.2]at hdm;have:b^j*(x*P)=b^(j+1)*(x/R)+b^j*(x*P % b):=by
  conv=>lhs;rw [←hdm]
  rw [zf,qi,jm]
 rw [this,zf];omega
def bl (n:Nat):Nat:=if n=0 then 0 else n.log2+1
theorem kE {n k:Nat}:bl n≤k↔n<2^k:=by
 unfold bl
 by_cases h:n=0
 ·simp [h,Nat.pow_pos]
 ·rw [og h,←Nat.log2_lt h];omega
theorem aNt:bl 0=0:=rfl
theorem mA (n:Nat):n<2^bl n:=kE.1 (oy _)
theorem mZ {n:Nat}(h:n≠0):2^(bl n-1)≤n:=by
 unfold bl;rw [og h];exact (Nat.le_log2 h).1 (oy _)
def nwk (k n:Nat):Nat:=(bl n+(k-1)) / k
theorem aEm {k:Nat}(hk:0<k) (n:Nat):Len (2^k) n (nwk k n):=by
 unfold nwk;constructor
 ·rw [←wn,←kE];have:=jd (bl n+(k-1)) k;have:=qt (bl n+(k-1)) hk;omega
 ·intro h;rw [←wn];have h0:n≠0:=by
   intro e;subst e;simp only [aNt,qe]at h;rw [jj oq]at h;omega
  refine qr (ql oq ?_) (mZ h0);have h1:=jd (bl n+(k-1)) k;have:=Nat.mul_sub k ((bl n+(k-1)) / k) 1;have:=qt (bl n+(k-1)) hk;omega
theorem aSr {k:Nat}(hk:0<k) (n:Nat):nwk k n≤bl n:=by
 unfold nwk;rcases jf (bl n) with h|h
 ·rw [h,jj oq];omega
 ·apply Nat.le_of_lt_succ;rw [qf hk];have:bl n*k ≥ bl n:=vp _ hk;have:1*k≤bl n*k:=qd k h;rw [xe];omega
