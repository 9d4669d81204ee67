import Derived.Test.YtjgnlflbgmnfaaaGreatFfAA
namespace Go.Proofs.YtjgnlflbgmnfaaaGreat.Num
def wd (b n i:Nat):Nat:=n/b^i % b
structure Len (b n k:Nat):Prop where
 lt:n<b^k
 le:0<k→b^(k-1)≤n
section
variable {b:Nat} 
theorem yW (hb:0<b) (n i:Nat):wd b n i<b:=qy _ hb
theorem jI {n i:Nat}(h:n<b^i):wd b n i=0:=by
 unfold wd;rw [qs h];simp
theorem qB (hb:0<b) {n i k:Nat}(h:n<b^k) (hi:k≤i):wd b n i=0:=
 jI (qj h (qp hb hi))
theorem dH (n i:Nat):n % b^(i+1)=n % b^i+b^i*wd b n i:=Nat.mod_pow_succ
theorem cX (n i:Nat):n/b^i=n/b^(i+1)*b+wd b n i:=by
 unfold wd;rw [qc,←qe,oi];exact (jz _ _).symm
theorem Len.zero (hb:0<b) {k:Nat}(h:Len b 0 k):k=0:=by
 rcases jg k with h0|h0
 ·exact h0
 ·have:=h.le h0;have:=oa (n:=k-1) hb;omega
theorem Len.pos {n k:Nat}(h:Len b n k) (hb:0<b) (hk:0<k):0<n:=by
 have:=h.le hk;have:=oa (n:=k-1) hb;omega
theorem Len.eq_zero {n:Nat}(h:Len b n 0):n=0:=by have:=h.lt;simp at this;exact this
theorem Len.nil:Len b 0 0:=⟨by simp,fun h=>absurd h oq⟩
theorem Len.zero_iff {n k:Nat}(h:Len b n k) (hb:0<b):k=0↔n=0:=
 ⟨fun e=>by subst e;exact h.eq_zero,fun e=>by subst e;exact h.zero hb⟩
theorem Len.lt_of {n m k l:Nat}(hb:0<b) (h:Len b n k) (h':Len b m l) (hk:k<l):n<m:=by
 have h1:=h.lt;have h2:=h'.le oq;have:=qp hb (show k≤l-1 by omega);omega
theorem Len.unique {n k l:Nat}(hb:0<b) (h:Len b n k) (h':Len b n l):k=l:=by
 rcases xr k l with h1|h1|h1
 ·have:=h.lt_of hb h' h1;omega
 ·exact h1
 ·have:=h'.lt_of hb h h1;omega
theorem Len.top {n k:Nat}(hb:0<b) (h:Len b n k) (hk:0<k):wd b n (k-1)≠0:=by
 intro e;have h1:=cX (b:=b) n (k-1);rw [e,show k-1+1=k by omega,qs h.lt]at h1;have h2:=h.le hk;have:=(zf (oa (n:=k-1) hb)).2 (by rw [jo];exact h2);omega
theorem Len.of_top {n k:Nat}(h:n<b^k) (ht:0<k→wd b n (k-1)≠0):Len b n k:=by
 refine⟨h,fun hk=>?_⟩;have h1:=ht hk;refine ji fun hlt=>h1 (jI hlt)
theorem tW {n k:Nat}(hb:0<b) (h:n<b^(k+1)) (ht:wd b n k=0):n<b^k:=by
 have h1:=cX (b:=b) n k;rw [ht,qs h]at h1;have hp:=oa (n:=k) hb;refine vr fun hle=>?_;have:=(zf hp).2 (by rw [jo];exact hle);omega
theorem Len.one {n:Nat}(h:n<b) (hn:0<n):Len b n 1:=⟨by simpa using h,fun _=>by simp;omega⟩
theorem nT {n:Nat}(h:n<b):wd b n 0=n:=by
 unfold wd;simp [Nat.mod_eq_of_lt h]
theorem Len.val1 {n:Nat}(h:Len b n 1):wd b n 0=n:=nT (by simpa using h.lt)
theorem vE {n m i:Nat}(h:n/b^(i+1)=m/b^(i+1)) (hw:wd b n i<wd b m i):n<m:=by
 have h1:=cX (b:=b) n i;have h2:=cX (b:=b) m i;rw [h]at h1;refine vr fun hle=>?_;have:=Nat.div_le_div_right (c:=b^i) hle;omega
theorem vD {n m i:Nat}(h:n/b^(i+1)=m/b^(i+1)) (hw:wd b n i=wd b m i):n/b^i=m/b^i:=by
 rw [cX n i,cX m i,h,hw]
def carry (b n m k:Nat):Nat:=(n % b^k+m % b^k) / b^k
theorem zJ (n m:Nat):carry b n m 0=0:=by simp [carry,Nat.mod_one]
theorem aGu (hb:0<b) (n m k:Nat):carry b n m k≤1:=by
 have hp:=oa (n:=k) hb;have h1:=qy n hp;have h2:=qy m hp;unfold carry;have:(n % b^k+m % b^k) / b^k<2:=(qg hp).2 oq;omega
theorem zI (hb:0<b) (n m k:Nat):carry b n m (k+1)=(wd b n k+wd b m k+carry b n m k) / b:=by
 have hp:=oa (n:=k) hb;unfold carry;rw [dH n,dH m,qc,←qe]
 congr 1
 rw [show n % b^k+b^k*wd b n k+(m % b^k+b^k*wd b m k)=(n % b^k+m % b^k)+b^k*(wd b n k+wd b m k) by rw [zv];omega,jh _ _ hp];omega
theorem aKl (hb:0<b) (n m k:Nat):wd b (n+m) k=(wd b n k+wd b m k+carry b n m k) % b:=by
 have hp:=oa (n:=k) hb;unfold wd carry;have e:(n+m) / b^k=n/b^k+m/b^k+(n % b^k+m % b^k) / b^k:=by
  have h1:=jz n (b^k);have h2:=jz m (b^k);have:n+m=(n % b^k+m % b^k)+b^k*(n/b^k+m/b^k):=by rw [zv];omega
  rw [this,jh _ _ hp];omega
 rw [e];simp [Nat.add_mod]
theorem aDg {n m k:Nat}(hn:n<b^k) (hm:m<b^k):carry b n m k=(n+m) / b^k:=by
 unfold carry;rw [ob hn,ob hm]
def borrow (b n m k:Nat):Nat:=if n % b^k<m % b^k then 1 else 0
theorem pA (n m:Nat):borrow b n m 0=0:=by simp [borrow,Nat.mod_one]
theorem nW (n m k:Nat):borrow b n m k≤1:=by unfold borrow;split <;> omega
theorem oZ (hb:0<b) (n m k:Nat):borrow b n m (k+1)=if wd b n k<wd b m k+borrow b n m k then 1 else 0:=by
 have hp:=oa (n:=k) hb;have h1:=qy n hp;have h2:=qy m hp;unfold borrow;rw [dH n,dH m];generalize n % b^k=x at *
 generalize m % b^k=y at *
 generalize wd b n k=u;generalize wd b m k=v;generalize b^k=p at *
 by_cases h:x<y
 ·rw [og h]
  by_cases h':u<v+1
  ·rw [og h',og];have:p*u≤p*v:=ql p oq;omega
  ·rw [oh h',oh];have:p*(v+1)≤p*u:=ql p oq;rw [zv]at this;omega
 ·rw [oh h]
  by_cases h':u<v+0
  ·rw [og h',og];have:p*(u+1)≤p*v:=ql p oq;rw [zv]at this;omega
  ·rw [oh h',oh];have:p*v≤p*u:=ql p oq;omega
theorem aKn (hb:0<b) {n m:Nat}(h:m≤n) (k:Nat):wd b (n-m) k=(wd b n k+b-wd b m k-borrow b n m k) % b:=by
 have e:=aKl hb (n-m) m k;rw [xm h]at e;have hc:carry b (n-m) m k=borrow b n m k:=by
  have hp:=oa (n:=k) hb;have h1:=qy (n-m) hp;have h2:=qy m hp;have h3:n % b^k=((n-m) % b^k+m % b^k) % b^k:=by rw [←Nat.add_mod,xm h]
  unfold carry borrow;rw [h3];generalize (n-m) % b^k=x at *
  generalize m % b^k=y at *
  generalize b^k=p at *
  by_cases hx:x+y<p
  ·rw [ob hx,qs hx,oh oq]
  ·have:(x+y) % p=x+y-p:=by rw [Nat.mod_eq_sub_mod oq,ob oq]
   rw [this,og oq];have:(x+y) / p=1:=by
    rw [Nat.div_eq_sub_div hp oq,qs oq]
   exact this
 rw [hc]at e;have h1:=yW hb (n-m) k;have h2:=yW hb m k;have h3:=nW (b:=b) n m k;rw [e];generalize wd b (n-m) k=x at *
 generalize wd b m k=y at *
 generalize borrow b n m k=z at *
 by_cases hx:x+y+z<b
 ·rw [ob hx,show x+y+z+b-y-z=x+b by omega,Nat.add_mod_right,ob h1]
 ·have:(x+y+z) % b=x+y+z-b:=by rw [Nat.mod_eq_sub_mod oq,ob oq]
  rw [this,show x+y+z-b+b-y-z=x by omega,ob h1]
def upd (b n j x:Nat):Nat:=n-b^j*wd b n j+b^j*x
theorem aDb (n j:Nat):b^j*wd b n j≤n:=
 jv (by rw [dH];exact Nat.le_add_left _ _) (Nat.mod_le n (b^(j+1)))
theorem dM (hb:0<b) (x y k:Nat) (hx:x<b^k) (i:Nat):wd b (x+b^k*y) i=if i<k then wd b x i else wd b y (i-k):=by
 have hp:=oa (n:=k) hb;split
 ·rename_i h;unfold wd;have e:b^k=b^i*b*b^(k-i-1):=by
   rw [←qc,←qd];congr 1;omega
  rw [e,qt,qt,jh _ _ (oa hb),zk]
 ·rename_i h;unfold wd;have e:b^i=b^k*b^(i-k):=by rw [←qd];congr 1;omega
  rw [e,←qe,jh _ _ hp,qs hx,ju]
theorem mF (hb:0<b) (n k i:Nat) (h:i<k):wd b (n % b^k) i=wd b n i:=by
 have hp:=oa (n:=k) hb;have:=dM hb (n % b^k) (n/b^k) k (qy _ hp) i;rw [je,jz,og h]at this;exact this.symm
theorem jH (n k i:Nat):wd b (n/b^k) i=wd b n (k+i):=by
 unfold wd;rw [qe,←qd]
theorem aQc (n j x:Nat):upd b n j x=n % b^j+b^j*(x+b*(n/b^(j+1))):=by
 unfold upd;have h1:=jz n (b^j);rw [cX n j,zv,oi (n/b^(j+1)) b]at h1;rw [zv];generalize n % b^j=r at *
 generalize b^j*(b*(n/b^(j+1)))=s at *
 generalize b^j*wd b n j=t at *
 omega
theorem aKo (hb:0<b) {n j x:Nat}(hx:x<b) (i:Nat):wd b (upd b n j x) i=if i=j then x else wd b n i:=by
 have hp:=oa (n:=j) hb;rw [aQc,dM hb _ _ _ (qy _ hp)]
 by_cases h:i<j
 ·rw [og h,oh oq,mF hb _ _ _ h]
 ·rw [oh h];have:=dM hb x (n/b^(j+1)) 1 (by simpa using hx) (i-j);rw [wm]at this;rw [this]
  by_cases h2:i=j
  ·subst h2;simp [nT hx]
  ·rw [oh oq,oh h2,jH,show j+1+(i-j-1)=i by omega]
theorem yV (n j x:Nat) (h:wd b n j=0):upd b n j x=n+b^j*x:=by unfold upd;rw [h];simp
theorem aKk (s k:Nat):upd b (s % b^k) k (wd b s k)=s % b^(k+1):=by
 have h:wd b (s % b^k) k=0:=by
  rcases jg (b^k) with h0|h0
  ·unfold wd;rw [h0];simp
  ·exact jI (qy _ h0)
 rw [yV _ _ _ h,dH]
theorem aMp (c P x Q:Nat):(c+(P+x*Q)) % b=(P % b+x*(Q % b)+c) % b:=by
 have h1:=jz P b;have h2:x*Q=x*(Q % b)+b*(x*(Q/b)):=by
  rw [Nat.mul_left_comm,←zv]
  congr 1
  have:=jz Q b;omega
 have:c+(P+x*Q)=(P % b+x*(Q % b)+c)+b*(P/b+x*(Q/b)):=by rw [zv];omega
 rw [this,zk]
def cmul (b U x m k:Nat):Nat:=(U % b^k+x*(m % b^k)) / b^k
theorem tH (U x m:Nat):cmul b U x m 0=0:=by simp [cmul,Nat.mod_one]
theorem aBt (hb:0<b) (U m k:Nat) {x:Nat}(hx:x<b):cmul b U x m k<b:=by
 have hp:=oa (n:=k) hb;have h1:=qy U hp;have h2:=qy m hp;unfold cmul;rw [qg hp];generalize U % b^k=u at *
 generalize m % b^k=v at *
 generalize b^k=p at *
 have h3:x*(v+1)≤x*p:=ql _ h2;have h4:(x+1)*p≤b*p:=ot _ hx;rw [zv]at h3;rw [jt]at h4;omega
theorem tG (hb:0<b) (U x m k:Nat):cmul b U x m (k+1)=(wd b U k+x*wd b m k+cmul b U x m k) / b:=by
 have hp:=oa (n:=k) hb;unfold cmul;rw [dH U,dH m,qc,←qe]
 congr 1
 rw [show U % b^k+b^k*wd b U k+x*(m % b^k+b^k*wd b m k)=(U % b^k+x*(m % b^k))+b^k*(wd b U k+x*wd b m k) by
  rw [zv,zv,Nat.mul_left_comm x];omega,jh _ _ hp]
 omega
theorem aDa (hb:0<b) (U x m k:Nat):wd b (U+x*m) k=(wd b U k+x*wd b m k+cmul b U x m k) % b:=by
 have hp:=oa (n:=k) hb;unfold wd cmul;have e:(U+x*m) / b^k=(U % b^k+x*(m % b^k)) / b^k+(U/b^k+x*(m/b^k)):=by
  have h1:=jz U (b^k);have h2:x*m=x*(m % b^k)+b^k*(x*(m/b^k)):=by
   rw [Nat.mul_left_comm,←zv]
   congr 1
   have:=jz m (b^k);omega
  have:U+x*m=(U % b^k+x*(m % b^k))+b^k*(U/b^k+x*(m/b^k)):=by rw [zv];omega
  rw [this,jh _ _ hp]
 rw [e,aMp]
def mrow (b a m i:Nat):Nat:=(a % b^i)*m
theorem uE (a m i:Nat):mrow b a m (i+1)=mrow b a m i+b^i*(wd b a i*m):=by
 unfold mrow;rw [dH,jt,qt]
theorem qN (hb:0<b) {a m i l:Nat}(hm:m<b^l):mrow b a m i<b^(i+l):=by
 have hp:=oa (n:=i) hb;unfold mrow;rw [qd];exact Nat.mul_lt_mul'' (qy _ hp) hm
theorem uD (hb:0<b) (a m i:Nat):mrow b a m (i+1) / b^i=mrow b a m i/b^i+wd b a i*m:=by
 rw [uE,jh _ _ (oa hb)]
theorem xQ (hb:0<b) (a m:Nat) {i j:Nat}(h:j<i):wd b (mrow b a m (i+1)) j=wd b (mrow b a m i) j:=by
 rw [←mF hb _ i j h,uE,zk,mF hb _ i j h]
def mcar (b a m i k:Nat):Nat:=cmul b (mrow b a m i/b^i) (wd b a i) m k
theorem tY (a m i:Nat):mcar b a m i 0=0:=tH _ _ _
theorem vO (hb:0<b) (a m i k:Nat):mcar b a m i k<b:=aBt hb _ _ _ (yW hb _ _)
theorem tX (hb:0<b) (a m i k:Nat) :
 wd b (mrow b a m (i+1)) (i+k)=(wd b (mrow b a m i) (i+k)+wd b a i*wd b m k+mcar b a m i k) % b∧
 mcar b a m i (k+1)=(wd b (mrow b a m i) (i+k)+wd b a i*wd b m k+mcar b a m i k) / b:=by
 rw [←jH,←jH,uD hb];exact⟨aDa hb _ _ _ _,tG hb _ _ _ _⟩
theorem xP (hb:0<b) {a m i l:Nat}(hm:m<b^l):mcar b a m i l=wd b (mrow b a m (i+1)) (i+l):=by
 have h:=qN (a:=a) (i:=i) hb hm;have hu:mrow b a m i/b^i<b^l:=by
  rw [qg (oa hb),←qd,je];exact h
 rw [←jH,uD hb];have hc:=vO hb a m i l;unfold mcar cmul at hc ⊢;rw [ob hu,ob hm]at hc ⊢;unfold wd at hc ⊢;exact (ob hc).symm
theorem pI (hb:0<b) {a m i l j:Nat}(hm:m<b^l) (hj:i+l<j):wd b (mrow b a m i) j=wd b (mrow b a m (i+1)) j:=by
 rw [qB hb (qN hb hm) oq,qB hb (qN (i:=i+1) hb hm) oq]
theorem byword {n d:Nat}(hb:0<b) (hd:0<d) (i:Nat) :
 (n/b^(i+1) % d*b+wd b n i) / d=wd b (n/d) i∧(n/b^(i+1) % d*b+wd b n i) % d=n/b^i % d:=by
 have hw:=yW hb n i;have h1:=cX (b:=b) n i;have h2:n/d/b^i=n/b^i/d:=by rw [qe,qe,oi]
 have h3:=jz (n/b^(i+1)) d;have hr:=qy (n/b^(i+1)) hd;unfold wd at h1 hw ⊢;rw [h2];generalize n/b^i % b=w at *
 generalize n/b^i=N at *
 generalize n/b^(i+1)=M at *
 generalize M % d=r at *
 generalize M/d=q at *
 subst h3;have e:N=(r*b+w)+d*(q*b):=by rw [h1,jt,qt];omega
 have hlt:(r*b+w) / d<b:=by
  rw [qg hd];have:(r+1)*b≤d*b:=ot b hr;rw [jt]at this;rw [oi b d];omega
 refine⟨?_,by rw [e,zk]⟩;rw [e,jh _ _ hd,xw,ob hlt]
theorem aDf {d r w:Nat}(hr:r<d) (hw:w<b):r*b+w<d*b:=by
 have:(r+1)*b≤d*b:=ot b hr;rw [jt]at this;omega
theorem oG {p V B q uu v1:Nat}(hv:v1*B≤V) (hv1:0<v1) (hu:p<(uu+1)*B) (hq:q*V≤p):q≤uu/v1:=by
 rw [zf hv1];have h1:q*(v1*B)≤q*V:=ql q hv;have h2:(q*v1)*B<(uu+1)*B:=by rw [qt];omega
 have:=Nat.lt_of_mul_lt_mul_right h2;omega
theorem rM {p V C uu v1 v2 u2 g r:Nat}(hv:(v1*b+v2)*C≤V) (hu:p<(uu*b+u2+1)*C) (hr:g*v1+r=uu) (ht:r*b+u2<g*v2) (hq:g*V≤p):False:=by
 have h1:g*((v1*b+v2)*C)≤g*V:=ql g hv;have h2:(g*(v1*b+v2))*C<(uu*b+u2+1)*C:=by rw [qt];omega
 have h3:=Nat.lt_of_mul_lt_mul_right h2;rw [←hr,zv,←qt,jt]at h3;omega
end
theorem top1 {b n x:Nat}(hx:x<b^(n+1)):x/b^n=wd b x n:=by
 have h:=cX (b:=b) x n;rw [qs hx,zg,ju]at h;exact h
theorem top2 {b n x:Nat}(hx:x<b^(n+2)):x/b^n=wd b x (n+1)*b+wd b x n:=by
 rw [cX x n,top1 hx]
theorem top3 {b n x:Nat}(hx:x<b^(n+3)):x/b^n=(wd b x (n+2)*b+wd b x (n+1))*b+wd b x n:=by
 rw [cX x n,top2 hx]
theorem mX {x p:Nat}(hp:0<p):x<(x/p+1)*p:=by
 have:=jz x p;have:=qy x hp;rw [jt,oi];omega
section
variable {D n1 n0 Y n32 u1 q r:Nat}
theorem aCh (hn:n32<Y) (hu:u1<D):(n32*D+u1) / Y<D:=by
 rw [qg oq];have:(n32+1)*D≤Y*D:=ot D hn;rw [jt]at this;rw [oi D Y];omega
theorem aDy (hY:Y=n1*D+n0) (h0:n0<D) (hn:n32<Y) (hu:u1<D) (h1:D≤2*n1) (hp:0<n1):n32/n1≤D+1∧(n32*D+u1) / Y≤n32/n1:=by
 constructor
 ·have:n32/n1<D+2:=by
   rw [qg hp,jt,oi D n1];omega
  omega
 ·have hYp:0<Y:=oq
  refine oG (p:=n32*D+u1) (V:=Y) (B:=D) (v1:=n1) oq hp (by rw [jt];omega) ?_;exact ze _ _
theorem tT (hY:Y=n1*D+n0) (_hu:u1<D) (hq:q*n1+r=n32) (ht:D*r+u1<q*n0):(n32*D+u1) / Y<q:=by
 refine vr fun hle=>?_;refine rM (b:=D) (p:=n32*D+u1) (V:=Y) (C:=1) (uu:=n32) (v1:=n1) (v2:=n0) (u2:=u1) (g:=q) (r:=r) oq oq hq (by rw [oi r D];exact ht) ?_;exact jv (ot Y hle) (ze _ _)
theorem rN (hY:Y=n1*D+n0) (hp:0<Y) (hq:q*n1+r=n32) (ht:q*n0≤D*r+u1) (hge:(n32*D+u1) / Y≤q):q=(n32*D+u1) / Y:=by
 refine xh ?_ hge;rw [zf hp,hY,←hq,zv,jt,←qt,oi r D];omega
theorem tS (hY:Y=n1*D+n0) (hp:0<Y) (h0:n0<D) (hq:q*n1+r=n32) (hr:D≤r) (hqD:q≤D) (hge:(n32*D+u1) / Y≤q):q=(n32*D+u1) / Y:=by
 refine rN hY hp hq ?_ hge;have h1:q*n0≤D*n0:=ot _ hqD;have h2:D*n0≤D*r:=ql _ oq;omega
theorem aHn {m1 m0:Nat}(hp:0<Y) :
 ((n32*D+m1)*D+m0) / Y=(n32*D+m1) / Y*D+((n32*D+m1) % Y*D+m0) / Y∧((n32*D+m1)*D+m0) % Y=((n32*D+m1) % Y*D+m0) % Y:=by
 have h1:=jz (n32*D+m1) Y;generalize (n32*D+m1) / Y=Q at *
 generalize (n32*D+m1) % Y=X at *
 have e:(n32*D+m1)*D+m0=(X*D+m0)+Y*(Q*D):=by
  rw [←h1,jt,qt];omega
 rw [e,jh _ _ hp,zk];exact⟨je _ _,rfl⟩
end
theorem aJz (y P R:Nat) (hP:0<P) (hR:0<R):y/P % (P*R)=y % (P*R) / P+y/(P*R) % (P*R)*R % (P*R):=by
 have h1:=jz y (P*R);have h2:y % (P*R) / P<R:=by
  rw [qg hP,oi R P];exact qy _ (zp hP hR)
 have h3:y/P=y % (P*R) / P+R*(y/(P*R)):=by
  conv=>lhs;rw [←h1]
  rw [je,qt,jh _ _ hP]
 generalize y % (P*R) / P=w at *
 generalize y/(P*R)=z at *
 rw [h3,oi P R,Nat.mod_mul,zk,ob h2,jh _ _ hR,qs h2,ju]
 congr 1
 rw [oi _ R,Nat.mul_mod_mul_left,Nat.mod_mul_left_mod]
theorem kF (x P R:Nat) (hP:0<P) (_hR:0<R):x*P % (P*R)=x % R*P∧x*P/(P*R)=x/R:=by
 constructor
 ·rw [oi x P,Nat.mul_mod_mul_left,oi]
 ·rw [oi x P,Nat.mul_div_mul_left _ _ hP]
theorem aKm {b P R:Nat}(hb:b=P*R) (hP:0<P) (hR:0<R) (m q i:Nat) :
 wd b (m/(b^q*P)) i=wd b m (i+q) / P+wd b m (i+q+1)*R % b:=by
 unfold wd;have e1:m/(b^q*P) / b^i=m/b^(i+q) / P:=by
  rw [qe,qe]
  congr 1
  rw [qd];ac_rfl
 have e2:m/b^(i+q+1)=m/b^(i+q) / b:=by rw [qc,qe]
 rw [e1,e2,hb];exact aJz _ P R hP hR
theorem aJx {b P R:Nat}(hb:b=P*R) (hP:0<P) (hR:0<R) {M j x:Nat}(hM:M<b^j*P) (_hx:x<b) :
 wd b M j<P∧wd b M j+x*P % b<b∧upd b (upd b M j (wd b M j+x*P % b)) (j+1) (x/R)=M+b^j*(x*P):=by
 have hb0:0<b:=by rw [hb];exact zp hP hR
 have hp:=oa (n:=j) hb0;have hu:M/b^j<P:=(qg hp).2 (by rw [oi];exact hM);have hPb:P≤b:=by rw [hb];exact zn _ hR
 have ew:wd b M j=M/b^j:=ob oq;have hc:=kF x P R hP hR;rw [←hb]at hc;have hlo:wd b M j+x*P % b<b:=by
  rw [ew,hc.1];have h1:x % R*P+P≤b:=by
   have:(x % R+1)*P≤R*P:=ot P (qy _ hR);rw [hb,oi P R]
   rwa [ki]at this
  omega
 refine⟨by rw [ew];exact hu,hlo,?_⟩;have hM2:M<b^(j+1):=by
  rw [qc];exact qj hM (ql _ hPb)
 have h0:wd b (upd b M j (wd b M j+x*P % b)) (j+1)=0:=by
  rw [aKo hb0 hlo,oh oq];exact jI hM2
 rw [yV _ _ _ h0];unfold upd;have hpart:=aDb (b:=b) M j;have hdm:=jz (x*P) b;rw [hc.2]at hdm;have:b^j*(x*P)=b^(j+1)*(x/R)+b^j*(x*P % b):=by
  conv=>lhs;rw [←hdm]
  rw [zv,qc,qt]
 rw [this,zv];omega
def bl (n:Nat):Nat:=if n=0 then 0 else n.log2+1
theorem dD {n k:Nat}:bl n≤k↔n<2^k:=by
 unfold bl
 by_cases h:n=0
 ·simp [h,Nat.pow_pos]
 ·rw [oh h,←zh h];omega
theorem aBq:bl 0=0:=rfl
theorem fW (n:Nat):n<2^bl n:=dD.1 (oy _)
theorem eD {n:Nat}(h:n≠0):2^(bl n-1)≤n:=by
 unfold bl;rw [oh h];exact (Nat.le_log2 h).1 (oy _)
def nwk (k n:Nat):Nat:=(bl n+(k-1)) / k
theorem aCm {k:Nat}(hk:0<k) (n:Nat):Len (2^k) n (nwk k n):=by
 unfold nwk;constructor
 ·rw [←vt,←dD];have:=jz (bl n+(k-1)) k;have:=qy (bl n+(k-1)) hk;omega
 ·intro h;rw [←vt];have h0:n≠0:=by
   intro e;subst e;simp only [aBq,ju]at h;rw [qs oq]at h;omega
  refine jv (qp oq ?_) (eD h0);have h1:=jz (bl n+(k-1)) k;have:=Nat.mul_sub k ((bl n+(k-1)) / k) 1;have:=qy (bl n+(k-1)) hk;omega
theorem aPr {k:Nat}(hk:0<k) (n:Nat):nwk k n≤bl n:=by
 unfold nwk;rcases jg (bl n) with h|h
 ·rw [h,qs oq];omega
 ·apply Nat.le_of_lt_succ;rw [qg hk];have:bl n*k ≥ bl n:=zn _ hk;have:1*k≤bl n*k:=ot k h;rw [ki];omega
