import Derived.Test.YtebaclefnpipfaaGreatTeAA
namespace Go.Proofs.YtebaclefnpipfaaGreat.Num
def wd (b n i:Nat):Nat:=n/b^i % b
structure Len (b n k:Nat):Prop where
 lt:n<b^k
 le:0<k→b^(k-1)≤n
section
variable {b:Nat} 
theorem aGl (hb:0<b) (n i:Nat):wd b n i<b:=qt _ hb
theorem gH {n i:Nat}(h:n<b^i):wd b n i=0:=by
 unfold wd;rw [jk h];simp
theorem uP (hb:0<b) {n i k:Nat}(h:n<b^k) (hi:k≤i):wd b n i=0:=
 gH (qk h (qa hb hi))
theorem dO (n i:Nat):n % b^(i+1)=n % b^i+b^i*wd b n i:=Nat.mod_pow_succ
theorem cW (n i:Nat):n/b^i=n/b^(i+1)*b+wd b n i:=by
 unfold wd;rw [jf,←jd,qy];exact (qn _ _).symm
theorem Len.zero (hb:0<b) {k:Nat}(h:Len b 0 k):k=0:=by
 rcases qi k with h0|h0
 ·exact h0
 ·have:=h.le h0;have:=qw (n:=k-1) hb;omega
theorem Len.pos {n k:Nat}(h:Len b n k) (hb:0<b) (hk:0<k):0<n:=by
 have:=h.le hk;have:=qw (n:=k-1) hb;omega
theorem Len.eq_zero {n:Nat}(h:Len b n 0):n=0:=by have:=h.lt;simp at this;exact this
theorem Len.nil:Len b 0 0:=⟨by simp,fun h=>absurd h oq⟩
theorem Len.zero_iff {n k:Nat}(h:Len b n k) (hb:0<b):k=0↔n=0:=
 ⟨fun e=>by subst e;exact h.eq_zero,fun e=>by subst e;exact h.zero hb⟩
theorem Len.lt_of {n m k l:Nat}(hb:0<b) (h:Len b n k) (h':Len b m l) (hk:k<l):n<m:=by
 have h1:=h.lt;have h2:=h'.le oq;have:=qa hb (show k≤l-1 by omega);omega
theorem Len.unique {n k l:Nat}(hb:0<b) (h:Len b n k) (h':Len b n l):k=l:=by
 rcases yi k l with h1|h1|h1
 ·have:=h.lt_of hb h' h1;omega
 ·exact h1
 ·have:=h'.lt_of hb h h1;omega
theorem Len.of_top {n k:Nat}(h:n<b^k) (ht:0<k→wd b n (k-1)≠0):Len b n k:=by
 refine⟨h,fun hk=>?_⟩;have h1:=ht hk;refine jo fun hlt=>h1 (gH hlt)
theorem aIq {n k:Nat}(hb:0<b) (h:n<b^(k+1)) (ht:wd b n k=0):n<b^k:=by
 have h1:=cW (b:=b) n k;rw [ht,jk h]at h1;have hp:=qw (n:=k) hb;refine kn fun hle=>?_;have:=(vp hp).2 (by rw [Nat.one_mul];exact hle);omega
theorem Len.one {n:Nat}(h:n<b) (hn:0<n):Len b n 1:=⟨by simpa using h,fun _=>by simp;omega⟩
theorem uQ {n:Nat}(h:n<b):wd b n 0=n:=by
 unfold wd;simp [Nat.mod_eq_of_lt h]
theorem Len.val1 {n:Nat}(h:Len b n 1):wd b n 0=n:=uQ (by simpa using h.lt)
theorem aLx {n m i:Nat}(h:n/b^(i+1)=m/b^(i+1)) (hw:wd b n i<wd b m i):n<m:=by
 have h1:=cW (b:=b) n i;have h2:=cW (b:=b) m i;rw [h]at h1;refine kn fun hle=>?_;have:=Nat.div_le_div_right (c:=b^i) hle;omega
theorem aUd {n m i:Nat}(h:n/b^(i+1)=m/b^(i+1)) (hw:wd b n i=wd b m i):n/b^i=m/b^i:=by
 rw [cW n i,cW m i,h,hw]
def carry (b n m k:Nat):Nat:=(n % b^k+m % b^k) / b^k
theorem aCm (n m:Nat):carry b n m 0=0:=by simp [carry,Nat.mod_one]
theorem aLi (hb:0<b) (n m k:Nat):carry b n m k≤1:=by
 have hp:=qw (n:=k) hb;have h1:=qt n hp;have h2:=qt m hp;unfold carry;have:(n % b^k+m % b^k) / b^k<2:=(qs hp).2 oq;omega
theorem aCl (hb:0<b) (n m k:Nat):carry b n m (k+1)=(wd b n k+wd b m k+carry b n m k) / b:=by
 have hp:=qw (n:=k) hb;unfold carry;rw [dO n,dO m,jf,←jd]
 congr 1
 rw [show n % b^k+b^k*wd b n k+(m % b^k+b^k*wd b m k)=(n % b^k+m % b^k)+b^k*(wd b n k+wd b m k) by rw [zd];omega,jh _ _ hp];omega
theorem aPw (hb:0<b) (n m k:Nat):wd b (n+m) k=(wd b n k+wd b m k+carry b n m k) % b:=by
 have hp:=qw (n:=k) hb;unfold wd carry;have e:(n+m) / b^k=n/b^k+m/b^k+(n % b^k+m % b^k) / b^k:=by
  have h1:=qn n (b^k);have h2:=qn m (b^k);have:n+m=(n % b^k+m % b^k)+b^k*(n/b^k+m/b^k):=by rw [zd];omega
  rw [this,jh _ _ hp];omega
 rw [e];simp [Nat.add_mod]
theorem aGs {n m k:Nat}(hn:n<b^k) (hm:m<b^k):carry b n m k=(n+m) / b^k:=by
 unfold carry;rw [qc hn,qc hm]
def borrow (b n m k:Nat):Nat:=if n % b^k<m % b^k then 1 else 0
theorem zF (n m:Nat):borrow b n m 0=0:=by simp [borrow,Nat.mod_one]
theorem vG (n m k:Nat):borrow b n m k≤1:=by unfold borrow;split <;> omega
theorem zE (hb:0<b) (n m k:Nat):borrow b n m (k+1)=if wd b n k<wd b m k+borrow b n m k then 1 else 0:=by
 have hp:=qw (n:=k) hb;have h1:=qt n hp;have h2:=qt m hp;unfold borrow;rw [dO n,dO m];generalize n % b^k=x at *
 generalize m % b^k=y at *
 generalize wd b n k=u;generalize wd b m k=v;generalize b^k=p at *
 by_cases h:x<y
 ·rw [og h]
  by_cases h':u<v+1
  ·rw [og h',og];have:p*u≤p*v:=qr p oq;omega
  ·rw [oh h',oh];have:p*(v+1)≤p*u:=qr p oq;rw [zd]at this;omega
 ·rw [oh h]
  by_cases h':u<v+0
  ·rw [og h',og];have:p*(u+1)≤p*v:=qr p oq;rw [zd]at this;omega
  ·rw [oh h',oh];have:p*v≤p*u:=qr p oq;omega
theorem aVl (hb:0<b) {n m:Nat}(h:m≤n) (k:Nat):wd b (n-m) k=(wd b n k+b-wd b m k-borrow b n m k) % b:=by
 have e:=aPw hb (n-m) m k;rw [Nat.sub_add_cancel h]at e;have hc:carry b (n-m) m k=borrow b n m k:=by
  have hp:=qw (n:=k) hb;have h1:=qt (n-m) hp;have h2:=qt m hp;have h3:n % b^k=((n-m) % b^k+m % b^k) % b^k:=by rw [←Nat.add_mod,Nat.sub_add_cancel h]
  unfold carry borrow;rw [h3];generalize (n-m) % b^k=x at *
  generalize m % b^k=y at *
  generalize b^k=p at *
  by_cases hx:x+y<p
  ·rw [qc hx,jk hx,oh oq]
  ·have:(x+y) % p=x+y-p:=by rw [Nat.mod_eq_sub_mod oq,qc oq]
   rw [this,og oq];have:(x+y) / p=1:=by
    rw [Nat.div_eq_sub_div hp oq,jk oq]
   exact this
 rw [hc]at e;have h1:=aGl hb (n-m) k;have h2:=aGl hb m k;have h3:=vG (b:=b) n m k;rw [e];generalize wd b (n-m) k=x at *
 generalize wd b m k=y at *
 generalize borrow b n m k=z at *
 by_cases hx:x+y+z<b
 ·rw [qc hx,show x+y+z+b-y-z=x+b by omega,Nat.add_mod_right,qc h1]
 ·have:(x+y+z) % b=x+y+z-b:=by rw [Nat.mod_eq_sub_mod oq,qc oq]
  rw [this,show x+y+z-b+b-y-z=x by omega,qc h1]
def upd (b n j x:Nat):Nat:=n-b^j*wd b n j+b^j*x
theorem aSz (n j:Nat):b^j*wd b n j≤n:=
 qg (by rw [dO];exact Nat.le_add_left _ _) (Nat.mod_le n (b^(j+1)))
theorem gY (hb:0<b) (x y k:Nat) (hx:x<b^k) (i:Nat):wd b (x+b^k*y) i=if i<k then wd b x i else wd b y (i-k):=by
 have hp:=qw (n:=k) hb;split
 ·rename_i h;unfold wd;have e:b^k=b^i*b*b^(k-i-1):=by
   rw [←jf,←zj];congr 1;omega
  rw [e,jc,jc,jh _ _ (qw hb),vj]
 ·rename_i h;unfold wd;have e:b^i=b^k*b^(i-k):=by rw [←zj];congr 1;omega
  rw [e,←jd,jh _ _ hp,jk hx,ql]
theorem pQ (hb:0<b) (n k i:Nat) (h:i<k):wd b (n % b^k) i=wd b n i:=by
 have hp:=qw (n:=k) hb;have:=gY hb (n % b^k) (n/b^k) k (qt _ hp) i;rw [xb,qn,og h]at this;exact this.symm
theorem oM (n k i:Nat):wd b (n/b^k) i=wd b n (k+i):=by
 unfold wd;rw [jd,←zj]
theorem aVi (n j x:Nat):upd b n j x=n % b^j+b^j*(x+b*(n/b^(j+1))):=by
 unfold upd;have h1:=qn n (b^j);rw [cW n j,zd,qy (n/b^(j+1)) b]at h1;rw [zd];generalize n % b^j=r at *
 generalize b^j*(b*(n/b^(j+1)))=s at *
 generalize b^j*wd b n j=t at *
 omega
theorem aPx (hb:0<b) {n j x:Nat}(hx:x<b) (i:Nat):wd b (upd b n j x) i=if i=j then x else wd b n i:=by
 have hp:=qw (n:=j) hb;rw [aVi,gY hb _ _ _ (qt _ hp)]
 by_cases h:i<j
 ·rw [og h,oh oq,pQ hb _ _ _ h]
 ·rw [oh h];have:=gY hb x (n/b^(j+1)) 1 (by simpa using hx) (i-j);rw [Nat.pow_one]at this;rw [this]
  by_cases h2:i=j
  ·subst h2;simp [uQ hx]
  ·rw [oh oq,oh h2,oM,show j+1+(i-j-1)=i by omega]
theorem aCb (n j x:Nat) (h:wd b n j=0):upd b n j x=n+b^j*x:=by unfold upd;rw [h];simp
theorem aPv (s k:Nat):upd b (s % b^k) k (wd b s k)=s % b^(k+1):=by
 have h:wd b (s % b^k) k=0:=by
  rcases qi (b^k) with h0|h0
  ·unfold wd;rw [h0];simp
  ·exact gH (qt _ h0)
 rw [aCb _ _ _ h,dO]
theorem aRt (c P x Q:Nat):(c+(P+x*Q)) % b=(P % b+x*(Q % b)+c) % b:=by
 have h1:=qn P b;have h2:x*Q=x*(Q % b)+b*(x*(Q/b)):=by
  rw [Nat.mul_left_comm,←zd]
  congr 1
  have:=qn Q b;omega
 have:c+(P+x*Q)=(P % b+x*(Q % b)+c)+b*(P/b+x*(Q/b)):=by rw [zd];omega
 rw [this,vj]
def cmul (b U x m k:Nat):Nat:=(U % b^k+x*(m % b^k)) / b^k
theorem vM (U x m:Nat):cmul b U x m 0=0:=by simp [cmul,Nat.mod_one]
theorem aFi (hb:0<b) (U m k:Nat) {x:Nat}(hx:x<b):cmul b U x m k<b:=by
 have hp:=qw (n:=k) hb;have h1:=qt U hp;have h2:=qt m hp;unfold cmul;rw [qs hp];generalize U % b^k=u at *
 generalize m % b^k=v at *
 generalize b^k=p at *
 have h3:x*(v+1)≤x*p:=qr _ h2;have h4:(x+1)*p≤b*p:=ob _ hx;rw [zd]at h3;rw [zk]at h4;omega
theorem vL (hb:0<b) (U x m k:Nat):cmul b U x m (k+1)=(wd b U k+x*wd b m k+cmul b U x m k) / b:=by
 have hp:=qw (n:=k) hb;unfold cmul;rw [dO U,dO m,jf,←jd]
 congr 1
 rw [show U % b^k+b^k*wd b U k+x*(m % b^k+b^k*wd b m k)=(U % b^k+x*(m % b^k))+b^k*(wd b U k+x*wd b m k) by
  rw [zd,zd,Nat.mul_left_comm x];omega,jh _ _ hp]
 omega
theorem aGk (hb:0<b) (U x m k:Nat):wd b (U+x*m) k=(wd b U k+x*wd b m k+cmul b U x m k) % b:=by
 have hp:=qw (n:=k) hb;unfold wd cmul;have e:(U+x*m) / b^k=(U % b^k+x*(m % b^k)) / b^k+(U/b^k+x*(m/b^k)):=by
  have h1:=qn U (b^k);have h2:x*m=x*(m % b^k)+b^k*(x*(m/b^k)):=by
   rw [Nat.mul_left_comm,←zd]
   congr 1
   have:=qn m (b^k);omega
  have:U+x*m=(U % b^k+x*(m % b^k))+b^k*(U/b^k+x*(m/b^k)):=by rw [zd];omega
  rw [this,jh _ _ hp]
 rw [e,aRt]
def mrow (b a m i:Nat):Nat:=(a % b^i)*m
theorem wJ (a m i:Nat):mrow b a m (i+1)=mrow b a m i+b^i*(wd b a i*m):=by
 unfold mrow;rw [dO,zk,jc]
theorem yD (hb:0<b) {a m i l:Nat}(hm:m<b^l):mrow b a m i<b^(i+l):=by
 have hp:=qw (n:=i) hb;unfold mrow;rw [zj];exact yk (qt _ hp) hm
theorem wI (hb:0<b) (a m i:Nat):mrow b a m (i+1) / b^i=mrow b a m i/b^i+wd b a i*m:=by
 rw [wJ,jh _ _ (qw hb)]
theorem aNq (hb:0<b) (a m:Nat) {i j:Nat}(h:j<i):wd b (mrow b a m (i+1)) j=wd b (mrow b a m i) j:=by
 rw [←pQ hb _ i j h,wJ,vj,pQ hb _ i j h]
def mcar (b a m i k:Nat):Nat:=cmul b (mrow b a m i/b^i) (wd b a i) m k
theorem aIs (a m i:Nat):mcar b a m i 0=0:=vM _ _ _
theorem aFu (hb:0<b) (a m i k:Nat):mcar b a m i k<b:=aFi hb _ _ _ (aGl hb _ _)
theorem aIr (hb:0<b) (a m i k:Nat) :
 wd b (mrow b a m (i+1)) (i+k)=(wd b (mrow b a m i) (i+k)+wd b a i*wd b m k+mcar b a m i k) % b∧
 mcar b a m i (k+1)=(wd b (mrow b a m i) (i+k)+wd b a i*wd b m k+mcar b a m i k) / b:=by
 rw [←oM,←oM,wI hb];exact⟨aGk hb _ _ _ _,vL hb _ _ _ _⟩
theorem aNk (hb:0<b) {a m i l:Nat}(hm:m<b^l):mcar b a m i l=wd b (mrow b a m (i+1)) (i+l):=by
 have h:=yD (a:=a) (i:=i) hb hm;have hu:mrow b a m i/b^i<b^l:=by
  rw [qs (qw hb),←zj,xb];exact h
 rw [←oM,wI hb];have hc:=aFu hb a m i l;unfold mcar cmul at hc ⊢;rw [qc hu,qc hm]at hc ⊢;unfold wd at hc ⊢;exact (qc hc).symm
theorem aAu (hb:0<b) {a m i l j:Nat}(hm:m<b^l) (hj:i+l<j):wd b (mrow b a m i) j=wd b (mrow b a m (i+1)) j:=by
 rw [uP hb (yD hb hm) oq,uP hb (yD (i:=i+1) hb hm) oq]
theorem byword {n d:Nat}(hb:0<b) (hd:0<d) (i:Nat) :
 (n/b^(i+1) % d*b+wd b n i) / d=wd b (n/d) i∧(n/b^(i+1) % d*b+wd b n i) % d=n/b^i % d:=by
 have hw:=aGl hb n i;have h1:=cW (b:=b) n i;have h2:n/d/b^i=n/b^i/d:=by rw [jd,jd,qy]
 have h3:=qn (n/b^(i+1)) d;have hr:=qt (n/b^(i+1)) hd;unfold wd at h1 hw ⊢;rw [h2];generalize n/b^i % b=w at *
 generalize n/b^i=N at *
 generalize n/b^(i+1)=M at *
 generalize M % d=r at *
 generalize M/d=q at *
 subst h3;have e:N=(r*b+w)+d*(q*b):=by rw [h1,zk,jc];omega
 have hlt:(r*b+w) / d<b:=by
  rw [qs hd];have:(r+1)*b≤d*b:=ob b hr;rw [zk]at this;rw [qy b d];omega
 refine⟨?_,by rw [e,vj]⟩;rw [e,jh _ _ hd,Nat.add_mul_mod_self_right,qc hlt]
theorem aGr {d r w:Nat}(hr:r<d) (hw:w<b):r*b+w<d*b:=by
 have:(r+1)*b≤d*b:=ob b hr;rw [zk]at this;omega
theorem wA {p V B q uu v1:Nat}(hv:v1*B≤V) (hv1:0<v1) (hu:p<(uu+1)*B) (hq:q*V≤p):q≤uu/v1:=by
 rw [vp hv1];have h1:q*(v1*B)≤q*V:=qr q hv;have h2:(q*v1)*B<(uu+1)*B:=by rw [jc];omega
 have:=Nat.lt_of_mul_lt_mul_right h2;omega
theorem sV {p V C uu v1 v2 u2 g r:Nat}(hv:(v1*b+v2)*C≤V) (hu:p<(uu*b+u2+1)*C) (hr:g*v1+r=uu) (ht:r*b+u2<g*v2) (hq:g*V≤p):False:=by
 have h1:g*((v1*b+v2)*C)≤g*V:=qr g hv;have h2:(g*(v1*b+v2))*C<(uu*b+u2+1)*C:=by rw [jc];omega
 have h3:=Nat.lt_of_mul_lt_mul_right h2;rw [←hr,zd,←jc,zk]at h3;omega
end
theorem top1 {b n x:Nat}(hx:x<b^(n+1)):x/b^n=wd b x n:=by
 have h:=cW (b:=b) x n;rw [jk hx,Nat.zero_mul,ql]at h;exact h
theorem top2 {b n x:Nat}(hx:x<b^(n+2)):x/b^n=wd b x (n+1)*b+wd b x n:=by
 rw [cW x n,top1 hx]
theorem top3 {b n x:Nat}(hx:x<b^(n+3)):x/b^n=(wd b x (n+2)*b+wd b x (n+1))*b+wd b x n:=by
 rw [cW x n,top2 hx]
theorem nT {x p:Nat}(hp:0<p):x<(x/p+1)*p:=by
 have:=qn x p;have:=qt x hp;rw [zk,qy];omega
section
variable {D n1 n0 Y n32 u1 q r:Nat}
theorem aFn (hn:n32<Y) (hu:u1<D):(n32*D+u1) / Y<D:=by
 rw [qs oq];have:(n32+1)*D≤Y*D:=ob D hn;rw [zk]at this;rw [qy D Y];omega
theorem aIh (hY:Y=n1*D+n0) (h0:n0<D) (hn:n32<Y) (hu:u1<D) (h1:D≤2*n1) (hp:0<n1):n32/n1≤D+1∧(n32*D+u1) / Y≤n32/n1:=by
 constructor
 ·have:n32/n1<D+2:=by
   rw [qs hp,zk,qy D n1];omega
  omega
 ·have hYp:0<Y:=oq
  refine wA (p:=n32*D+u1) (V:=Y) (B:=D) (v1:=n1) oq hp (by rw [zk];omega) ?_;exact ve _ _
theorem wC (hY:Y=n1*D+n0) (_hu:u1<D) (hq:q*n1+r=n32) (ht:D*r+u1<q*n0):(n32*D+u1) / Y<q:=by
 refine kn fun hle=>?_;refine sV (b:=D) (p:=n32*D+u1) (V:=Y) (C:=1) (uu:=n32) (v1:=n1) (v2:=n0) (u2:=u1) (g:=q) (r:=r) oq oq hq (by rw [qy r D];exact ht) ?_;exact qg (ob Y hle) (ve _ _)
theorem sW (hY:Y=n1*D+n0) (hp:0<Y) (hq:q*n1+r=n32) (ht:q*n0≤D*r+u1) (hge:(n32*D+u1) / Y≤q):q=(n32*D+u1) / Y:=by
 refine Nat.le_antisymm ?_ hge;rw [vp hp,hY,←hq,zd,zk,←jc,qy r D];omega
theorem wB (hY:Y=n1*D+n0) (hp:0<Y) (h0:n0<D) (hq:q*n1+r=n32) (hr:D≤r) (hqD:q≤D) (hge:(n32*D+u1) / Y≤q):q=(n32*D+u1) / Y:=by
 refine sW hY hp hq ?_ hge;have h1:q*n0≤D*n0:=ob _ hqD;have h2:D*n0≤D*r:=qr _ oq;omega
theorem aMq {m1 m0:Nat}(hp:0<Y) :
 ((n32*D+m1)*D+m0) / Y=(n32*D+m1) / Y*D+((n32*D+m1) % Y*D+m0) / Y∧((n32*D+m1)*D+m0) % Y=((n32*D+m1) % Y*D+m0) % Y:=by
 have h1:=qn (n32*D+m1) Y;generalize (n32*D+m1) / Y=Q at *
 generalize (n32*D+m1) % Y=X at *
 have e:(n32*D+m1)*D+m0=(X*D+m0)+Y*(Q*D):=by
  rw [←h1,zk,jc];omega
 rw [e,jh _ _ hp,vj];exact⟨xb _ _,rfl⟩
end
theorem aPe (y P R:Nat) (hP:0<P) (hR:0<R):y/P % (P*R)=y % (P*R) / P+y/(P*R) % (P*R)*R % (P*R):=by
 have h1:=qn y (P*R);have h2:y % (P*R) / P<R:=by
  rw [qs hP,qy R P];exact qt _ (kf hP hR)
 have h3:y/P=y % (P*R) / P+R*(y/(P*R)):=by
  conv=>lhs;rw [←h1]
  rw [xb,jc,jh _ _ hP]
 generalize y % (P*R) / P=w at *
 generalize y/(P*R)=z at *
 rw [h3,qy P R,Nat.mod_mul,vj,qc h2,jh _ _ hR,jk h2,ql]
 congr 1
 rw [qy _ R,Nat.mul_mod_mul_left,Nat.mod_mul_left_mod]
theorem oF (x P R:Nat) (hP:0<P) (_hR:0<R):x*P % (P*R)=x % R*P∧x*P/(P*R)=x/R:=by
 constructor
 ·rw [qy x P,Nat.mul_mod_mul_left,qy]
 ·rw [qy x P,Nat.mul_div_mul_left _ _ hP]
theorem aVk {b P R:Nat}(hb:b=P*R) (hP:0<P) (hR:0<R) (m q i:Nat) :
 wd b (m/(b^q*P)) i=wd b m (i+q) / P+wd b m (i+q+1)*R % b:=by
 unfold wd;have e1:m/(b^q*P) / b^i=m/b^(i+q) / P:=by
  rw [jd,jd]
  congr 1
  rw [zj];ac_rfl
 have e2:m/b^(i+q+1)=m/b^(i+q) / b:=by rw [jf,jd]
 rw [e1,e2,hb];exact aPe _ P R hP hR
theorem aPd {b P R:Nat}(hb:b=P*R) (hP:0<P) (hR:0<R) {M j x:Nat}(hM:M<b^j*P) (_hx:x<b) :
 wd b M j<P∧wd b M j+x*P % b<b∧upd b (upd b M j (wd b M j+x*P % b)) (j+1) (x/R)=M+b^j*(x*P):=by
 have hb0:0<b:=by rw [hb];exact kf hP hR
 have hp:=qw (n:=j) hb0;have hu:M/b^j<P:=(qs hp).2 (by rw [qy];exact hM);have hPb:P≤b:=by rw [hb];exact xv _ hR
 have ew:wd b M j=M/b^j:=qc oq;have hc:=oF x P R hP hR;rw [←hb]at hc;have hlo:wd b M j+x*P % b<b:=by
  rw [ew,hc.1];have h1:x % R*P+P≤b:=by
   have:(x % R+1)*P≤R*P:=ob P (qt _ hR);rw [hb,qy P R]
   rwa [jr]at this
  omega
 refine⟨by rw [ew];exact hu,hlo,?_⟩;have hM2:M<b^(j+1):=by
  rw [jf];exact qk hM (qr _ hPb)
 have h0:wd b (upd b M j (wd b M j+x*P % b)) (j+1)=0:=by
  rw [aPx hb0 hlo,oh oq];exact gH hM2
 rw [aCb _ _ _ h0];unfold upd;have hpart:=aSz (b:=b) M j;have hdm:=qn (x*P) b;rw [hc.2]at hdm;have:b^j*(x*P)=b^(j+1)*(x/R)+b^j*(x*P % b):=by
  conv=>lhs;rw [←hdm]
  rw [zd,jf,jc]
 rw [this,zd];omega
def bl (n:Nat):Nat:=if n=0 then 0 else n.log2+1
theorem vF {n k:Nat}:bl n≤k↔n<2^k:=by
 unfold bl
 by_cases h:n=0
 ·simp [h,Nat.pow_pos]
 ·rw [oh h,←Nat.log2_lt h];omega
theorem aQf:bl 0=0:=rfl
theorem aFs (n:Nat):n<2^bl n:=vF.1 (oy _)
theorem uO {n:Nat}(h:n≠0):2^(bl n-1)≤n:=by
 unfold bl;rw [oh h];exact (Nat.le_log2 h).1 (oy _)
def nwk (k n:Nat):Nat:=(bl n+(k-1)) / k
theorem aSb {k:Nat}(hk:0<k) (n:Nat):Len (2^k) n (nwk k n):=by
 unfold nwk;constructor
 ·rw [←Nat.pow_mul,←vF];have:=qn (bl n+(k-1)) k;have:=qt (bl n+(k-1)) hk;omega
 ·intro h;rw [←Nat.pow_mul];have h0:n≠0:=by
   intro e;subst e;simp only [aQf,ql]at h;rw [jk oq]at h;omega
  refine qg (qa oq ?_) (uO h0);have h1:=qn (bl n+(k-1)) k;have:=Nat.mul_sub k ((bl n+(k-1)) / k) 1;have:=qt (bl n+(k-1)) hk;omega
theorem aUt {k:Nat}(hk:0<k) (n:Nat):nwk k n≤bl n:=by
 unfold nwk;rcases qi (bl n) with h|h
 ·rw [h,jk oq];omega
 ·apply Nat.le_of_lt_succ;rw [qs hk];have:bl n*k ≥ bl n:=xv _ hk;have:1*k≤bl n*k:=ob k h;rw [jr];omega
