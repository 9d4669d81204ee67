import Derived.Test.YtpeakfmjibfkpaaGreatWhAA
namespace Go.Proofs.YtpeakfmjibfkpaaGreat.Num
def wd (b n i:Nat):Nat:=n/b^i % b
structure Len (b n k:Nat):Prop where
 lt:n<b^k
 le:0<k→b^(k-1)≤n
section
variable {b:Nat} 
theorem aDw (hb:0<b) (n i:Nat):wd b n i<b:=Nat.mod_lt _ hb
theorem gZ {n i:Nat}(h:n<b^i):wd b n i=0:=by
 unfold wd;rw [Nat.div_eq_of_lt h];simp
theorem sO (hb:0<b) {n i k:Nat}(h:n<b^k) (hi:k≤i):wd b n i=0:=
 gZ (Nat.lt_of_lt_of_le h (Nat.pow_le_pow_right hb hi))
theorem dQ (n i:Nat):n % b^(i+1)=n % b^i+b^i*wd b n i:=Nat.mod_pow_succ
theorem dF (n i:Nat):n/b^i=n/b^(i+1)*b+wd b n i:=by
 unfold wd;rw [Nat.pow_succ,←Nat.div_div_eq_div_mul,Nat.mul_comm];exact (Nat.div_add_mod _ _).symm
theorem Len.zero (hb:0<b) {k:Nat}(h:Len b 0 k):k=0:=by
 rcases Nat.eq_zero_or_pos k with h0|h0
 ·exact h0
 ·have:=h.le h0;have:=Nat.pow_pos (n:=k-1) hb;omega
theorem Len.pos {n k:Nat}(h:Len b n k) (hb:0<b) (hk:0<k):0<n:=by
 have:=h.le hk;have:=Nat.pow_pos (n:=k-1) hb;omega
theorem Len.eq_zero {n:Nat}(h:Len b n 0):n=0:=by have:=h.lt;simp at this;exact this
theorem Len.nil:Len b 0 0:=⟨by simp,fun h=>absurd h oq⟩
theorem Len.zero_iff {n k:Nat}(h:Len b n k) (hb:0<b):k=0↔n=0:=
 ⟨fun e=>by subst e;exact h.eq_zero,fun e=>by subst e;exact h.zero hb⟩
theorem Len.lt_of {n m k l:Nat}(hb:0<b) (h:Len b n k) (h':Len b m l) (hk:k<l):n<m:=by
 have h1:=h.lt;have h2:=h'.le oq;have:=Nat.pow_le_pow_right hb (show k≤l-1 by omega);omega
theorem Len.unique {n k l:Nat}(hb:0<b) (h:Len b n k) (h':Len b n l):k=l:=by
 rcases Nat.lt_trichotomy k l with h1|h1|h1
 ·have:=h.lt_of hb h' h1;omega
 ·exact h1
 ·have:=h'.lt_of hb h h1;omega
theorem Len.top {n k:Nat}(hb:0<b) (h:Len b n k) (hk:0<k):wd b n (k-1)≠0:=by
 intro e;have h1:=dF (b:=b) n (k-1);rw [e,show k-1+1=k by omega,Nat.div_eq_of_lt h.lt]at h1;have h2:=h.le hk;have:=(Nat.le_div_iff_mul_le (Nat.pow_pos (n:=k-1) hb)).2 (by rw [Nat.one_mul];exact h2);omega
theorem Len.of_top {n k:Nat}(h:n<b^k) (ht:0<k→wd b n (k-1)≠0):Len b n k:=by
 refine⟨h,fun hk=>?_⟩;have h1:=ht hk;refine Nat.le_of_not_lt fun hlt=>h1 (gZ hlt)
theorem xO {n k:Nat}(hb:0<b) (h:n<b^(k+1)) (ht:wd b n k=0):n<b^k:=by
 have h1:=dF (b:=b) n k;rw [ht,Nat.div_eq_of_lt h]at h1;have hp:=Nat.pow_pos (n:=k) hb;refine Nat.lt_of_not_le fun hle=>?_;have:=(Nat.le_div_iff_mul_le hp).2 (by rw [Nat.one_mul];exact hle);omega
theorem Len.one {n:Nat}(h:n<b) (hn:0<n):Len b n 1:=⟨by simpa using h,fun _=>by simp;omega⟩
theorem pQ {n:Nat}(h:n<b):wd b n 0=n:=by
 unfold wd;simp [Nat.mod_eq_of_lt h]
theorem Len.val1 {n:Nat}(h:Len b n 1):wd b n 0=n:=pQ (by simpa using h.lt)
theorem zG {n m i:Nat}(h:n/b^(i+1)=m/b^(i+1)) (hw:wd b n i<wd b m i):n<m:=by
 have h1:=dF (b:=b) n i;have h2:=dF (b:=b) m i;rw [h]at h1;refine Nat.lt_of_not_le fun hle=>?_;have:=Nat.div_le_div_right (c:=b^i) hle;omega
theorem aOg {n m i:Nat}(h:n/b^(i+1)=m/b^(i+1)) (hw:wd b n i=wd b m i):n/b^i=m/b^i:=by
 rw [dF n i,dF m i,h,hw]
def carry (b n m k:Nat):Nat:=(n % b^k+m % b^k) / b^k
theorem tN (n m:Nat):carry b n m 0=0:=by simp [carry,Nat.mod_one]
theorem aBf (hb:0<b) (n m k:Nat):carry b n m k≤1:=by
 have hp:=Nat.pow_pos (n:=k) hb;have h1:=Nat.mod_lt n hp;have h2:=Nat.mod_lt m hp;unfold carry;have:(n % b^k+m % b^k) / b^k<2:=(Nat.div_lt_iff_lt_mul hp).2 oq;omega
theorem tM (hb:0<b) (n m k:Nat):carry b n m (k+1)=(wd b n k+wd b m k+carry b n m k) / b:=by
 have hp:=Nat.pow_pos (n:=k) hb;unfold carry;rw [dQ n,dQ m,Nat.pow_succ,←Nat.div_div_eq_div_mul]
 congr 1
 rw [show n % b^k+b^k*wd b n k+(m % b^k+b^k*wd b m k)=(n % b^k+m % b^k)+b^k*(wd b n k+wd b m k) by rw [Nat.mul_add];omega,Nat.add_mul_div_left _ _ hp];omega
theorem aGv (hb:0<b) (n m k:Nat):wd b (n+m) k=(wd b n k+wd b m k+carry b n m k) % b:=by
 have hp:=Nat.pow_pos (n:=k) hb;unfold wd carry;have e:(n+m) / b^k=n/b^k+m/b^k+(n % b^k+m % b^k) / b^k:=by
  have h1:=Nat.div_add_mod n (b^k);have h2:=Nat.div_add_mod m (b^k);have:n+m=(n % b^k+m % b^k)+b^k*(n/b^k+m/b^k):=by rw [Nat.mul_add];omega
  rw [this,Nat.add_mul_div_left _ _ hp];omega
 rw [e];simp [Nat.add_mod]
theorem aIy {n m k:Nat}(hn:n<b^k) (hm:m<b^k):carry b n m k=(n+m) / b^k:=by
 unfold carry;rw [Nat.mod_eq_of_lt hn,Nat.mod_eq_of_lt hm]
def borrow (b n m k:Nat):Nat:=if n % b^k<m % b^k then 1 else 0
theorem rL (n m:Nat):borrow b n m 0=0:=by simp [borrow,Nat.mod_one]
theorem qB (n m k:Nat):borrow b n m k≤1:=by unfold borrow;split <;> omega
theorem rK (hb:0<b) (n m k:Nat):borrow b n m (k+1)=if wd b n k<wd b m k+borrow b n m k then 1 else 0:=by
 have hp:=Nat.pow_pos (n:=k) hb;have h1:=Nat.mod_lt n hp;have h2:=Nat.mod_lt m hp;unfold borrow;rw [dQ n,dQ m];generalize n % b^k=x at *
 generalize m % b^k=y at *
 generalize wd b n k=u;generalize wd b m k=v;generalize b^k=p at *
 by_cases h:x<y
 ·rw [if_pos h]
  by_cases h':u<v+1
  ·rw [if_pos h',if_pos];have:p*u≤p*v:=Nat.mul_le_mul_left p oq;omega
  ·rw [if_neg h',if_neg];have:p*(v+1)≤p*u:=Nat.mul_le_mul_left p oq;rw [Nat.mul_add]at this;omega
 ·rw [if_neg h]
  by_cases h':u<v+0
  ·rw [if_pos h',if_pos];have:p*(u+1)≤p*v:=Nat.mul_le_mul_left p oq;rw [Nat.mul_add]at this;omega
  ·rw [if_neg h',if_neg];have:p*v≤p*u:=Nat.mul_le_mul_left p oq;omega
theorem aSu (hb:0<b) {n m:Nat}(h:m≤n) (k:Nat):wd b (n-m) k=(wd b n k+b-wd b m k-borrow b n m k) % b:=by
 have e:=aGv hb (n-m) m k;rw [Nat.sub_add_cancel h]at e;have hc:carry b (n-m) m k=borrow b n m k:=by
  have hp:=Nat.pow_pos (n:=k) hb;have h1:=Nat.mod_lt (n-m) hp;have h2:=Nat.mod_lt m hp;have h3:n % b^k=((n-m) % b^k+m % b^k) % b^k:=by rw [←Nat.add_mod,Nat.sub_add_cancel h]
  unfold carry borrow;rw [h3];generalize (n-m) % b^k=x at *
  generalize m % b^k=y at *
  generalize b^k=p at *
  by_cases hx:x+y<p
  ·rw [Nat.mod_eq_of_lt hx,Nat.div_eq_of_lt hx,if_neg oq]
  ·have:(x+y) % p=x+y-p:=by rw [Nat.mod_eq_sub_mod oq,Nat.mod_eq_of_lt oq]
   rw [this,if_pos oq];have:(x+y) / p=1:=by
    rw [Nat.div_eq_sub_div hp oq,Nat.div_eq_of_lt oq]
   exact this
 rw [hc]at e;have h1:=aDw hb (n-m) k;have h2:=aDw hb m k;have h3:=qB (b:=b) n m k;rw [e];generalize wd b (n-m) k=x at *
 generalize wd b m k=y at *
 generalize borrow b n m k=z at *
 by_cases hx:x+y+z<b
 ·rw [Nat.mod_eq_of_lt hx,show x+y+z+b-y-z=x+b by omega,Nat.add_mod_right,Nat.mod_eq_of_lt h1]
 ·have:(x+y+z) % b=x+y+z-b:=by rw [Nat.mod_eq_sub_mod oq,Nat.mod_eq_of_lt oq]
  rw [this,show x+y+z-b+b-y-z=x by omega,Nat.mod_eq_of_lt h1]
def upd (b n j x:Nat):Nat:=n-b^j*wd b n j+b^j*x
theorem aIr (n j:Nat):b^j*wd b n j≤n:=
 Nat.le_trans (by rw [dQ];exact Nat.le_add_left _ _) (Nat.mod_le n (b^(j+1)))
theorem dW (hb:0<b) (x y k:Nat) (hx:x<b^k) (i:Nat):wd b (x+b^k*y) i=if i<k then wd b x i else wd b y (i-k):=by
 have hp:=Nat.pow_pos (n:=k) hb;split
 ·rename_i h;unfold wd;have e:b^k=b^i*b*b^(k-i-1):=by
   rw [←Nat.pow_succ,←Nat.pow_add];congr 1;omega
  rw [e,Nat.mul_assoc,Nat.mul_assoc,Nat.add_mul_div_left _ _ (Nat.pow_pos hb),Nat.add_mul_mod_self_left]
 ·rename_i h;unfold wd;have e:b^i=b^k*b^(i-k):=by rw [←Nat.pow_add];congr 1;omega
  rw [e,←Nat.div_div_eq_div_mul,Nat.add_mul_div_left _ _ hp,Nat.div_eq_of_lt hx,Nat.zero_add]
theorem nV (hb:0<b) (n k i:Nat) (h:i<k):wd b (n % b^k) i=wd b n i:=by
 have hp:=Nat.pow_pos (n:=k) hb;have:=dW hb (n % b^k) (n/b^k) k (Nat.mod_lt _ hp) i;rw [Nat.add_comm,Nat.div_add_mod,if_pos h]at this;exact this.symm
theorem kQ (n k i:Nat):wd b (n/b^k) i=wd b n (k+i):=by
 unfold wd;rw [Nat.div_div_eq_div_mul,←Nat.pow_add]
theorem aZh (n j x:Nat):upd b n j x=n % b^j+b^j*(x+b*(n/b^(j+1))):=by
 unfold upd;have h1:=Nat.div_add_mod n (b^j);rw [dF n j,Nat.mul_add,Nat.mul_comm (n/b^(j+1)) b]at h1;rw [Nat.mul_add];generalize n % b^j=r at *
 generalize b^j*(b*(n/b^(j+1)))=s at *
 generalize b^j*wd b n j=t at *
 omega
theorem aSv (hb:0<b) {n j x:Nat}(hx:x<b) (i:Nat):wd b (upd b n j x) i=if i=j then x else wd b n i:=by
 have hp:=Nat.pow_pos (n:=j) hb;rw [aZh,dW hb _ _ _ (Nat.mod_lt _ hp)]
 by_cases h:i<j
 ·rw [if_pos h,if_neg oq,nV hb _ _ _ h]
 ·rw [if_neg h];have:=dW hb x (n/b^(j+1)) 1 (by simpa using hx) (i-j);rw [Nat.pow_one]at this;rw [this]
  by_cases h2:i=j
  ·subst h2;simp [pQ hx]
  ·rw [if_neg oq,if_neg h2,kQ,show j+1+(i-j-1)=i by omega]
theorem aDv (n j x:Nat) (h:wd b n j=0):upd b n j x=n+b^j*x:=by unfold upd;rw [h];simp
theorem aSs (s k:Nat):upd b (s % b^k) k (wd b s k)=s % b^(k+1):=by
 have h:wd b (s % b^k) k=0:=by
  rcases Nat.eq_zero_or_pos (b^k) with h0|h0
  ·unfold wd;rw [h0];simp
  ·exact gZ (Nat.mod_lt _ h0)
 rw [aDv _ _ _ h,dQ]
theorem aUq (c P x Q:Nat):(c+(P+x*Q)) % b=(P % b+x*(Q % b)+c) % b:=by
 have h1:=Nat.div_add_mod P b;have h2:x*Q=x*(Q % b)+b*(x*(Q/b)):=by
  rw [Nat.mul_left_comm,←Nat.mul_add]
  congr 1
  have:=Nat.div_add_mod Q b;omega
 have:c+(P+x*Q)=(P % b+x*(Q % b)+c)+b*(P/b+x*(Q/b)):=by rw [Nat.mul_add];omega
 rw [this,Nat.add_mul_mod_self_left]
def cmul (b U x m k:Nat):Nat:=(U % b^k+x*(m % b^k)) / b^k
theorem wX (U x m:Nat):cmul b U x m 0=0:=by simp [cmul,Nat.mod_one]
theorem aHk (hb:0<b) (U m k:Nat) {x:Nat}(hx:x<b):cmul b U x m k<b:=by
 have hp:=Nat.pow_pos (n:=k) hb;have h1:=Nat.mod_lt U hp;have h2:=Nat.mod_lt m hp;unfold cmul;rw [Nat.div_lt_iff_lt_mul hp];generalize U % b^k=u at *
 generalize m % b^k=v at *
 generalize b^k=p at *
 have h3:x*(v+1)≤x*p:=Nat.mul_le_mul_left _ h2;have h4:(x+1)*p≤b*p:=Nat.mul_le_mul_right _ hx;rw [Nat.mul_add]at h3;rw [Nat.add_mul]at h4;omega
theorem wW (hb:0<b) (U x m k:Nat):cmul b U x m (k+1)=(wd b U k+x*wd b m k+cmul b U x m k) / b:=by
 have hp:=Nat.pow_pos (n:=k) hb;unfold cmul;rw [dQ U,dQ m,Nat.pow_succ,←Nat.div_div_eq_div_mul]
 congr 1
 rw [show U % b^k+b^k*wd b U k+x*(m % b^k+b^k*wd b m k)=(U % b^k+x*(m % b^k))+b^k*(wd b U k+x*wd b m k) by
  rw [Nat.mul_add,Nat.mul_add,Nat.mul_left_comm x];omega,Nat.add_mul_div_left _ _ hp]
 omega
theorem aIq (hb:0<b) (U x m k:Nat):wd b (U+x*m) k=(wd b U k+x*wd b m k+cmul b U x m k) % b:=by
 have hp:=Nat.pow_pos (n:=k) hb;unfold wd cmul;have e:(U+x*m) / b^k=(U % b^k+x*(m % b^k)) / b^k+(U/b^k+x*(m/b^k)):=by
  have h1:=Nat.div_add_mod U (b^k);have h2:x*m=x*(m % b^k)+b^k*(x*(m/b^k)):=by
   rw [Nat.mul_left_comm,←Nat.mul_add]
   congr 1
   have:=Nat.div_add_mod m (b^k);omega
  have:U+x*m=(U % b^k+x*(m % b^k))+b^k*(U/b^k+x*(m/b^k)):=by rw [Nat.mul_add];omega
  rw [this,Nat.add_mul_div_left _ _ hp]
 rw [e,aUq]
def mrow (b a m i:Nat):Nat:=(a % b^i)*m
theorem xU (a m i:Nat):mrow b a m (i+1)=mrow b a m i+b^i*(wd b a i*m):=by
 unfold mrow;rw [dQ,Nat.add_mul,Nat.mul_assoc]
theorem tB (hb:0<b) {a m i l:Nat}(hm:m<b^l):mrow b a m i<b^(i+l):=by
 have hp:=Nat.pow_pos (n:=i) hb;unfold mrow;rw [Nat.pow_add];exact Nat.mul_lt_mul'' (Nat.mod_lt _ hp) hm
theorem xT (hb:0<b) (a m i:Nat):mrow b a m (i+1) / b^i=mrow b a m i/b^i+wd b a i*m:=by
 rw [xU,Nat.add_mul_div_left _ _ (Nat.pow_pos hb)]
theorem aCj (hb:0<b) (a m:Nat) {i j:Nat}(h:j<i):wd b (mrow b a m (i+1)) j=wd b (mrow b a m i) j:=by
 rw [←nV hb _ i j h,xU,Nat.add_mul_mod_self_left,nV hb _ i j h]
def mcar (b a m i k:Nat):Nat:=cmul b (mrow b a m i/b^i) (wd b a i) m k
theorem xQ (a m i:Nat):mcar b a m i 0=0:=wX _ _ _
theorem zY (hb:0<b) (a m i k:Nat):mcar b a m i k<b:=aHk hb _ _ _ (aDw hb _ _)
theorem xP (hb:0<b) (a m i k:Nat) :
 wd b (mrow b a m (i+1)) (i+k)=(wd b (mrow b a m i) (i+k)+wd b a i*wd b m k+mcar b a m i k) % b∧
 mcar b a m i (k+1)=(wd b (mrow b a m i) (i+k)+wd b a i*wd b m k+mcar b a m i k) / b:=by
 rw [←kQ,←kQ,xT hb];exact⟨aIq hb _ _ _ _,wW hb _ _ _ _⟩
theorem aCh (hb:0<b) {a m i l:Nat}(hm:m<b^l):mcar b a m i l=wd b (mrow b a m (i+1)) (i+l):=by
 have h:=tB (a:=a) (i:=i) hb hm;have hu:mrow b a m i/b^i<b^l:=by
  rw [Nat.div_lt_iff_lt_mul (Nat.pow_pos hb),←Nat.pow_add,Nat.add_comm];exact h
 rw [←kQ,xT hb];have hc:=zY hb a m i l;unfold mcar cmul at hc ⊢;rw [Nat.mod_eq_of_lt hu,Nat.mod_eq_of_lt hm]at hc ⊢;unfold wd at hc ⊢;exact (Nat.mod_eq_of_lt hc).symm
theorem rY (hb:0<b) {a m i l j:Nat}(hm:m<b^l) (hj:i+l<j):wd b (mrow b a m i) j=wd b (mrow b a m (i+1)) j:=by
 rw [sO hb (tB hb hm) oq,sO hb (tB (i:=i+1) hb hm) oq]
theorem byword {n d:Nat}(hb:0<b) (hd:0<d) (i:Nat) :
 (n/b^(i+1) % d*b+wd b n i) / d=wd b (n/d) i∧(n/b^(i+1) % d*b+wd b n i) % d=n/b^i % d:=by
 have hw:=aDw hb n i;have h1:=dF (b:=b) n i;have h2:n/d/b^i=n/b^i/d:=by rw [Nat.div_div_eq_div_mul,Nat.div_div_eq_div_mul,Nat.mul_comm]
 have h3:=Nat.div_add_mod (n/b^(i+1)) d;have hr:=Nat.mod_lt (n/b^(i+1)) hd;unfold wd at h1 hw ⊢;rw [h2];generalize n/b^i % b=w at *
 generalize n/b^i=N at *
 generalize n/b^(i+1)=M at *
 generalize M % d=r at *
 generalize M/d=q at *
 subst h3;have e:N=(r*b+w)+d*(q*b):=by rw [h1,Nat.add_mul,Nat.mul_assoc];omega
 have hlt:(r*b+w) / d<b:=by
  rw [Nat.div_lt_iff_lt_mul hd];have:(r+1)*b≤d*b:=Nat.mul_le_mul_right b hr;rw [Nat.add_mul]at this;rw [Nat.mul_comm b d];omega
 refine⟨?_,by rw [e,Nat.add_mul_mod_self_left]⟩;rw [e,Nat.add_mul_div_left _ _ hd,Nat.add_mul_mod_self_right,Nat.mod_eq_of_lt hlt]
theorem aIx {d r w:Nat}(hr:r<d) (hw:w<b):r*b+w<d*b:=by
 have:(r+1)*b≤d*b:=Nat.mul_le_mul_right b hr;rw [Nat.add_mul]at this;omega
theorem qK {p V B q uu v1:Nat}(hv:v1*B≤V) (hv1:0<v1) (hu:p<(uu+1)*B) (hq:q*V≤p):q≤uu/v1:=by
 rw [Nat.le_div_iff_mul_le hv1];have h1:q*(v1*B)≤q*V:=Nat.mul_le_mul_left q hv;have h2:(q*v1)*B<(uu+1)*B:=by rw [Nat.mul_assoc];omega
 have:=Nat.lt_of_mul_lt_mul_right h2;omega
theorem uE {p V C uu v1 v2 u2 g r:Nat}(hv:(v1*b+v2)*C≤V) (hu:p<(uu*b+u2+1)*C) (hr:g*v1+r=uu) (ht:r*b+u2<g*v2) (hq:g*V≤p):False:=by
 have h1:g*((v1*b+v2)*C)≤g*V:=Nat.mul_le_mul_left g hv;have h2:(g*(v1*b+v2))*C<(uu*b+u2+1)*C:=by rw [Nat.mul_assoc];omega
 have h3:=Nat.lt_of_mul_lt_mul_right h2;rw [←hr,Nat.mul_add,←Nat.mul_assoc,Nat.add_mul]at h3;omega
end
theorem top1 {b n x:Nat}(hx:x<b^(n+1)):x/b^n=wd b x n:=by
 have h:=dF (b:=b) x n;rw [Nat.div_eq_of_lt hx,Nat.zero_mul,Nat.zero_add]at h;exact h
theorem top2 {b n x:Nat}(hx:x<b^(n+2)):x/b^n=wd b x (n+1)*b+wd b x n:=by
 rw [dF x n,top1 hx]
theorem top3 {b n x:Nat}(hx:x<b^(n+3)):x/b^n=(wd b x (n+2)*b+wd b x (n+1))*b+wd b x n:=by
 rw [dF x n,top2 hx]
theorem oS {x p:Nat}(hp:0<p):x<(x/p+1)*p:=by
 have:=Nat.div_add_mod x p;have:=Nat.mod_lt x hp;rw [Nat.add_mul,Nat.mul_comm];omega
section
variable {D n1 n0 Y n32 u1 q r:Nat}
theorem aHq (hn:n32<Y) (hu:u1<D):(n32*D+u1) / Y<D:=by
 rw [Nat.div_lt_iff_lt_mul oq];have:(n32+1)*D≤Y*D:=Nat.mul_le_mul_right D hn;rw [Nat.add_mul]at this;rw [Nat.mul_comm D Y];omega
theorem aKl (hY:Y=n1*D+n0) (h0:n0<D) (hn:n32<Y) (hu:u1<D) (h1:D≤2*n1) (hp:0<n1):n32/n1≤D+1∧(n32*D+u1) / Y≤n32/n1:=by
 constructor
 ·have:n32/n1<D+2:=by
   rw [Nat.div_lt_iff_lt_mul hp,Nat.add_mul,Nat.mul_comm D n1];omega
  omega
 ·have hYp:0<Y:=oq
  refine qK (p:=n32*D+u1) (V:=Y) (B:=D) (v1:=n1) oq hp (by rw [Nat.add_mul];omega) ?_;exact Nat.div_mul_le_self _ _
theorem xK (hY:Y=n1*D+n0) (_hu:u1<D) (hq:q*n1+r=n32) (ht:D*r+u1<q*n0):(n32*D+u1) / Y<q:=by
 refine Nat.lt_of_not_le fun hle=>?_;refine uE (b:=D) (p:=n32*D+u1) (V:=Y) (C:=1) (uu:=n32) (v1:=n1) (v2:=n0) (u2:=u1) (g:=q) (r:=r) oq oq hq (by rw [Nat.mul_comm r D];exact ht) ?_;exact Nat.le_trans (Nat.mul_le_mul_right Y hle) (Nat.div_mul_le_self _ _)
theorem uF (hY:Y=n1*D+n0) (hp:0<Y) (hq:q*n1+r=n32) (ht:q*n0≤D*r+u1) (hge:(n32*D+u1) / Y≤q):q=(n32*D+u1) / Y:=by
 refine Nat.le_antisymm ?_ hge;rw [Nat.le_div_iff_mul_le hp,hY,←hq,Nat.mul_add,Nat.add_mul,←Nat.mul_assoc,Nat.mul_comm r D];omega
theorem xJ (hY:Y=n1*D+n0) (hp:0<Y) (h0:n0<D) (hq:q*n1+r=n32) (hr:D≤r) (hqD:q≤D) (hge:(n32*D+u1) / Y≤q):q=(n32*D+u1) / Y:=by
 refine uF hY hp hq ?_ hge;have h1:q*n0≤D*n0:=Nat.mul_le_mul_right _ hqD;have h2:D*n0≤D*r:=Nat.mul_le_mul_left _ oq;omega
theorem aPb {m1 m0:Nat}(hp:0<Y) :
 ((n32*D+m1)*D+m0) / Y=(n32*D+m1) / Y*D+((n32*D+m1) % Y*D+m0) / Y∧((n32*D+m1)*D+m0) % Y=((n32*D+m1) % Y*D+m0) % Y:=by
 have h1:=Nat.div_add_mod (n32*D+m1) Y;generalize (n32*D+m1) / Y=Q at *
 generalize (n32*D+m1) % Y=X at *
 have e:(n32*D+m1)*D+m0=(X*D+m0)+Y*(Q*D):=by
  rw [←h1,Nat.add_mul,Nat.mul_assoc];omega
 rw [e,Nat.add_mul_div_left _ _ hp,Nat.add_mul_mod_self_left];exact⟨Nat.add_comm _ _,rfl⟩
end
theorem aSe (y P R:Nat) (hP:0<P) (hR:0<R):y/P % (P*R)=y % (P*R) / P+y/(P*R) % (P*R)*R % (P*R):=by
 have h1:=Nat.div_add_mod y (P*R);have h2:y % (P*R) / P<R:=by
  rw [Nat.div_lt_iff_lt_mul hP,Nat.mul_comm R P];exact Nat.mod_lt _ (Nat.mul_pos hP hR)
 have h3:y/P=y % (P*R) / P+R*(y/(P*R)):=by
  conv=>lhs;rw [←h1]
  rw [Nat.add_comm,Nat.mul_assoc,Nat.add_mul_div_left _ _ hP]
 generalize y % (P*R) / P=w at *
 generalize y/(P*R)=z at *
 rw [h3,Nat.mul_comm P R,Nat.mod_mul,Nat.add_mul_mod_self_left,Nat.mod_eq_of_lt h2,Nat.add_mul_div_left _ _ hR,Nat.div_eq_of_lt h2,Nat.zero_add]
 congr 1
 rw [Nat.mul_comm _ R,Nat.mul_mod_mul_left,Nat.mod_mul_left_mod]
theorem lN (x P R:Nat) (hP:0<P) (_hR:0<R):x*P % (P*R)=x % R*P∧x*P/(P*R)=x/R:=by
 constructor
 ·rw [Nat.mul_comm x P,Nat.mul_mod_mul_left,Nat.mul_comm]
 ·rw [Nat.mul_comm x P,Nat.mul_div_mul_left _ _ hP]
theorem aSt {b P R:Nat}(hb:b=P*R) (hP:0<P) (hR:0<R) (m q i:Nat) :
 wd b (m/(b^q*P)) i=wd b m (i+q) / P+wd b m (i+q+1)*R % b:=by
 unfold wd;have e1:m/(b^q*P) / b^i=m/b^(i+q) / P:=by
  rw [Nat.div_div_eq_div_mul,Nat.div_div_eq_div_mul]
  congr 1
  rw [Nat.pow_add];ac_rfl
 have e2:m/b^(i+q+1)=m/b^(i+q) / b:=by rw [Nat.pow_succ,Nat.div_div_eq_div_mul]
 rw [e1,e2,hb];exact aSe _ P R hP hR
theorem aSd {b P R:Nat}(hb:b=P*R) (hP:0<P) (hR:0<R) {M j x:Nat}(hM:M<b^j*P) (_hx:x<b) :
 wd b M j<P∧wd b M j+x*P % b<b∧upd b (upd b M j (wd b M j+x*P % b)) (j+1) (x/R)=M+b^j*(x*P):=by
 have hb0:0<b:=by rw [hb];exact Nat.mul_pos hP hR
 have hp:=Nat.pow_pos (n:=j) hb0;have hu:M/b^j<P:=(Nat.div_lt_iff_lt_mul hp).2 (by rw [Nat.mul_comm];exact hM);have hPb:P≤b:=by rw [hb];exact Nat.le_mul_of_pos_right _ hR
 have ew:wd b M j=M/b^j:=Nat.mod_eq_of_lt oq;have hc:=lN x P R hP hR;rw [←hb]at hc;have hlo:wd b M j+x*P % b<b:=by
  rw [ew,hc.1];have h1:x % R*P+P≤b:=by
   have:(x % R+1)*P≤R*P:=Nat.mul_le_mul_right P (Nat.mod_lt _ hR);rw [hb,Nat.mul_comm P R]
   rwa [Nat.succ_mul]at this
  omega
 refine⟨by rw [ew];exact hu,hlo,?_⟩;have hM2:M<b^(j+1):=by
  rw [Nat.pow_succ];exact Nat.lt_of_lt_of_le hM (Nat.mul_le_mul_left _ hPb)
 have h0:wd b (upd b M j (wd b M j+x*P % b)) (j+1)=0:=by
  rw [aSv hb0 hlo,if_neg oq];exact gZ hM2
 rw [aDv _ _ _ h0];unfold upd;have hpart:=aIr (b:=b) M j;have hdm:=Nat.div_add_mod (x*P) b;rw [hc.2]at hdm;have:b^j*(x*P)=b^(j+1)*(x/R)+b^j*(x*P % b):=by
  conv=>lhs;rw [←hdm]
  rw [Nat.mul_add,Nat.pow_succ,Nat.mul_assoc]
 rw [this,Nat.mul_add];omega
def bl (n:Nat):Nat:=if n=0 then 0 else n.log2+1
theorem kR {n k:Nat}:bl n≤k↔n<2^k:=by
 unfold bl
 by_cases h:n=0
 ·simp [h,Nat.pow_pos]
 ·rw [if_neg h,←Nat.log2_lt h];omega
theorem aTb:bl 0=0:=rfl
theorem mT (n:Nat):n<2^bl n:=kR.1 (oy _)
theorem nU {n:Nat}(h:n≠0):2^(bl n-1)≤n:=by
 unfold bl;rw [if_neg h];exact (Nat.le_log2 h).1 (oy _)
def nwk (k n:Nat):Nat:=(bl n+(k-1)) / k
theorem aHy {k:Nat}(hk:0<k) (n:Nat):Len (2^k) n (nwk k n):=by
 unfold nwk;constructor
 ·rw [←Nat.pow_mul,←kR];have:=Nat.div_add_mod (bl n+(k-1)) k;have:=Nat.mod_lt (bl n+(k-1)) hk;omega
 ·intro h;rw [←Nat.pow_mul];have h0:n≠0:=by
   intro e;subst e;simp only [aTb,Nat.zero_add]at h;rw [Nat.div_eq_of_lt oq]at h;omega
  refine Nat.le_trans (Nat.pow_le_pow_right oq ?_) (nU h0);have h1:=Nat.div_add_mod (bl n+(k-1)) k;have:=Nat.mul_sub k ((bl n+(k-1)) / k) 1;have:=Nat.mod_lt (bl n+(k-1)) hk;omega
theorem aYh {k:Nat}(hk:0<k) (n:Nat):nwk k n≤bl n:=by
 unfold nwk;rcases Nat.eq_zero_or_pos (bl n) with h|h
 ·rw [h,Nat.div_eq_of_lt oq];omega
 ·apply Nat.le_of_lt_succ;rw [Nat.div_lt_iff_lt_mul hk];have:bl n*k ≥ bl n:=Nat.le_mul_of_pos_right _ hk;have:1*k≤bl n*k:=Nat.mul_le_mul_right k h;rw [Nat.succ_mul];omega
