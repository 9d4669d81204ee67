/- Several texts in one. (Printed by prep.py.) -/
import Ieee.Arith
import Derived.Test.YtjgnlflbgmnfaaaGreatFfVFU
import Derived.Test.YtjgnlflbgmnfaaaGreatFfFB
namespace Go.Proofs.YtjgnlflbgmnfaaaGreat
open Ieee
namespace FT
theorem dV {m k:Nat}(hm:m≠0):(m*2^k).log2=m.log2+k:=by
 have h1:2^m.log2≤m:=Nat.log2_self_le hm;have h2:m<2^(m.log2+1):=Nat.lt_log2_self;have hne:m*2^k≠0:=zq hm (by have:=om k;omega);apply xh
 ·have:m*2^k<2^(m.log2+k+1):=by
   rw [show m.log2+k+1=(m.log2+1)+k by omega,qd];exact jw h2 (om k)
  have:=(zh hne).2 this;omega
 ·have:2^(m.log2+k)≤m*2^k:=by
   rw [qd];exact ot _ h1
  exact (Nat.le_log2 hne).2 this
def half (n G:Nat):Nat:=n/G+(decide (G<2*(n % G)) || (G == 2*(n % G) && n/G % 2 == 1)).toNat
theorem oC (neg:Bool) (n drop:Nat):Toward.even.cut neg n drop=half n (2^min drop (n.log2+2)):=by
 rw [←Nat.one_shiftLeft];rfl
theorem mV {a G:Nat}(hG:0<G):half (a*G) G=a:=by
 unfold half;rw [yq _ hG,Nat.mul_mod_left];have h0:(G == 2*0)=false:=by
  rw [beq_eq_false_iff_ne];omega
 simp [h0]
theorem rO {a G k:Nat}(hk:0<k):half (a*k) (G*k)=half a G:=by
 unfold half;rw [kn _ _ hk,yk];generalize a % G=r;generalize a/G=q;have e1:decide (G*k<2*(r*k))=decide (G<2*r):=by
  apply decide_eq_decide.2;rw [←qt];exact Nat.mul_lt_mul_right hk
 have e2:(G*k == 2*(r*k))=(G == 2*r):=by
  rw [←qt]
  by_cases c:G=2*r
  ·rw [c];simp
  ·have:G*k≠2*r*k:=fun h=>c (Nat.eq_of_mul_eq_mul_right hk h);rw [beq_eq_false_iff_ne.2 this,beq_eq_false_iff_ne.2 c]
 rw [e1,e2]
theorem fO (neg:Bool) (n:Nat):Toward.even.cut neg n 0=n:=by
 rw [oC,Nat.zero_min];have:=mV (a:=n) (G:=1) oz
 rwa [jk]at this
theorem aDk (neg:Bool) {m k drop:Nat}(hm:m≠0) (h:drop≤k):Toward.even.cut neg (m*2^k) drop=m*2^(k-drop):=by
 rw [oC,dV (k:=k) hm,ko oq];have e:m*2^k=m*2^(k-drop)*2^drop:=by
  rw [qt,←qd,show k-drop+drop=k by omega]
 rw [e];exact mV (om drop)
theorem aDj (neg:Bool) {m k drop:Nat}(hm:m≠0):Toward.even.cut neg (m*2^k) (drop+k)=Toward.even.cut neg m drop:=by
 rw [oC,oC,dV (k:=k) hm,show min (drop+k) (m.log2+k+2)=min drop (m.log2+2)+k by omega,qd];exact rO (om k)
variable {f:Ieee.Format}
def last (f:Ieee.Format) (m:Nat) (p:Int):Int:=max (p+m.log2-f.fractionBits) f.leastPlace
theorem cR {neg:Bool}{m:Nat}{p:Int}(hm:m≠0):f.nearest neg m p =
 f.word neg (min ((last f m p-f.leastPlace).toNat*f.binade+Toward.even.cut neg (m <<< (p-last f m p).toNat) (last f m p-p).toNat) f.infRung):=by
 unfold Format.nearest last;rw [oh hm]
theorem cY {neg:Bool}{m k:Nat}{p:Int}(hm:m≠0):f.nearest neg (m*2^k) (p-k)=f.nearest neg m p:=by
 have hne:m*2^k≠0:=zq hm (by have:=om k;omega);have hl:last f (m*2^k) (p-k)=last f m p:=by
  unfold last;rw [dV hm]
  congr 1
  omega
 rw [cR hne,cR hm,hl];generalize last f m p=q;have e:Toward.even.cut neg ((m*2^k) <<< (p-k-q).toNat) (q-(p-k)).toNat=Toward.even.cut neg (m <<< (p-q).toNat) (q-p).toNat:=by
  rw [vd,vd]
  by_cases c:p<q
  ·rw [show (p-k-q).toNat=0 by omega,show (p-q).toNat=0 by omega,show (q-(p-k)).toNat=(q-p).toNat+k by omega,zw,jk,jk];exact aDj neg hm
  ·rw [show (q-p).toNat=0 by omega,fO]
   by_cases d:p-k<q
   ·rw [show (p-k-q).toNat=0 by omega,zw,jk,aDk neg hm oq]
    congr 2
    omega
   ·rw [show (q-(p-k)).toNat=0 by omega,fO,qt,←qd]
    congr 2
    omega
 rw [e]
structure Good (f:Ieee.Format):Prop where
 frac:1≤f.fractionBits
 exp:2≤f.exponentBits
theorem aQ:Good Ieee.double:=⟨oz,oz⟩
theorem fQ:Good Ieee.single:=⟨oz,oz⟩
theorem aCw:f.signWeight=2^f.exponentBits*f.binade:=by
 unfold Format.signWeight Format.binade;rw [qd]
theorem lO:0<f.binade:=om _
theorem aHr:f.infRung<f.signWeight:=by
 rw [aCw];unfold Format.infRung;have:=om f.exponentBits;exact jw oq lO
theorem oP {neg:Bool}{r:Nat}(h:r<f.signWeight):f.read (f.word neg r) =
 if r<f.binade then .number neg r f.leastPlace
 else if r<f.infRung then .number neg (f.binade+r % f.binade) (f.leastPlace+(r/f.binade-1:Nat))
 else if r=f.infRung then .infinity neg
 else .nan neg (r-f.infRung):=by
 have e1:(f.word neg r/f.signWeight % 2 == 1)=neg:=by
  unfold Format.word;cases neg
  ·simp [Nat.div_eq_of_lt h]
  ·have:(f.signWeight+r) / f.signWeight=1:=by
    rw [je,Nat.add_div_right _ oq,qs h]
   simp [this]
 have e2:f.word neg r % f.signWeight=r:=by
  unfold Format.word;cases neg
  ·simp [Nat.mod_eq_of_lt h]
  ·simp [Nat.mod_eq_of_lt h]
 unfold Format.read;simp only [e1,e2]
structure Has (f:Ieee.Format) (m:Nat) (p:Int):Prop where
 ne:m≠0
 bits:m<2^(f.fractionBits+1)
 low:f.leastPlace≤p
 top:p+m.log2-f.fractionBits-f.leastPlace+3≤2^f.exponentBits
theorem Has.last_le {m:Nat}{p:Int}(h:Has f m p):last f m p≤p:=by
 have hl:m.log2<f.fractionBits+1:=(zh h.ne).2 h.bits;have:=h.low;unfold last;omega
theorem Has.read {neg:Bool}{m:Nat}{p:Int}(g:Good f) (h:Has f m p):f.read (f.nearest neg m p)=.number neg (m*2^(p-last f m p).toNat) (last f m p):=by
 have hl:m.log2<f.fractionBits+1:=(zh h.ne).2 h.bits;have hle:=h.last_le;have hlow:f.leastPlace≤last f m p:=Int.le_max_right _ _;have htop:=h.top;rw [cR h.ne,show (last f m p-p).toNat=0 by omega,fO,vd];have hlog:(m*2^(p-last f m p).toNat).log2=m.log2+(p-last f m p).toNat:=dV h.ne;have hne:m*2^(p-last f m p).toNat≠0:=zq h.ne (by have:=om (p-last f m p).toNat;omega);have hcase:(last f m p=f.leastPlace∧p+m.log2-f.fractionBits≤f.leastPlace)∨last f m p=p+m.log2-f.fractionBits:=by
  unfold last;omega
 generalize last f m p=q at *
 generalize m*2^(p-q).toNat=kept at *
 have hk2:kept<2*f.binade:=by
  have:kept<2^(f.fractionBits+1):=(zh hne).1 oq;unfold Format.binade;rw [qc]at this;omega
 have hb:=lO (f:=f);have hE:(4:Nat)≤2^f.exponentBits:=by
  have:=qp (n:=2) oz g.exp;simpa using this
 have hinf:f.infRung=(2^f.exponentBits-1)*f.binade:=rfl;have hd:∃d:Nat,q-f.leastPlace=(d:Int)∧d+3≤2^f.exponentBits:=by
  refine⟨(q-f.leastPlace).toNat,oq,?_⟩;have h4:(4:Int)≤((2^f.exponentBits:Nat):Int):=by exact_mod_cast hE
  have h5:((2^f.exponentBits:Nat):Int)=(2:Int)^f.exponentBits:=by norm_cast
  rcases hcase with ⟨c,_⟩|c <;> omega
 obtain⟨d,hd,hd3⟩:=hd;have hlt:d*f.binade+kept<f.infRung:=by
  rw [hinf];have:(d+2)*f.binade≤(2^f.exponentBits-1)*f.binade:=ot _ oq;have e:(d+2)*f.binade=d*f.binade+2*f.binade:=by rw [jt]
  omega
 rw [hd,ol,ko oq,oP (zr hlt aHr)];rcases hcase with ⟨c,_⟩|c
 ·obtain rfl:d=0:=oq
  rw [zg,ju]at hlt ⊢
  by_cases a:kept<f.binade
  ·rw [og a,c]
  ·rw [oh a,og hlt,c];have e1:kept/f.binade=1:=by
    rw [Nat.div_eq_iff hb];omega
   have e2:f.binade+kept % f.binade=kept:=by
    have:=jz kept f.binade;rw [e1]at this;omega
   rw [e1,e2];simp
 ·have hk1:f.binade≤kept:=by
   have:2^f.fractionBits≤kept:=(Nat.le_log2 hne).1 oq;exact this
  have hge:f.binade≤d*f.binade+kept:=oq
  have e0:kept/f.binade=1:=by
   rw [Nat.div_eq_iff hb];omega
  have e1:(d*f.binade+kept) / f.binade=d+1:=by
   rw [je,oi,jh _ _ hb,e0];omega
  have e2:f.binade+(d*f.binade+kept) % f.binade=kept:=by
   rw [je (d*f.binade),oi d,zk];have:=jz kept f.binade;rw [e0]at this;omega
  rw [oh oq,og hlt,e1,e2]
  congr 1
  omega
theorem oK {s t:Bool}{m n:Nat}{p q:Int}(g:Good f) (h:Has f m p) (h':Has f n q):f.mul (f.nearest s m p) (f.nearest t n q)=some (f.nearest (s ^^ t) (m*n) (p+q)):=by
 unfold Format.mul;rw [h.read g,h'.read g];show some (f.nearest (s ^^ t) _ _)=_;have a:=h.last_le;have b:=h'.last_le;generalize last f m p=i at *
 generalize last f n q=j at *
 have e:m*2^(p-i).toNat*(n*2^(q-j).toNat)=m*n*2^((p-i).toNat+(q-j).toNat):=by
  rw [qd]
  ac_rfl
 rw [e,show i+j=(p+q)-(((p-i).toNat+(q-j).toNat:Nat):Int) by omega,cY (zq h.ne h'.ne)]
theorem aKp {s:Bool}{r:Nat}(h:r<f.signWeight):f.word s r ^^^ 2^(f.exponentBits+f.fractionBits)=f.word (!s) r:=by
 have hr:r ^^^ 2^(f.exponentBits+f.fractionBits)=2^(f.exponentBits+f.fractionBits)+r:=by
  have h:r<2^(f.exponentBits+f.fractionBits):=h;generalize f.exponentBits+f.fractionBits=n at h;apply Nat.eq_of_testBit_eq;intro i;rw [Nat.testBit_xor,Nat.testBit_two_pow]
  by_cases c:n=i
  ·subst c;rw [Nat.testBit_two_pow_add_eq,kj h];simp
  ·by_cases d:i<n
   ·rw [Nat.testBit_two_pow_add_gt d];simp [c]
   ·have h1:2^n+r<2^i:=by
     have:2^(n+1)≤2^i:=qp oz oq;rw [qc]at this;omega
    rw [kj h1,kj oq];simp [c]
 unfold Format.word;cases s
 ·exact hr
 ·show (f.signWeight+r) ^^^ _=r;have e:f.signWeight+r=r ^^^ 2^(f.exponentBits+f.fractionBits):=hr.symm;rw [e,Nat.xor_assoc,Nat.xor_self,Nat.xor_zero]
theorem nA (f:Ieee.Format) (neg:Bool) (m:Nat) (p:Int):∃r,r<f.signWeight∧∀s,f.nearest s m p=f.word s r:=by
 by_cases hm:m=0
 ·exact⟨0,by rw [aCw];exact zp (om _) lO,fun s=>by unfold Format.nearest;rw [og hm]⟩
 ·refine⟨min ((last f m p-f.leastPlace).toNat*f.binade+Toward.even.cut neg (m <<< (p-last f m p).toNat) (last f m p-p).toNat) f.infRung,jb (Nat.min_le_right _ _) aHr,fun s=>?_⟩;rw [cR hm,oC,oC]
theorem xU {s:Bool}{m:Nat}{p:Int}:f.nearest s m p ^^^ 2^(f.exponentBits+f.fractionBits)=f.nearest (!s) m p:=by
 obtain⟨r,h,e⟩:=nA f s m p;rw [e,e,aKp h]
end FT
namespace FT
theorem nX (w:Nat) (h:w<2^64):(BitVec.ofInt 64 (w:Int)).toNat=w:=by
 rw [BitVec.toNat_ofInt];have:(w:Int) % ((2^64:Nat):Int)=(w:Int):=Int.emod_eq_of_lt oq (by exact_mod_cast h);rw [this,ol]
theorem struck {w:Nat}(h:w<2^64):(BitVec.ofInt 64 (w:Int) &&& ~~~(BitVec.ofInt 64 9218868437227405312)).toNat=w/2^63*2^63+w % 2^52:=by
 have hm:∀i:Fin 64,(BitVec.ofInt 64 9218868437227405312).getLsbD i.val=(decide (52≤i.val) && decide (i.val<63)):=oz
 apply Nat.eq_of_testBit_eq;intro i;rw [←BitVec.getLsbD,BitVec.getLsbD_and,BitVec.getLsbD_not];have hw:(BitVec.ofInt 64 (w:Int)).getLsbD i=w.testBit i:=by rw [BitVec.getLsbD,nX w h]
 have hlt:w % 2^52<2^63:=qj (qy _ oz) oz;rw [hw,oi,Nat.testBit_two_pow_mul_add _ hlt,Nat.testBit_mod_two_pow,Nat.testBit_div_two_pow]
 by_cases c:i<64
 ·rw [hm ⟨i,c⟩]
  by_cases c1:i<52
  ·have c2:i<63:=oq
   have c3:¬ 52≤i:=oq
   simp [c,c1,c2,c3]
  ·by_cases c2:i<63
   ·have c3:52≤i:=oq
    simp [c,c1,c2,c3]
   ·have e:i=63:=oq
    subst e;simp
 ·have hz:w.testBit i=false:=kj (qj h (qp oz oq));have c2:¬ i<63:=oq
  rw [hz,Bool.false_and,oh c2]
  first
   | (rw [show 63+(i-63)=i by omega,hz])
   | (rw [show i-63+63=i by omega,hz])
theorem put {a E c:Nat}(ha:a≤1) (hE:E<2^11) (hc:c<2^52):(BitVec.ofInt 64 ((a*2^63+c:Nat):Int) ||| BitVec.ofInt 64 ((E*2^52:Nat):Int)).toNat=a*2^63+(E*2^52+c):=by
 have h0:c<2^63:=qj hc (qp oz oz);have h1:a*2^63+c<2^64:=by
  have:=Nat.add_lt_add_of_le_of_lt (ot (2^63) ha) h0
  rwa [jo,show (2:Nat)^63+2^63=2^64 from rfl]at this
 have h3:E*2^52+c<2^63:=by
  have g1:E*2^52+c<(E+1)*2^52:=by
   rw [jt,jo];exact Nat.add_lt_add_left hc _
  have g2:(E+1)*2^52≤2^11*2^52:=ot _ hE;rw [←qd]at g2;exact qj g1 g2
 have h2:E*2^52<2^64:=jb (yf _ c) (zr h3 (vv oz oz));rw [BitVec.toNat_or,nX _ h1,nX _ h2];have e1:a*2^63+c=2^63*a ||| c:=by
  rw [oi];exact vm (qj hc oz) a
 have e2:E*2^52+c=2^52*E ||| c:=by
  rw [oi];exact vm hc E
 have e3:a*2^63+(E*2^52+c)=2^63*a ||| (E*2^52+c):=by
  rw [oi a];exact vm h3 a
 rw [e1,e3,e2,oi E,Nat.or_assoc,Nat.or_comm c]
theorem field {w:Nat}(h:w<2^64):(BitVec.ofInt 64 ((w/2^52:Nat):Int) &&& BitVec.ofInt 64 2047).toNat=w/2^52 % 2048:=by
 rw [BitVec.toNat_and,nX _ (jb (vg _ _) h),show (BitVec.ofInt 64 2047).toNat=2^11-1 from by decide,wy]
theorem pK {s:Bool}{m:Nat}{p:Int}(h:Has double m p) (hn:-1022≤p+m.log2) :
 double.nearest s m p=(if s then 1 else 0)*2^63+((p+m.log2+1023).toNat*2^52+(m*2^(52-m.log2)-2^52))∧2^52≤m*2^(52-m.log2)∧m*2^(52-m.log2)<2^53:=by
 have hl:m.log2<53:=(zh h.ne).2 h.bits;have htop:p+m.log2-52+1074+3≤2048:=h.top;have hlow:(-1074:Int)≤p:=h.low;have elast:last double m p=p+m.log2-52:=by
  unfold last;show max (p+m.log2-((52:Nat):Int)) (-1074)=_;omega
 have hlog:(m*2^(52-m.log2)).log2=52:=by
  rw [dV h.ne];omega
 have hne:m*2^(52-m.log2)≠0:=zq h.ne (by have:=om (52-m.log2);omega);have h1:2^52≤m*2^(52-m.log2):=(Nat.le_log2 hne).1 oq;have h2:m*2^(52-m.log2)<2^53:=(zh hne).1 oq;refine⟨?_,h1,h2⟩;rw [cR h.ne,elast,show (p+m.log2-52-p).toNat=0 by omega,fO,vd,show (p-(p+m.log2-52)).toNat=52-m.log2 by omega];generalize m*2^(52-m.log2)=kept at *
 have eb:double.binade=2^52:=rfl;have ei:double.infRung=2047*2^52:=rfl;have el:double.leastPlace=-1074:=rfl;have es:double.signWeight=2^63:=rfl;rw [eb,ei,el];have e:(p+m.log2-52 - -1074).toNat+1=(p+m.log2+1023).toNat:=oq
 generalize (p+m.log2-52 - -1074).toNat=d at e;rw [←e];have hd:d+1≤2046:=oq
 have hr:d*2^52+kept<2047*2^52:=oq
 rw [ko oq];unfold Format.word;rw [es];cases s
 ·show d*2^52+kept=0*2^63+((d+1)*2^52+(kept-2^52));omega
 ·show 2^63+(d*2^52+kept)=1*2^63+((d+1)*2^52+(kept-2^52));omega
end FT
open IntKind (wrap)
open Go.RowKit Ieee
open Sy (Up CallsG)
namespace FT
theorem nosign {w:Nat}(h:w<2^64):(BitVec.ofInt 64 (w:Int) &&& ~~~(BitVec.ofInt 64 9223372036854775808)).toNat=w % 2^63:=by
 have hm:∀i:Fin 64,(BitVec.ofInt 64 9223372036854775808).getLsbD i.val=decide (i.val=63):=oz
 apply Nat.eq_of_testBit_eq;intro i;rw [←BitVec.getLsbD,BitVec.getLsbD_and,BitVec.getLsbD_not];have hw:(BitVec.ofInt 64 (w:Int)).getLsbD i=w.testBit i:=by rw [BitVec.getLsbD,nX w h]
 rw [hw,Nat.testBit_mod_two_pow]
 by_cases c:i<64
 ·rw [hm ⟨i,c⟩]
  by_cases c2:i<63
  ·have c3:i≠63:=oq
   simp [c,c2,c3]
  ·have e:i=63:=oq
   subst e;simp
 ·have hz:w.testBit i=false:=kj (qj h (qp oz oq));rw [hz,Bool.false_and,Bool.and_false]
theorem word64 {s:Bool}{r:Nat}(h:r<2^63):double.word s r<2^64∧double.word s r % 2^63=r∧double.word s r/2^63=if s then 1 else 0:=by
 have es:double.signWeight=2^63:=rfl;have hp:(2:Nat)^63+2^63=2^64:=rfl;unfold Format.word;rw [es];cases s
 ·exact⟨qj h (qp oz oz),ob h,qs h⟩
 ·refine⟨by rw [←hp];exact Nat.add_lt_add_left h _,?_,?_⟩
  ·show (2^63+r) % 2^63=r;rw [Nat.add_mod_left,ob h]
  ·show (2^63+r) / 2^63=1;rw [je,Nat.add_div_right _ (om 63),qs h]
theorem near64 (s:Bool) (m:Nat) (p:Int):double.nearest s m p<2^64∧double.nearest s m p % 2^63=double.nearest false m p:=by
 obtain⟨r,h,e⟩:=nA double s m p;have:=word64 (s:=s) (r:=r) h;rw [e,e];exact⟨this.1,this.2.1⟩
theorem wrap64 {n:Nat}(h:n<2^64):wrap .u64 (n:Int)=(n:Int):=by
 unfold wrap;have e:(IntKind.bits .u64)=64:=rfl;have e2:(IntKind.signed .u64)=false:=rfl;rw [e];have:(n:Int) % 18446744073709551616=(n:Int):=Int.emod_eq_of_lt oq (by have h:n<18446744073709551616:=h;omega);simp [e2,this]
theorem gI {x y:Nat}{s t:Bool}{M N:Nat}{i j:Int}(hx:double.read x=.number s M i) (hy:double.read y=.number t N j) :
 double.order x y=some (compare (signed s M (i-min i j).toNat) (signed t N (j-min i j).toNat)):=by
 unfold Format.order;rw [hx,hy];rfl
end FT
open FT
section
variable {k:World}{R:World→Value→Prop}{s:Bool}{m:Nat}{p:Int}
theorem rH (C:∀k',Up k k'→R k' (.float .f64 (double.nearest false m p))):Cl k 178 #[.float .f64 (double.nearest s m p)] R:=by
 intro k0 u0;obtain⟨h1,h2⟩:=near64 s m p;refine aLy fun k1 u1=>?_;have:=C k1 (u0.trans u1);rw [show IntKind.bits .u64=64 from rfl,nosign h1,h2,wrap64 (near64 false m p).1,ol];exact this
theorem rJ (h:Has double m p) (C:∀k',Up k k'→R k' (.bool false)):Cl k 89 #[.float .f64 (double.nearest s m p)] R:=by
 intro k0 u0;refine kN fun k1 u1=>?_;have:=C k1 (u0.trans u1);have hr:=h.read (neg:=s) aQ;rw [show FloatKind.format .f64=double from rfl,gI hr hr];have e:∀z:Int,(some (compare z z) != some Ordering.eq)=false:=fun z=>by rw [show compare z z=Ordering.eq from by simp [compare,compareOfLessAndEq]];rfl
 rwa [e]
theorem rI (h:Has double m p) (C:∀k',Up k k'→R k' (.bool false)):Cl k 90 #[.float .f64 (double.nearest s m p),.int .i64 0] R:=by
 intro k0 u0;refine oF ⟨fun _=>rH fun k1 u1=>⟨_,rfl,fun k2 u2=>?_⟩,fun f=>by cases f⟩;have:=C k2 (u0.trans (u1.trans u2));have hr:=h.read (neg:=false) aQ;have hl:m.log2<53:=(zh h.ne).2 h.bits;have hle:=h.last_le;have hlog:(m*2^(p-last double m p).toNat).log2=m.log2+(p-last double m p).toNat:=dV h.ne;have hne:m*2^(p-last double m p).toNat≠0:=zq h.ne (by have:=om (p-last double m p).toNat;omega);have h971:last double m p≤971:=by
  have htop:p+m.log2-52+1074+3≤2048:=h.top;unfold last;show max (p+m.log2-((52:Nat):Int)) (-1074)≤971;omega
 have hge:p+m.log2-52≤last double m p:=Int.le_max_left _ _;generalize last double m p=i at *
 have hM:m*2^(p-i).toNat<2^53:=(zh hne).1 oq;generalize m*2^(p-i).toNat=M at *
 have hx:double.read 9218868437227405311=.number false (2^53-1) 971:=by decide +kernel
 rw [show FloatKind.format .f64=double from rfl,gI hr hx];rw [show min i 971=i by omega,show (i-i).toNat=0 by omega];have hc:¬ ((M:Int) > (((2^53-1) <<< (971-i).toNat:Nat):Int)):=by
  rw [vd];have:=zn (2^53-1) (om (971-i).toNat);omega
 have e:(some (compare (signed false M 0) (signed false (2^53-1) (971-i).toNat)) == some Ordering.gt)=false:=by
  unfold signed;simp only [zz,if_false,xj];generalize (((2^53-1) <<< (971-i).toNat:Nat):Int)=z at hc;simp only [compare,compareOfLessAndEq]
  by_cases a:(M:Int)<z
  ·rw [og a];rfl
  ·rw [oh a,og oq];rfl
 rwa [e]
theorem aCe (h:Has double m p) (hn:-1022≤p+m.log2) (C:∀k',Up k k'→R k' (.tuple #[.float .f64 (double.nearest s m p),.int .i64 0])):Cl k 240 #[.float .f64 (double.nearest s m p)] R:=by
 intro k0 u0;refine xF (rH fun k1 u1=>⟨_,rfl,fun f=>?_,fun _ k3 u3=>C k3 (u0.trans (u1.trans u3))⟩);exfalso;have hr:=h.read (neg:=false) aQ;have hl:m.log2<53:=(zh h.ne).2 h.bits;have hle:=h.last_le;have hlow:(-1074:Int)≤last double m p:=Int.le_max_right _ _;have elast:last double m p=p+m.log2-52:=by
  unfold last;show max (p+m.log2-((52:Nat):Int)) (-1074)=_;omega
 have hlog:(m*2^(p-last double m p).toNat).log2=m.log2+(p-last double m p).toNat:=dV h.ne;have hne:m*2^(p-last double m p).toNat≠0:=zq h.ne (by have:=om (p-last double m p).toNat;omega);generalize last double m p=i at *
 have hM:2^52≤m*2^(p-i).toNat:=(Nat.le_log2 hne).1 oq;generalize m*2^(p-i).toNat=M at *
 have hx:double.read 4503599627370496=.number false (2^52) (-1074):=by decide +kernel
 rw [show FloatKind.format .f64=double from rfl,gI hr hx]at f;rw [show min i (-1074)=-1074 by omega,show ((-1074:Int) - -1074).toNat=0 by omega]at f;have hc:¬ ((M <<< (i - -1074).toNat:Nat):Int)<((2^52:Nat):Int):=by
  rw [vd];have:=zn M (om (i - -1074).toNat);omega
 unfold signed at f;simp only [zz,if_false,xj]at f;generalize ((M <<< (i - -1074).toNat:Nat):Int)=z at hc f;generalize ((2^52:Nat):Int)=y at hc f;simp only [compare,compareOfLessAndEq]at f;rw [oh hc]at f;split at f <;> cases f
end
namespace FT
theorem pow52:(2:Int)^(min (Int.toNat 52) (IntKind.bits .u64))=4503599627370496:=oz
theorem aPd {w F:Nat}{e:Int}(hw:w<2^64) (hF:w/2^52 % 2048=F) (he:-100000≤e∧e≤100000) :
 wrap .i64 ((wrap .i64 (e+0))+(wrap .i64 ((wrap .i64 (BitVec.toNat (BitVec.ofInt (IntKind.bits .i64) (wrap .i64 (Int.fdiv ((w:Nat):Int) (2^(min (Int.toNat 52) (IntKind.bits .u64))))) &&& BitVec.ofInt (IntKind.bits .i64) 2047)))-1023)))=e+F-1023:=by
 have hd:w/2^52<4096:=by
  have:w/2^52<2^12:=Nat.div_lt_of_lt_mul (by rw [←qd];exact hw);exact this
 have e1:Int.fdiv ((w:Nat):Int) 4503599627370496=((w/2^52:Nat):Int):=by
  rw [za _ oz];rfl
 have e2:wrap .i64 ((w/2^52:Nat):Int)=((w/2^52:Nat):Int):=by
  generalize w/2^52=z at hd;rw [qa];omega
 rw [pow52,e1,e2,show IntKind.bits .i64=64 from rfl,field hw,hF];have hF2:F<2048:=by rw [←hF];exact qy _ oz
 rw [qa,qa,qa,qa];omega
theorem aBv {w a c F:Nat}(hw:w<2^64) (ha:a≤1) (hc:c<2^52) (hF:F<2^11) (h1:w/2^63=a) (h2:w % 2^52=c) :
 Int.toNat (wrap .u64 (BitVec.toNat (BitVec.ofInt (IntKind.bits .u64) (wrap .u64 (BitVec.toNat (BitVec.ofInt (IntKind.bits .u64) ((w:Nat):Int) &&& ~~~(BitVec.ofInt (IntKind.bits .u64) 9218868437227405312)))) ||| BitVec.ofInt (IntKind.bits .u64) (wrap .u64 ((F:Int)*2^(min (Int.toNat 52) (IntKind.bits .u64)))))))=a*2^63+(F*2^52+c):=by
 have h0:c<2^63:=qj hc (qp oz oz);have h3:a*2^63+c<2^64:=by
  have:=Nat.add_lt_add_of_le_of_lt (ot (2^63) ha) h0
  rwa [jo,show (2:Nat)^63+2^63=2^64 from rfl]at this
 have h4:F*2^52+c<2^63:=by
  have g1:F*2^52+c<(F+1)*2^52:=by
   rw [jt,jo];exact Nat.add_lt_add_left hc _
  have g2:(F+1)*2^52≤2^11*2^52:=ot _ hF;rw [←qd]at g2;exact qj g1 g2
 have h5:F*2^52<2^64:=jb (yf _ c) (zr h4 (vv oz oz));have h6:a*2^63+(F*2^52+c)<2^64:=by
  have:=Nat.add_lt_add_of_le_of_lt (ot (2^63) ha) h4
  rwa [jo,show (2:Nat)^63+2^63=2^64 from rfl]at this
 have e1:((F:Int)*2^(min (Int.toNat 52) (IntKind.bits .u64)))=((F*2^52:Nat):Int):=by
  rw [pow52];rfl
 rw [e1,wrap64 h5,show IntKind.bits .u64=64 from rfl,struck hw,h1,h2,wrap64 h3,put ha hF hc,wrap64 h6,ol]
theorem parts {s:Bool}{m:Nat}{p:Int}(h:Has double m p) (hn:-1022≤p+m.log2):∃c,c<2^52∧(∀q,Has double m q→-1022≤q+m.log2→double.nearest s m q=(if s then 1 else 0)*2^63+((q+m.log2+1023).toNat*2^52+c))∧
 double.nearest s m p/2^63=(if s then 1 else 0)∧double.nearest s m p % 2^52=c∧double.nearest s m p/2^52 % 2048=(p+m.log2+1023).toNat∧(p+m.log2+1023).toNat<2^11:=by
 have htop:p+m.log2-52+1074+3≤2048:=h.top;obtain⟨e,h1,h2⟩:=pK (s:=s) h hn;have hc:m*2^(52-m.log2)-2^52<2^52:=by
  rw [show (2:Nat)^53=2^52+2^52 from rfl]at h2;omega
 have hF:(p+m.log2+1023).toNat<2^11:=by
  rw [show (2:Nat)^11=2048 from rfl];omega
 refine⟨_,hc,fun q hq hqn=>(pK (s:=s) hq hqn).1,?_⟩;rw [e];generalize m*2^(52-m.log2)-2^52=c at hc;generalize (p+m.log2+1023).toNat=F at hF;have h4:F*2^52+c<2^63:=by
  have g1:F*2^52+c<(F+1)*2^52:=by
   rw [jt,jo];exact Nat.add_lt_add_left hc _
  have g2:(F+1)*2^52≤2^11*2^52:=ot _ hF;rw [←qd]at g2;exact qj g1 g2
 generalize ha:(if s then 1 else 0:Nat)=a;refine⟨?_,?_,?_,hF⟩
 ·rw [je,yw _ _ (om 63),qs h4,ju]
 ·rw [show (2:Nat)^63=2^11*2^52 from rfl,←qt,←kw,←jt,je,xw,ob hc]
 ·rw [show (2:Nat)^63=2^11*2^52 from rfl,←qt,←kw,←jt,je,yw _ _ (om 52),qs hc,ju,show (2048:Nat)=2^11 from rfl,je,xw,ob hF]
theorem aNf {z:Int}(h:-3000≤z∧z≤3000):wrap .i64 z=z:=by
 rw [qa];omega
theorem aCy {z:Int}(h:-1023≤z∧z≤3000):wrap .u64 (wrap .i64 (z+1023))=((z+1023).toNat:Int):=by
 have e:z+1023=((z+1023).toNat:Int):=oq
 have e1:wrap .i64 (z+1023)=z+1023:=by
  rw [qa];omega
 rw [e1,e,ol];exact wrap64 (by rw [show (2:Nat)^64=18446744073709551616 from rfl];omega)
theorem Has.one {p:Int}(h1:-1074≤p) (h2:p≤1023):Has double 1 p:=⟨oz,oz,h1,by show p+((1:Nat).log2:Nat)-52 - -1074+3≤2048;rw [show (1:Nat).log2=0 from rfl];omega⟩
end FT
open FT
section
variable {k:World}{R:World→Value→Prop}{s:Bool}{m:Nat}{p e:Int}
theorem aPg (h:Has double m p) (hn:-1022≤p+m.log2) (h':Has double m (p+e)) (he:-100000≤e∧e≤100000) (C:∀k',Up k k'→R k' (.float .f64 (double.nearest s m (p+e)))) :
 Cl k 182 #[.float .f64 (double.nearest s m p),.int .i64 e] R:=by
 intro k0 u0;have hr:=h.read (neg:=s) aQ;have hne:m*2^(p-last double m p).toNat≠0:=zq h.ne (by have:=om (p-last double m p).toNat;omega);have h0:double.read 0=.number false 0 (-1074):=by decide +kernel
 obtain⟨c,hc,hall,g1,g2,g3,g4⟩:=parts (s:=s) h hn;have hw:=(near64 s m p).1;have htop:(p+e)+m.log2-52+1074+3≤2048:=h'.top;have hlow:(-1074:Int)≤p+e:=h'.low;refine aCd ⟨fun f=>?_,fun _=>rI h fun k2 u2=>⟨_,rfl,(fun f=>by cases f),fun _=>rJ h fun k5 u5=>⟨_,rfl,(fun f=>by cases f),fun _=>aCe h hn fun k8 u8=>⟨_,_,rfl,?_⟩⟩⟩⟩
 ·exfalso;rw [show FloatKind.format .f64=double from rfl,gI hr h0]at f;generalize m*2^(p-last double m p).toNat=M at *
  generalize last double m p=i at *
  have hz:signed s M (i-min i (-1074)).toNat≠0:=by
   unfold signed;rw [vd];have:=zq hne (show 2^(i-min i (-1074)).toNat≠0 by have:=om (i-min i (-1074)).toNat;omega);generalize M*2^(i-min i (-1074)).toNat=z at this;cases s <;> simp <;> omega
  have hz2:signed false 0 (-1074-min i (-1074)).toNat=0:=by unfold signed;simp
  rw [hz2]at f;generalize signed s M (i-min i (-1074)).toNat=z at hz f;simp only [compare,compareOfLessAndEq]at f;rw [oh hz]at f;split at f <;> cases f
 have hput:∀q,Has double m q→-1022≤q+m.log2→Int.toNat (wrap .u64 (BitVec.toNat (BitVec.ofInt (IntKind.bits .u64) (wrap .u64 (BitVec.toNat (BitVec.ofInt (IntKind.bits .u64) ((double.nearest s m p:Nat):Int) &&& ~~~(BitVec.ofInt (IntKind.bits .u64) 9218868437227405312)))) ||| BitVec.ofInt (IntKind.bits .u64) (wrap .u64 (((q+m.log2+1023).toNat:Int)*2^(min (Int.toNat 52) (IntKind.bits .u64)))))))=double.nearest s m q:=fun q hq hqn=>by
  have hF:(q+m.log2+1023).toNat<2^11:=by
   have:q+m.log2-52+1074+3≤2048:=hq.top;rw [show (2:Nat)^11=2048 from rfl];omega
  rw [aBv hw (by cases s <;> decide) hc hF g1 g2,hall q hq hqn]
 rw [aPd hw g3 he];have v8:=u0.trans (u2.trans (u5.trans u8));refine⟨fun f=>?_,fun _=>⟨fun f=>?_,fun _=>⟨fun f=>?_,fun f=>?_⟩⟩⟩
 ·have:=ow f;omega
 ·have:=ow f;omega
 ·have f:=ow f;have hs:Has double m (p+e+53):=⟨h.ne,h.bits,by show (-1074:Int)≤_;omega,by show (p+e+53)+m.log2-52+1074+3≤2048;omega⟩;have e1:e+((p+m.log2+1023).toNat:Nat)-1023+53=(p+e+53)+m.log2:=oq
  rw [e1,aNf (z:=p+e+53+m.log2) oq,aCy (z:=p+e+53+m.log2) oq,hput _ hs oq];have hm:Sy.fltR .f64 .mul 4368491638549381120 (double.nearest s m (p+e+53))=some (double.nearest s m (p+e)):=by
   have h1:(4368491638549381120:Nat)=double.nearest false 1 (-53):=by decide +kernel
   have:=oK (s:=false) (t:=s) aQ (Has.one (p:=-53) oz oz) hs;rw [jo,Bool.false_xor,show (-53+(p+e+53):Int)=p+e by omega,←h1]at this;exact this
  rw [hm];exact⟨rfl,fun k9 u9=>C k9 (v8.trans u9)⟩
 ·have f:=ov f;have e1:e+((p+m.log2+1023).toNat:Nat)-1023=(p+e)+m.log2:=oq
  rw [e1,aCy (z:=p+e+m.log2) oq,hput _ h' oq];have hm:Sy.fltR .f64 .mul 4607182418800017408 (double.nearest s m (p+e))=some (double.nearest s m (p+e)):=by
   have h1:(4607182418800017408:Nat)=double.nearest false 1 0:=by decide +kernel
   have:=oK (s:=false) (t:=s) aQ (Has.one (p:=0) oz oz) h';rw [jo,Bool.false_xor,Int.zero_add,←h1]at this;exact this
  rw [hm];exact⟨rfl,fun k9 u9=>C k9 (v8.trans u9)⟩
theorem zS (h:Has double m p) (hn:-1022≤p+m.log2) (h':Has double m (p+e)) (he:-100000≤e∧e≤100000) (C:∀k',Up k k'→R k' (.float .f64 (double.nearest s m (p+e)))) :
 Cl k 93 #[.float .f64 (double.nearest s m p),.int .i64 e] R:=fun _ u0=>
 aCa (aPg h hn h' he fun _ u1=>⟨_,rfl,fun k2 u2=>C k2 (u0.trans (u1.trans u2))⟩)
end
open Go.RowKit Num Ieee
open Sy (Up Sees CallsG Seg)
theorem zH {m n:Nat}(h:Len B64 m (n+1)):bl m=64*n+bl (wq m n):=by
 have hB:∀j,B64^j=2^(64*j):=fun j=>by rw [fT,←vt]
 have ht:wq m n≠0:=h.top aE oq;have hd:m/B64^n=wq m n:=by
  unfold wq wd;refine (ob ?_).symm;rw [qg (oa aE),oi,←qc];exact h.lt
 have hp:0<B64^n:=oa aE;have e1:=jz m (B64^n);have e2:=qy m hp;rw [hd]at e1
 have hu:bl m≤64*n+bl (wq m n):=dD.2 (by
  have h1:=fW (wq m n);rw [qd,←hB];have:B64^n*(wq m n+1)≤B64^n*2^bl (wq m n):=ql _ h1;rw [zv,jk]at this
  omega)
 have hl:64*n+bl (wq m n)-1<bl m:=by
  refine vr fun hle=>?_;have h1:=dD.1 hle;have h2:=eD ht;have h3:bl (wq m n)≠0:=fun e=>by have h3:=fW (wq m n);rw [e]at h3;simp at h3;omega
  have e3:64*n+bl (wq m n)-1=64*n+(bl (wq m n)-1):=oq
  rw [e3,qd,←hB]at h1;have:B64^n*2^(bl (wq m n)-1)≤B64^n*wq m n:=ql _ h2;exact absurd h1 (Nat.not_lt.2 (jv this (by generalize B64^n*wq m n=y at e1;generalize m % B64^n=z at e1;omega)))
 omega
section
variable {k:World}{A A':Option Addr}{n n' c c' a b:Nat}{R:World→Value→Prop}
theorem aQu (h:LimR k A n c a) (h':LimR k A' n' c' b) (hn:n≤17179869184) (hn':n'≤17179869184) (C:∀k',Up k k'→R k' (.int .i64 (dU a b))) :
 Cl k 137 #[.slice A n c,.slice A' n' c'] R:=
 after (fun k0 u=>aGe fun w hs=>(aNt ((h.up u).sees hs) ((h'.up u).sees hs) hn hn').mono fun e w' ⟨h1,m,h2⟩=>⟨h1,by rw [h2];exact bY (Below.refl _ _) m⟩) fun k' v u e=>e▸C k' u
theorem aMh {y:Nat}(hy:y<18446744073709551616) (C:∀k',Up k k'→R k' (.int .i64 (bl y))) :
 Cl k 235 #[.int .u64 y] R:=
 after (fun k0 u=>aGe fun w hs=>(aEb y w hy).mono fun e w' ⟨h1,h2⟩=>⟨h1,by rw [←h2];exact Below.refl _ _⟩) fun k' v u e=>e▸C k' u
theorem vZ (h:LimR k A n c a) (hn:n≤100000000) (C:∀k',Up k k'→R k' (.int .i64 (bl a))) :
 Cl k 169 #[.slice A n c] R:=by
 intro k0 u0;replace h:=h.up u0;replace C:=fun k' u=>C k' (u0.trans u);refine aKt ⟨rfl,fun f=>?_,fun f=>⟨rfl,rfl,?_⟩⟩
 ·have f:n=0:=by simpa using f
  have ha:a=0:=by rw [h.zero_iff]at f;exact f
  subst ha;exact C
 have f:n≠0:=by simpa using f
 have hl:=h.len;obtain⟨g,o,rfl,hb,hw⟩:=RW.at_ h.lr (by rw [←h.len];omega);have h0:=hw (n-1) (by rw [←h.len];omega);have e1:wrap .i64 (((n:Nat):Int)-1)=((n-1:Nat):Int):=by rw [qa];omega
 rw [e1];refine⟨⟨g,o,rfl⟩,⟨oq,oq⟩,((wq a (n-1):Nat):Int),⟨rfl,fun j u hu=>?_⟩,aMh (bJ _ _) fun k2 u2=>⟨_,rfl,fun k3 u3=>?_⟩⟩
 ·cases j with
  | zero=>
   have e:u=.int .u64 ((wq a (n-1):Nat):Int):=by
    have h1:(#[Value.int .u64 ((wq a (n-1):Nat):Int)]:Array Value)[0]?=some u:=hu;simpa using h1.symm
   subst e;show Sy.cellAt _ _ _=_;unfold Sy.cellAt;have e2:o+(Int.toNat ((n-1:Nat):Int)*1+0+0)=o+(n-1):=by simp
   simp only [e2,h0];rfl
  | succ j=>
   have h1:(#[Value.int .u64 ((wq a (n-1):Nat):Int)]:Array Value)[j+1]?=some u:=hu;simp at h1
 ·have:=C k3 (u2.trans u3);have hw64:bl (wq a (n-1))≤64:=aOx (bJ _ _);have hlen:Len B64 a (n-1+1):=by
   rw [show n-1+1=n by omega,h.len];exact bM a
  have e3:wrap .i64 (wrap .i64 (64*((n-1:Nat):Int))+((bl (wq a (n-1)):Nat):Int))=((bl a:Nat):Int):=by
   rw [zH hlen,qa,qa];omega
  rwa [e3]
def yJ (a b:Nat) (e:Int):Nat:=FT.half (a*2^(-e).toNat) (b*2^e.toNat)
theorem aFk {e:Int}(h:LimR k A n c a) (h':LimR k A' n' c' b) (hb0:0<b) (hn:n≤1000000) (hn':n'≤1000000) (he:-1000000≤e∧e≤1000000)
 (C:∀k' B j d,Up k k'→LimR k' B j d (yJ a b e)→j≤2000002→R k' (.slice B j d)):Cl k 170 #[.slice A n c,.slice A' n' c',.int .i64 e] R:=by
 intro k0 u0;replace h:=h.up u0;replace h':=h'.up u0;replace C:=fun k' B j d u=>C k' B j d (u0.trans u);have e1:(if decide (e<0)=true then 0 else e)=((e.toNat:Nat):Int):=by
  by_cases g:e<0
  ·rw [og (decide_eq_true g)];omega
  ·rw [oh (by simp [g])];omega
 have e2:(if decide (wrap .i64 (0-e)<0)=true then 0 else wrap .i64 (0-e))=(((-e).toNat:Nat):Int):=by
  have ew:wrap .i64 (0-e)=-e:=by rw [qa];omega
  rw [ew]
  by_cases g:-e<0
  ·rw [og (decide_eq_true g)];omega
  ·rw [oh (by simp only [decide_eq_true_eq];exact g)];omega
 unfold yJ FT.half at C;refine aNp ?_;rw [e1,e2];refine jU h' oq oq fun k1 B1 j1 d1 u1 w1 l1=>⟨_,_,_,rfl,?_⟩;refine jU (h.up u1) oq oq fun k3 B3 j3 d3 u3 w3 l3=>⟨_,_,_,rfl,?_⟩;have hpos:0<b*2^e.toNat:=zp hb0 (om _);generalize a*2^(-e).toNat=x at *
 generalize b*2^e.toNat=y at *
 refine dG w3 (w1.up u3) hpos oq oq fun k5 B5 j5 d5 B6 j6 d6 u5 w5 w6 l5 l6=>⟨_,_,_,_,_,_,rfl,?_⟩;refine jU (s:=1) w6 oq oq fun k7 B7 j7 d7 u7 w7 l7=>⟨_,_,_,rfl,?_⟩;refine aQu w7 ((w1.up u3).up (u5.trans u7)) oq oq fun k9 u9=>⟨_,rfl,?_⟩;rw [wm,oi (x % y) 2]at *
 have v9:=u1.trans (u3.trans (u5.trans (u7.trans u9)));have w5':=w5.up (u7.trans u9);refine⟨fun f=>?_,fun f=>⟨fun f2=>?_,fun f2=>?_⟩⟩
 ·have f:=ow f;have hlt:y<2*(x % y):=by
   unfold dU at f;split at f
   ·omega
   ·split at f <;> omega
  refine sS oz fun k11 B11 j11 d11 u11 w11 l11=>⟨_,_,_,rfl,?_⟩;refine aIx (L:=2000001) (w5'.up u11) w11 oq oq oz fun k13 B13 j13 d13 u13 w13 l13=>⟨_,_,_,rfl,fun k14 u14=>C k14 _ _ _ (v9.trans (u11.trans (u13.trans u14))) ?_ oq⟩;have:=w13.up u14
  rwa [show x/y+1=x/y+(decide (y<2*(x % y)) || (y == 2*(x % y) && x/y % 2 == 1)).toNat by rw [decide_eq_true hlt];rfl]at this
 ·have f:=ov f;have f2:dU (2*(x % y)) y=0:=by simpa using f2
  have heq:y=2*(x % y):=by
   unfold dU at f2;split at f2
   ·omega
   ·split at f2
    ·omega
    ·omega
  refine aQr w5' fun k16 u16=>⟨_,rfl,fun f3=>?_,fun f3 k22 u22=>C k22 _ _ _ (v9.trans (u16.trans u22)) ?_ oq⟩
  ·have f3:x/y % 2=1:=by
    have:=eq_of_beq f3;omega
   refine sS oz fun k18 B18 j18 d18 u18 w18 l18=>⟨_,_,_,rfl,?_⟩;refine aIx (L:=2000001) (w5'.up (u16.trans u18)) w18 oq oq oz fun k20 B20 j20 d20 u20 w20 l20=>⟨_,_,_,rfl,fun k21 u21=>C k21 _ _ _ (v9.trans (u16.trans (u18.trans (u20.trans u21)))) ?_ oq⟩;have:=w20.up u21
   rwa [show x/y+1=x/y+(decide (y<2*(x % y)) || (y == 2*(x % y) && x/y % 2 == 1)).toNat by rw [decide_eq_false oq,beq_iff_eq.2 heq,beq_iff_eq.2 f3];rfl]at this
  ·have f3:¬ x/y % 2=1:=fun e=>by rw [e]at f3;cases f3
   have:=w5'.up (u16.trans u22)
   rwa [show x/y=x/y+(decide (y<2*(x % y)) || (y == 2*(x % y) && x/y % 2 == 1)).toNat by rw [decide_eq_false oq,beq_eq_false_iff_ne.2 f3];simp]at this
 ·intro u23;have f:=ov f;have f2:dU (2*(x % y)) y≠0:=by simpa using f2
  have hlt:2*(x % y)<y:=by
   unfold dU at f f2;split at f
   ·assumption
   ·rename_i g1;rw [oh g1]at f2;split at f
    ·rename_i g2;rw [og g2]at f2;exact absurd rfl f2
    ·omega
  intro v23;refine C u23 _ _ _ (v9.trans v23) ?_ oq;have:=w5'.up v23
  rwa [show x/y=x/y+(decide (y<2*(x % y)) || (y == 2*(x % y) && x/y % 2 == 1)).toNat by rw [decide_eq_false oq,beq_eq_false_iff_ne.2 oq];simp]at this
theorem yQ {s:Bool}{m:Nat}{p:Int}{D D':Option Addr}{l l' d d':Nat}(C:∀k',Up k k'→R k' (.float .f64 (double.nearest s m p))) :
 Cl k 171 #[.agg #[.bool s,.slice D l d,.slice D' l' d'],.float .f64 (double.nearest false m p)] R:=by
 intro k0 u0;refine aNq ⟨fun f k1 u1=>?_,fun f k1 u1=>?_⟩
 ·have:=C k1 (u0.trans u1);subst f;have e:Op.negFloat .f64 (double.nearest false m p)=double.nearest true m p:=FT.xU
  rwa [e]
 ·have:=C k1 (u0.trans u1);subst f;exact this
end
def iB (a d bits:Nat) (least:Int):Int:=max ((bl a:Int)-bl d-bits) least
def mC (a d:Nat) (e:Int):Nat:=(a*2^(-e).toNat) / (d*2^e.toNat)
def lT (a d bits:Nat) (least:Int):Int:=if bits<bl (mC a d (iB a d bits least)) then iB a d bits least+1 else iB a d bits least
def sW (a d bits:Nat) (least:Int):Nat:=yJ a d (lT a d bits least)
def gQ (s:Bool) (a d bits:Nat) (least beyond:Int):Nat:=
 if a=0 then 0 else if beyond<bl (sW a d bits least)+lT a d bits least then double.nearest s 1 5000
 else if sW a d bits least=0 then 0 else double.nearest s (sW a d bits least) (lT a d bits least)
theorem uN {a d bits:Nat}{e:Int}(hd:d≠0) (h:(bl a:Int)-bl d-bits≤e):mC a d e<2^(bits+1):=by
 unfold mC;refine Nat.div_lt_of_lt_mul ?_;have h1:=fW a;have h2:=eD hd;have hb:1≤bl d:=by
  rcases jg (bl d) with g|g
  ·have:=fW d;rw [g]at this;omega
  ·exact g
 have g1:a*2^(-e).toNat<2^(bl a+(-e).toNat):=by
  rw [qd];exact jw h1 (om _)
 have g2:2^(bl d-1+e.toNat+(bits+1))≤d*2^e.toNat*2^(bits+1):=by
  rw [qd,qd];exact ot _ (ot _ h2)
 exact qj g1 (jv (qp oz oq) g2)
theorem aJf {a d:Nat}{e:Int}:mC a d (e+1)=mC a d e/2:=by
 unfold mC
 by_cases c:0≤e
 ·rw [show (-(e+1)).toNat=0 by omega,show (-e).toNat=0 by omega,show (e+1).toNat=e.toNat+1 by omega,qe,qc,qt]
 ·rw [show (e+1).toNat=0 by omega,show e.toNat=0 by omega,show (-e).toNat=(-(e+1)).toNat+1 by omega,qe,qc,zw,jk,←qt,kn _ _ oz]
theorem aMf (x y:Nat):FT.half x y≤x/y+1:=by
 unfold FT.half;have:∀b:Bool,b.toNat≤1:=fun b=>by cases b <;> decide
 exact Nat.add_le_add_left (this _) _
theorem aHz {a d bits:Nat}{least:Int}(hd:d≠0):sW a d bits least≤2^bits:=by
 have hf:(bl a:Int)-bl d-bits≤iB a d bits least:=Int.le_max_left _ _;have hq:=uN hd hf;have key:mC a d (lT a d bits least)<2^bits:=by
  unfold lT;split
  ·rw [aJf];rw [qc]at hq;omega
  ·rename_i g;exact dD.1 oq
 have:=aMf (a*2^(-(lT a d bits least)).toNat) (d*2^(lT a d bits least).toNat);unfold sW yJ;unfold mC at key;omega
theorem two53 {s:Bool}{e:Int}:double.nearest s (2^53) e=double.nearest s 1 (53+e):=by
 have:=FT.cY (f:=double) (neg:=s) (m:=1) (k:=53) (p:=53+e) oz;rw [jo,show (53+e-((53:Nat):Int))=e by omega]at this;exact this
section
variable {k:World}{A D:Option Addr}{n c d e:Nat}{R:World→Value→Prop}{cs:Array Value}{q:Rat}{K:Nat}
theorem aHu {m:Nat}{e:Int}(h0:m≠0) (hm:m≤2^53) (h1:-1074≤e) (h2:(bl m:Int)+e≤1024) (C:∀k',Up k k'→R k' (.float .f64 (double.nearest false m e))) :
 Cl k 93 #[.float .f64 (FloatKind.nearest .f64 (m:Int)),.int .i64 e] R:=by
 have e0:FloatKind.nearest .f64 (m:Int)=double.nearest false m 0:=by
  unfold FloatKind.nearest FloatKind.encode Format.write;simp only [];rw [show decide ((m:Int)<0)=false from decide_eq_false oq,Int.natAbs_natCast];rfl
 have eb:bl m=m.log2+1:=by unfold bl;rw [oh h0]
 rw [e0];rcases zu m (2^53) with g|g
 ·have hl:m.log2<53:=(zh h0).2 g;have a1:FT.Has double m 0:=⟨h0,g,oz,by show (0:Int)+m.log2-52+1074+3≤2048;omega⟩;have a2:FT.Has double m (0+e):=⟨h0,g,by show (-1074:Int)≤_;omega,by show (0+e:Int)+m.log2-52+1074+3≤2048;omega⟩;have:=zS (k:=k) (R:=R) (s:=false) (e:=e) a1 oq a2 oq;rw [Int.zero_add]at this;exact this C
 ·obtain rfl:m=2^53:=xh hm g;have el:(2^53:Nat).log2=53:=Nat.log2_two_pow;have a1:FT.Has double 1 53:=FT.Has.one oz oz;have a2:FT.Has double 1 (53+e):=FT.Has.one oq (by rw [eb,el]at h2;omega);have h3:(1:Nat).log2=0:=rfl;have:=zS (k:=k) (R:=R) (s:=false) (e:=e) a1 (by rw [h3];decide) a2 (by rw [eb,el]at h2;omega);rw [two53]at C ⊢;exact this C
theorem uF {s:Bool}{a b bits:Nat}{least beyond:Int}{A4 A5 A6:Option Addr}{l4 l5 l6 c4 c5 c6:Nat}(h:LimR k A4 l4 c4 a) (h':LimR k A6 l6 c6 b) (ha:a≠0) (hb0:0<b) (hn:l4≤100000) (hn':l6≤100000)
 (hbits:bits≤53) (hleast:-1074≤least) (hbey:beyond≤1024) {e:Int}(he:e=lT a b bits least) (he2:e≤10000000)
 (he3:-1000000≤e∧e≤1000000)
 (C:∀k',Up k k'→R k' (.float .f64 (gQ s a b bits least beyond))) :
 (Cl k 170 #[Value.slice A4 l4 c4,Value.slice A6 l6 c6,Value.int .i64 e] fun k31 r30=>∃A14 l14 c14,some (Value.slice A14 l14 c14)=some r30∧
 Cl k31 169 #[Value.slice A14 l14 c14] fun k33 r32=>∃n15,some (Value.int .i64 n15)=some r32∧
 ((decide (((wrap .i64 (n15+e)):Int) > beyond))=true→
 (Cl k33 63 #[Value.int .i64 1] fun k35 r34=>∃n16:Nat,some (Value.float .f64 n16)=some r34∧
 Cl k35 171 #[Value.agg #[Value.bool s,Value.slice A4 l4 c4,Value.slice A5 l5 c5],Value.float .f64 n16] fun k37 r36=>∃n17:Nat,some (Value.float .f64 n17)=some r36∧
 ∀k38,Up k37 k38→R k38 (Value.float .f64 n17)))∧
 ((decide (((wrap .i64 (n15+e)):Int) > beyond))=false→
 (true=true∧(((((l14:Nat):Int) == 0)=true→
 (∀k39,Up k33 k39→R k39 (Value.float .f64 0)))∧
 ((((l14:Nat):Int) == 0)=false→
 ((∃b o,A14=some ⟨b,o,none⟩)∧((0:Int)≤0∧(0:Int)<(l14:Nat))∧
 ∃n16,Sy.ReadAt k33.cell? A14 (Int.toNat 0*1+0) 1 (Value.int .u64 n16)∧
 Cl k33 93 #[Value.float .f64 (FloatKind.nearest .f64 n16),Value.int .i64 e] fun k41 r40=>∃n17:Nat,some (Value.float .f64 n17)=some r40∧
 Cl k41 171 #[Value.agg #[Value.bool s,Value.slice A4 l4 c4,Value.slice A5 l5 c5],Value.float .f64 n17] fun k43 r42=>∃n18:Nat,some (Value.float .f64 n18)=some r42∧
 ∀k44,Up k43 k44→R k44 (Value.float .f64 n18))))))):=by
  intro k30 u30;have hlow:-1074≤e:=by
   have h1:least≤iB a b bits least:=Int.le_max_right _ _;rw [he];unfold lT;split <;> omega
  have hm:=aHz (a:=a) (bits:=bits) (least:=least) (show b≠0 by omega);have hm53:sW a b bits least≤2^53:=jv hm (qp oz hbits);unfold gQ at C;rw [oh ha,←he]at C;have em:yJ a b e=sW a b bits least:=by rw [he];rfl
  refine aFk (h.up u30) (h'.up u30) hb0 oq oq he3 (fun k31 B j d u31 w31 l31=>⟨_,_,_,rfl,?_⟩) k30 (Up.refl _);rw [em]at w31;generalize sW a b bits least=m at *
  have hbl:bl m≤54:=dD.2 (jb hm53 (vv oz oz));refine vZ w31 oq fun k33 u33=>⟨_,rfl,fun f=>?_,fun f=>⟨rfl,fun f2 k39 u39=>?_,fun f2=>?_⟩⟩
  all_goals have ew:wrap .i64 ((bl m:Nat)+e)=(bl m:Nat)+e:=by rw [qa];omega
  all_goals rw [ew]at f
  ·have f:=ow f;rw [og oq]at C;refine fun k34 u34=>aLz ⟨fun _ k35 u35=>⟨_,rfl,?_⟩,fun g=>absurd g oz⟩;have e1:(9218868437227405312:Nat)=double.nearest false 1 5000:=by decide +kernel
   rw [e1];exact yQ fun k37 u37=>⟨_,rfl,fun k38 u38=>C k38 (u30.trans (u31.trans (u33.trans (u34.trans (u35.trans (u37.trans u38))))))⟩
  ·have f:=ov f;have f2:j=0:=by simpa using f2
   have hm0:m=0:=by rw [w31.zero_iff]at f2;exact f2
   rw [oh oq,og hm0]at C;exact C k39 (u30.trans (u31.trans (u33.trans u39)))
  ·have f:=ov f;have f2:j≠0:=by simpa using f2
   have hm0:m≠0:=fun e=>f2 (by rw [w31.zero_iff];exact e);rw [oh oq,oh hm0]at C;have w33:=w31.up u33;obtain⟨g,o,rfl,hb,hw⟩:=RW.at_ w33.lr (by rw [←w33.len];omega);have h0:=hw 0 (by rw [←w33.len];omega);have hwq:wq m 0=m:=by
    unfold wq wd;rw [zw,wz];exact ob (jb hm53 oz)
   rw [hwq]at h0;refine⟨⟨g,o,rfl⟩,⟨oz,oq⟩,(m:Int),⟨rfl,fun i u hu=>?_⟩,?_⟩
   ·cases i with
    | zero=>
     have e:u=.int .u64 (m:Int):=by
      have h1:(#[Value.int .u64 (m:Int)]:Array Value)[0]?=some u:=hu;simpa using h1.symm
     subst e;show Sy.cellAt _ _ _=_;unfold Sy.cellAt;have e2:o+(Int.toNat 0*1+0+0)=o+0:=by simp
     simp only [e2,h0];rfl
    | succ i=>
     have h1:(#[Value.int .u64 (m:Int)]:Array Value)[i+1]?=some u:=hu;simp at h1
   ·refine aHu hm0 hm53 hlow oq fun k41 u41=>⟨_,rfl,?_⟩;exact yQ fun k43 u43=>⟨_,rfl,fun k44 u44=>C k44 (u30.trans (u31.trans (u33.trans (u41.trans (u43.trans u44)))))⟩
theorem aDd {bits:Nat}{least beyond:Int}(h:RatV k cs q K) (hK:K≤10000) (hbits:bits≤53) (hleast:-1074≤least) (hl0:least≤1000) (hbey:beyond≤1024)
 (C:∀k',Up k k'→R k' (.float .f64 (gQ (decide (q.num<0)) q.num.natAbs q.den bits least beyond))) :
 Cl k 86 #[.agg #[.int .i64 bits,.int .i64 least,.int .i64 beyond],.agg cs] R:=by
 intro k0 u0;replace h:=h.up u0;replace C:=fun k' u=>C k' (u0.trans u);obtain⟨g,A,n,c,D,d,e,rfl,hr,hn,hd⟩:=h;have hnum:=hr.num.lim;have hneg:=hr.num.neg;rw [←hneg]at C;refine aKs (bI (L:=10000) hr.den q.den_pos oq oz oz fun k1 B j d1 u1 w1 l1=>⟨_,_,_,rfl,rfl,fun f k2 u2=>?_,fun f=>?_⟩)
 ·have f:n=0:=by simpa using f
  have ha:q.num.natAbs=0:=by rw [hnum.zero_iff]at f;exact f
  have:=C k2 (u1.trans u2);unfold gQ at this
  rwa [og ha]at this
 have f:n≠0:=by simpa using f
 have ha:q.num.natAbs≠0:=fun e=>f (by rw [hnum.zero_iff];exact e);have hd0:q.den≠0:=q.den_nz;generalize q.num.natAbs=a at *
 generalize q.den=b at *
 have ba:∀Z,n≤Z→bl a≤64*Z:=fun Z hz=>dD.2 (by
  have:=(bM a).lt;rw [fT,←vt]at this;refine qj this (qp oz (ql _ ?_));rw [←hnum.len]
  exact hz)
 replace ba:=ba 10000 oq
 have bb:∀Z,j≤Z→bl b≤64*Z:=fun Z hz=>dD.2 (by
  have:=(bM b).lt;rw [fT,←vt]at this;refine qj this (qp oz (ql _ ?_));rw [←w1.len]
  exact hz)
 replace bb:=bb 10000 oq;refine vZ (hnum.up u1) oq fun k4 u4=>⟨_,rfl,?_⟩;refine vZ (w1.up u4) oq fun k6 u6=>⟨_,rfl,?_⟩;have eE:(if (decide (((wrap .i64 ((wrap .i64 (((bl a:Nat):Int)-((bl b:Nat):Int)))-(bits:Int))):Int)<least))=true then least else (wrap .i64 ((wrap .i64 (((bl a:Nat):Int)-((bl b:Nat):Int)))-(bits:Int))))=iB a b bits least:=by
  have e1:wrap .i64 ((wrap .i64 (((bl a:Nat):Int)-((bl b:Nat):Int)))-(bits:Int))=(bl a:Int)-bl b-bits:=by
   rw [qa,qa];omega
  rw [e1];unfold iB;split
  ·rename_i g;have:=ow g;omega
  ·rename_i g;have:¬ ((bl a:Int)-bl b-bits<least):=fun h=>g (decide_eq_true h);omega
 try dsimp only
 rw [eE];have hE:-1074≤iB a b bits least∧iB a b bits least≤640000:=by
  unfold iB;omega
 have hlst:lT a b bits least=if bits<bl (mC a b (iB a b bits least)) then iB a b bits least+1 else iB a b bits least:=rfl;have hquo:mC a b (iB a b bits least)=(a*2^(-iB a b bits least).toNat) / (b*2^(iB a b bits least).toNat):=rfl;generalize iB a b bits least=E at *
 have e1:(if decide (E<0)=true then 0 else E)=((E.toNat:Nat):Int):=by
  by_cases g:E<0
  ·rw [og (decide_eq_true g)];omega
  ·rw [oh (by simp [g])];omega
 have e2:(if decide (wrap .i64 (0-E)<0)=true then 0 else wrap .i64 (0-E))=(((-E).toNat:Nat):Int):=by
  have ew:wrap .i64 (0-E)=-E:=by rw [qa];omega
  rw [ew]
  by_cases g:-E<0
  ·rw [og (decide_eq_true g)];omega
  ·rw [oh (by simp only [decide_eq_true_eq];exact g)];omega
 have e3:wrap .i64 (E+1)=E+1:=by rw [qa];omega
 rw [e1,e2,e3];have v6:=u1.trans (u4.trans u6);refine jU (hnum.up v6) oq oq fun k8 B8 j8 d8 u8 w8 l8=>⟨_,_,_,rfl,?_⟩;refine jU ((w1.up (u4.trans u6)).up u8) oq oq fun k10 B10 j10 d10 u10 w10 l10=>⟨_,_,_,rfl,?_⟩;refine dG (w8.up u10) w10 (zp oq (om _)) oq oq fun k12 B12 j12 d12 B13 j13 d13 u12 w12 w13 l12 l13=>⟨_,_,_,_,_,_,rfl,?_⟩;rw [←hquo]at w12;have v12:=v6.trans (u8.trans (u10.trans u12));refine vZ w12 oq fun k14 u14=>⟨_,rfl,fun f=>?_,fun f=>?_⟩
 ·have f:=ow f;rw [og oq]at hlst;exact uF ((hnum.up v12).up u14) (w1.up (u4.trans (u6.trans (u8.trans (u10.trans (u12.trans u14)))))) ha oq oq oq hbits hleast hbey hlst.symm oq oq fun k' u=>C k' (v12.trans (u14.trans u))
 ·have f:=ov f;rw [oh oq]at hlst;exact uF ((hnum.up v12).up u14) (w1.up (u4.trans (u6.trans (u8.trans (u10.trans (u12.trans u14)))))) ha oq oq oq hbits hleast hbey hlst.symm oq oq fun k' u=>C k' (v12.trans (u14.trans u))
end
def below2 (a d:Nat) (e:Int):Prop:=a*2^(-e).toNat<d*2^e.toNat
instance (a d:Nat) (e:Int):Decidable (below2 a d e):=by unfold below2;exact inferInstance
theorem zF {a d:Nat}{e:Int}(h:below2 a d e) (_hd:d≠0):below2 a d (e+1):=by
 unfold below2 at *
 by_cases c:0≤e
 ·rw [show (-(e+1)).toNat=0 by omega,show (e+1).toNat=e.toNat+1 by omega,qc,←qt];rw [show (-e).toNat=0 by omega]at h;omega
 ·rw [show (e+1).toNat=0 by omega];rw [show e.toNat=0 by omega,show (-e).toNat=(-(e+1)).toNat+1 by omega,qc,←qt]at h;omega
theorem tC {a d:Nat}{e:Int}(hd:d≠0) (h:below2 a d e):∀n:Nat,below2 a d (e+n)
 | 0=>by simpa using h
 | n+1=>by
  have:=zF (tC hd h n) hd
  rwa [show e+(n:Int)+1=e+((n+1:Nat):Int) by omega]at this
theorem jM {a d:Nat}{e f:Int}(hd:d≠0) (h:below2 a d e) (hf:e≤f):below2 a d f:=by
 have:=tC hd h (f-e).toNat
 rwa [show e+((f-e).toNat:Int)=f by omega]at this
theorem kT {a d bits:Nat}{f:Int}(hd:d≠0):bl (mC a d f)≤bits↔below2 a d (f+bits):=by
 rw [dD];unfold mC below2;rw [qg (zp oq (om _))]
 by_cases c:0≤f
 ·rw [show (-f).toNat=0 by omega,show (-(f+bits)).toNat=0 by omega,show (f+bits).toNat=f.toNat+bits by omega,qd];rw [show 2^bits*(d*2^f.toNat)=d*(2^f.toNat*2^bits) by ac_rfl]
 ·rw [show f.toNat=0 by omega,zw,jk]
  by_cases g:0≤f+bits
  ·rw [show (-(f+bits)).toNat=0 by omega,zw,jk];have e:2^bits*d=d*2^(f+bits).toNat*2^(-f).toNat:=by
    rw [qt,←qd,show (f+bits).toNat+(-f).toNat=bits by omega,oi]
   rw [e];exact Nat.mul_lt_mul_right (om _)
  ·rw [show (f+bits).toNat=0 by omega,zw,jk];have e:a*2^(-f).toNat=a*2^(-(f+bits)).toNat*2^bits:=by
    rw [qt,←qd,show (-(f+bits)).toNat+bits=(-f).toNat by omega]
   rw [e,oi (2^bits) d];exact Nat.mul_lt_mul_right (om _)
theorem qW {a d:Nat}(hd:d≠0):below2 a d ((bl a:Int)-bl d+1):=by
 have:=(kT (a:=a) (bits:=1) (f:=(bl a:Int)-bl d) hd).1 (dD.2 (uN (bits:=0) hd oq));exact this
theorem aPm {a d bits:Nat}{least:Int}(hd:d≠0):lT a d bits least=max ((if below2 a d ((bl a:Int)-bl d) then (bl a:Int)-bl d-1 else (bl a:Int)-bl d)-bits+1) least:=by
 have hn:=qW (a:=a) hd;unfold lT;have hq:=kT (a:=a) (bits:=bits) (f:=iB a d bits least) hd;have hf:iB a d bits least=max ((bl a:Int)-bl d-bits) least:=rfl;generalize iB a d bits least=f at *
 generalize (bl a:Int)-bl d=e0 at *
 by_cases c:below2 a d e0
 ·rw [og c];have:below2 a d (f+bits):=jM hd c oq;have:=hq.2 this;rw [oh oq];omega
 ·rw [oh c]
  by_cases g:least≤e0-bits
  ·have hfe:f=e0-bits:=oq
   have:¬ below2 a d (f+bits):=by rw [hfe,show e0-(bits:Int)+bits=e0 by omega];exact c
   have:¬ bl (mC a d f)≤bits:=fun h=>this (hq.1 h);rw [og oq];omega
  ·have:below2 a d (f+bits):=jM hd hn oq;have:=hq.2 this;rw [oh oq];omega
def yT (a d:Nat):Int:=if below2 a d ((bl a:Int)-bl d) then (bl a:Int)-bl d-1 else (bl a:Int)-bl d
theorem aEq {a d:Nat}(ha:a≠0) (_hd:d≠0):¬ below2 a d (yT a d):=by
 unfold yT;split
 ·have hba:1≤bl a:=by unfold bl;rw [oh ha];omega
  have h1:=eD ha;have h2:=fW d;unfold below2;generalize he:(bl a:Int)-bl d-1=e;have g1:2^(bl a-1+(-e).toNat)≤a*2^(-e).toNat:=by
   rw [qd];exact ot _ h1
  have g2:d*2^e.toNat<2^(bl d+e.toNat):=by
   rw [qd];exact jw h2 (om _)
  have g3:bl d+e.toNat=bl a-1+(-e).toNat:=oq
  rw [g3]at g2;omega
 ·assumption
theorem aMe (x y:Nat):x/y≤FT.half x y:=by unfold FT.half;exact yf _ _
open Num Ieee FT
theorem aHo {X d S:Nat}(hd:0<d):half X (d*(2*S))=half (2*(X/d)+(if X % d=0 then 0 else 1)) (2*(2*S)):=by
 have h1:X/(d*(2*S))=X/d/(2*S):=(qe X d (2*S)).symm;have h2:X % (d*(2*S))=X % d+d*(X/d % (2*S)):=Nat.mod_mul;have hr:X % d<d:=qy _ hd;have h3:(2*(X/d)+(if X % d=0 then 0 else 1)) / (2*(2*S))=X/d/(2*S):=by
  rw [←qe]
  congr 1
  split <;> omega
 have h4:(2*(X/d)+(if X % d=0 then 0 else 1)) % (2*(2*S))=2*(X/d % (2*S))+(if X % d=0 then 0 else 1):=by
  rw [Nat.mod_mul];have e1:(2*(X/d)+(if X % d=0 then 0 else 1)) / 2=X/d:=by split <;> omega
  have e2:(2*(X/d)+(if X % d=0 then 0 else 1)) % 2=(if X % d=0 then 0 else 1):=by split <;> omega
  rw [e1,e2];omega
 unfold half;rw [h1,h2,h3,h4];generalize X/d/(2*S)=q;generalize X/d % (2*S)=m;generalize X % d=r at hr;have a1:decide (d*(2*S)<2*(r+d*m))=decide (2*(2*S)<2*(2*m+(if r=0 then 0 else 1))):=by
  apply decide_eq_decide.2;rw [show d*(2*S)=2*(d*S) by ac_rfl];rcases xr S m with g|g|g
  ·have:d*S+d≤d*m:=by
    have:=ql d (show S+1≤m from g)
    rwa [zv,jk]at this
   split <;> omega
  ·subst g;split <;> omega
  ·have:d*m+d≤d*S:=by
    have:=ql d (show m+1≤S from g)
    rwa [zv,jk]at this
   split <;> omega
 have a2:(d*(2*S) == 2*(r+d*m))=(2*(2*S) == 2*(2*m+(if r=0 then 0 else 1))):=by
  rw [vf,beq_iff_eq,beq_iff_eq];rw [show d*(2*S)=2*(d*S) by ac_rfl];rcases xr S m with g|g|g
  ·have:d*S+d≤d*m:=by
    have:=ql d (show S+1≤m from g)
    rwa [zv,jk]at this
   split <;> omega
  ·subst g;split <;> omega
  ·have:d*m+d≤d*S:=by
    have:=ql d (show m+1≤S from g)
    rwa [zv,jk]at this
   split <;> omega
 rw [a1,a2]
def cG (G a d:Nat):Nat:=2*(a*2^G/d)+(if a*2^G % d=0 then 0 else 1)
def aJj (bits t c:Nat):Nat:=half c (2^max (bl c-bits) t)*2^max (bl c-bits) t
def aDc (s:Bool) (beyond:Int) (G u:Nat):Nat:=
 if u=0 then 0 else if beyond+(G+1)<bl u then double.nearest s 1 5000 else double.nearest s u (-((G+1:Nat):Int))
theorem zG {m k:Nat}(hm:m≠0):bl (m*2^k)=bl m+k:=by
 have hne:m*2^k≠0:=zq hm (by have:=om k;omega);unfold bl;rw [oh hm,oh hne,dV hm];omega
theorem aQs {m k:Nat}:k<bl m↔2^k≤m:=by
 have:=dD (n:=m) (k:=k);omega
theorem aGq {z:Nat}(h:z≠0) (b:Nat) (hb:b≤1):bl (2*z+b)=bl z+1:=by
 have h1:=fW z;have h2:=eD h;have hb1:1≤bl z:=by unfold bl;rw [oh h];omega
 refine xh (dD.2 ?_) (aQs.2 ?_)
 ·rw [qc];omega
 ·rw [show bl z=bl z-1+1 by omega,qc];omega
theorem aJe {G a d t:Nat}(hd:d≠0) (ht:2≤t):yJ a d ((t:Int)-(G+1))=half (cG G a d) (2^t):=by
 have key:yJ a d ((t:Int)-(G+1))=half (a*2^G) (d*(2*2^(t-2))):=by
  unfold yJ;have e2:2*2^(t-2)=2^(t-1):=by rw [oi,←qc];congr 1;omega
  rw [e2];generalize he:(t:Int)-(G+1)=e;have e3:a*2^G=a*2^(-e).toNat*2^(G-(-e).toNat):=by
   rw [qt,←qd];congr 2;omega
  have e4:d*2^(t-1)=d*2^e.toNat*2^(G-(-e).toNat):=by
   rw [qt,←qd];congr 2;omega
  rw [e3,e4,rO (om _)]
 rw [key,aHo oq]
 congr 1
 rw [show 2^t=2^(t-2+2) by congr 1;omega,qc,qc];omega
theorem aDh (G d:Nat):cG G 0 d=0:=by unfold cG;rw [zg,Nat.zero_div,Nat.zero_mod];rfl
theorem aHx {G a d bits:Nat}{least:Int}(ha:a≠0) (hd:d≠0) (hb:1≤bits) (hl:1≤least+G) :
 lT a d bits least=((max (bl (cG G a d)-bits) (least+G+1).toNat:Nat):Int)-(G+1):=by
 rw [aPm hd,show (if below2 a d ((bl a:Int)-bl d) then (bl a:Int)-bl d-1 else (bl a:Int)-bl d)=yT a d from rfl];have h0:=aEq (a:=a) ha hd;have h1:below2 a d (yT a d+1):=by
  unfold yT;split
  ·rename_i h;rwa [show (bl a:Int)-bl d-1+1=(bl a:Int)-bl d by omega]
  ·exact qW hd
 by_cases hz:a*2^G/d=0
 ·have hlt:a*2^G<d:=by
   rcases Nat.div_eq_zero_iff.1 hz with h|h
   ·exact absurd h hd
   ·exact h
  have hc:bl (cG G a d)≤1:=by
   unfold cG;rw [hz];split <;> decide
  have ht:yT a d < -(G:Int):=xf fun c=>h0 (by
   refine jM hd (e:=-(G:Int)) ?_ oq;unfold below2;rw [show (- -(G:Int)).toNat=G by omega,show (-(G:Int)).toNat=0 by omega,zw,jk]
   exact hlt)
  omega
 ·have hc:bl (cG G a d)=bl (a*2^G/d)+1:=by
   unfold cG;split
   ·exact aGq hz 0 oz
   ·exact aGq hz 1 oz
  have g1:yT a d+1≤(bl (a*2^G/d):Int)-G:=by
   refine xf fun c=>h0 (jM hd (e:=(bl (a*2^G/d):Int)-G) ?_ oq)
   have hq:=(kT (a:=a) (bits:=bl (a*2^G/d)) (f:=-(G:Int)) hd).1 (by
    unfold mC;rw [show (- -(G:Int)).toNat=G by omega,show (-(G:Int)).toNat=0 by omega,zw,jk]
    exact oy _)
   rwa [show -(G:Int)+(bl (a*2^G/d):Nat)=(bl (a*2^G/d):Int)-G by omega]at hq
  have g2:(bl (a*2^G/d):Int)-G≤yT a d+1:=by
   have hbz:1≤bl (a*2^G/d):=by unfold bl;rw [oh hz];omega
   refine xf fun c=>?_;have hq:=(kT (a:=a) (bits:=bl (a*2^G/d)-1) (f:=-(G:Int)) hd).2 (jM hd h1 oq);unfold mC at hq;rw [show (- -(G:Int)).toNat=G by omega,show (-(G:Int)).toNat=0 by omega,zw,jk]at hq;omega
  omega
theorem aAd {s:Bool}{G a d bits:Nat}{least beyond:Int}(hd:d≠0) (hb:1≤bits) (hl:1≤least+G) (hlb:least≤beyond) :
 gQ s a d bits least beyond=aDc s beyond G (aJj bits (least+G+1).toNat (cG G a d)):=by
 unfold gQ aDc aJj
 by_cases ha:a=0
 ·subst ha;rw [og rfl,aDh];have:half 0 (2^max (bl 0-bits) (least+G+1).toNat)=0:=by
   have:=mV (a:=0) (G:=2^max (bl 0-bits) (least+G+1).toNat) (om _)
   rwa [zg]at this
  rw [this,zg,og rfl]
 rw [oh ha];have el:=aHx (bits:=bits) (least:=least) ha hd hb hl;have em:sW a d bits least=half (cG G a d) (2^max (bl (cG G a d)-bits) (least+G+1).toNat):=by
  unfold sW;rw [el];exact aJe hd oq
 rw [el,em];have hz:half (cG G a d) (2^max (bl (cG G a d)-bits) (least+G+1).toNat)=0→max (bl (cG G a d)-bits) (least+G+1).toNat=(least+G+1).toNat:=fun h=>by
  have h1:=aMe (cG G a d) (2^max (bl (cG G a d)-bits) (least+G+1).toNat);rw [h]at h1;have h2:cG G a d<2^max (bl (cG G a d)-bits) (least+G+1).toNat:=by
   rcases Nat.div_eq_zero_iff.1 (Nat.le_zero.1 h1) with g|g
   ·have:=om (max (bl (cG G a d)-bits) (least+G+1).toNat);omega
   ·exact g
  have h3:=dD.2 h2;omega
 generalize max (bl (cG G a d)-bits) (least+G+1).toNat=t at *
 generalize half (cG G a d) (2^t)=m at *
 by_cases hm:m=0
 ·subst hm;rw [zg,og rfl,og rfl];have h0:bl 0=0:=rfl;have:=hz rfl;rw [h0,oh oq]
 ·have hne:m*2^t≠0:=zq hm (by have:=om t;omega);rw [oh hm,oh hne,zG hm];have e:double.nearest s (m*2^t) (-((G+1:Nat):Int))=double.nearest s m ((t:Int)-(G+1)):=by
   have:=cY (f:=double) (neg:=s) (m:=m) (k:=t) (p:=(t:Int)-(G+1)) hm
   rwa [show (t:Int)-(G+1)-(t:Nat)=-((G+1:Nat):Int) by omega]at this
  rw [e]
  by_cases c:beyond+(G+1)<((bl m+t:Nat):Int)
  ·rw [og oq,og c]
  ·rw [oh oq,oh c]
theorem tE {G a d a' d':Nat}(hd:0<d) (hd':0<d') (h:a*d'≤a'*d):cG G a d≤cG G a' d':=by
 have h1:a*2^G*d'≤a'*2^G*d:=by
  rw [Nat.mul_right_comm,Nat.mul_right_comm a'];exact ot _ h
 unfold cG;generalize a*2^G=X at *
 generalize a'*2^G=Y at *
 have hx:=jz X d;have hy:=jz Y d';have hr:=qy X hd;have hr':=qy Y hd';have h2:X/d≤Y/d':=by
  rw [zf hd'];have h3:X/d*d'*d≤Y*d:=by
   refine jv ?_ h1;rw [Nat.mul_right_comm];exact ot _ (ze X d)
  exact Nat.le_of_mul_le_mul_right h3 hd
 rcases zu (X/d) (Y/d') with g|g
 ·split <;> split <;> omega
 ·have e:X/d=Y/d':=xh h2 g
  by_cases c:Y % d'=0
  ·have hc:X % d=0:=by
    rw [c,jx,←e]at hy;rw [←hx,←hy]at h1;generalize X/d=q at *
    rw [jt,qt,oi (d'*q) d,←qt,←qt]at h1;have e2:d*q*d'=d*d'*q:=by ac_rfl
    rw [e2]at h1;have h4:X % d*d'=0:=oq
    rcases Nat.mul_eq_zero.1 h4 with z|z
    ·exact z
    ·omega
   rw [og hc,og c];omega
  ·rw [oh c];split <;> omega
namespace FT
theorem aQv (k:FloatKind) (x:Nat):FloatKind.decode k x=k.format.read x:=rfl
theorem jP {k k':FloatKind}{s:Bool}{m:Nat}{p:Int}(hk:k≠k') (g:Good k.format) (g':Good k'.format) (h:Has k.format m p) (h':Has k'.format m p) :
 Sy.f2f k k' (k.format.nearest s m p)=k'.format.nearest s m p∧Sy.f2fOk k k' (k.format.nearest s m p)=true:=by
 have e:FloatKind.decode k (k.format.nearest s m p)=.number s (m*2^(p-last k.format m p).toNat) (last k.format m p):=h.read g;have e2:FloatKind.encode k' (.number s (m*2^(p-last k.format m p).toNat) (last k.format m p))=k'.format.nearest s m p:=by
  show k'.format.nearest s _ _=_;have:=h.last_le;generalize last k.format m p=i at *
  rw [show i=p-((p-i).toNat:Nat) by omega];rw [show (p-(p-(((p-i).toNat:Nat):Int))).toNat=(p-i).toNat by omega];exact cY h.ne
 unfold Sy.f2f Sy.f2fOk;rw [e,oh hk,e2];refine⟨rfl,?_⟩;simp only [];rw [e2,aQv,h'.read g'];simp [Datum.isInfinity]
end FT
open FT
theorem xL {m:Nat}{e:Int}(h0:m≠0) (hm:m<2^53) (h1:-1074≤e) (h2:(bl m:Int)+e≤1024):Has double m e:=by
 have eb:bl m=m.log2+1:=by unfold bl;rw [oh h0]
 exact⟨h0,hm,h1,by show e+m.log2-52+1074+3≤2048;omega⟩
theorem tU {m:Nat}{e:Int}(h0:m≠0) (hm:m<2^24) (h1:-149≤e) (h2:(bl m:Int)+e≤128):Has single m e:=by
 have eb:bl m=m.log2+1:=by unfold bl;rw [oh h0]
 exact⟨h0,hm,h1,by show e+m.log2-23+149+3≤256;omega⟩
theorem aRt {f:Ieee.Format}{s:Bool}{e:Int}(k:Nat):f.nearest s (2^k) e=f.nearest s 1 (k+e):=by
 have:=FT.cY (f:=f) (neg:=s) (m:=1) (k:=k) (p:=k+e) oz;rw [jo,show ((k:Int)+e-(k:Nat))=e by omega]at this;exact this
theorem aJy {s:Bool}{m:Nat}{e:Int}(h0:m≠0) (hm:m≤2^24) (h1:-149≤e) (h2:(bl m:Int)+e≤128) :
 Sy.f2fOk .f64 .f32 (double.nearest s m e)=true∧Sy.f2fOk .f32 .f64 (Sy.f2f .f64 .f32 (double.nearest s m e))=true:=by
 have key:∀m e,Has double m e→Has single m e→Sy.f2fOk .f64 .f32 (double.nearest s m e)=true∧Sy.f2fOk .f32 .f64 (Sy.f2f .f64 .f32 (double.nearest s m e))=true:=fun m e a b=>by
  obtain⟨c1,c2⟩:=jP (k:=.f64) (k':=.f32) (s:=s) oz aQ fQ a b;obtain⟨c3,c4⟩:=jP (k:=.f32) (k':=.f64) (s:=s) oz fQ aQ b a
  exact⟨c2,by
   have:Sy.f2f .f64 .f32 (double.nearest s m e)=single.nearest s m e:=c1;rw [this]
   exact c4⟩
 rcases zu m (2^24) with g|g
 ·exact key m e (xL h0 (zr g (vv oz oz)) oq oq) (tU h0 g h1 h2)
 ·obtain rfl:m=2^24:=xh hm g;have el:bl (2^24)=25:=by decide +kernel
  rw [aRt];rw [el]at h2;have b1:bl 1=1:=by decide +kernel
  exact key 1 _ (xL oz oz oq (by rw [b1];omega)) (tU oz oz oq (by rw [b1];omega))
theorem aEm {s:Bool}{a d:Nat}(hd:d≠0):Sy.f2fOk .f64 .f32 (gQ s a d 24 (-149) 128)=true∧Sy.f2fOk .f32 .f64 (Sy.f2f .f64 .f32 (gQ s a d 24 (-149) 128))=true:=by
 have z:Sy.f2fOk .f64 .f32 0=true∧Sy.f2fOk .f32 .f64 (Sy.f2f .f64 .f32 0)=true:=by decide +kernel
 have i:∀s,Sy.f2fOk .f64 .f32 (double.nearest s 1 5000)=true∧Sy.f2fOk .f32 .f64 (Sy.f2f .f64 .f32 (double.nearest s 1 5000))=true:=by decide +kernel
 unfold gQ;split
 ·exact z
 ·split
  ·exact i s
  ·split
   ·exact z
   ·rename_i h1 h2 h3;have hlow:-149≤lT a d 24 (-149):=by
     have h1:-149≤iB a d 24 (-149):=Int.le_max_right _ _;unfold lT;split <;> omega
    exact aJy h3 (aHz hd) hlow oq
section
variable {k:World}{R:World→Value→Prop}{cs:Array Value}{q:Rat}{K:Nat}
theorem aNo (h:RatV k cs q K) (hK:K≤10000) (C:∀k',Up k k'→R k' (.float .f64 (gQ (decide (q.num<0)) q.num.natAbs q.den 53 (-1074) 1024))) :
 Cl k 13 #[.agg cs] R:=by
 intro k0 u0;have h':=h;obtain⟨g,A,n,c,D,d,e,rfl,_⟩:=h';refine aKq fun k1 u1=>aKr fun k2 u2=>⟨_,_,_,rfl,?_⟩;exact aDd (bits:=53) (h.up (u0.trans (u1.trans u2))) hK oz oz oz oz fun k3 u3=>⟨_,rfl,fun k4 u4=>C k4 (u0.trans (u1.trans (u2.trans (u3.trans u4))))⟩
theorem aGf (h:RatV k cs q K) (hK:K≤10000) (C:∀k',Up k k'→R k' (.float .f32 (Sy.f2f .f64 .f32 (gQ (decide (q.num<0)) q.num.natAbs q.den 24 (-149) 128)))) :
 Cl k 15 #[.agg cs] R:=by
 intro k0 u0;have h':=h;obtain⟨g,A,n,c,D,d,e,rfl,_⟩:=h';refine aBl fun k1 u1=>aGg fun k2 u2=>⟨_,_,_,rfl,?_⟩;exact aDd (bits:=24) (h.up (u0.trans (u1.trans u2))) hK oz oz oz oz fun k3 u3=>⟨_,rfl,(aEm q.den_nz).1,fun k4 u4=>C k4 (u0.trans (u1.trans (u2.trans (u3.trans u4))))⟩
end
open Num Ieee FT Plain
theorem aBq:bl 0=0:=rfl
def InF (G u:Nat):Prop:=∃m p,Has double m p∧-((G+1:Nat):Int)≤p∧u=m*2^(p+(G+1:Nat)).toNat
def Img (b:Int) (G u:Nat):Prop:=u=0∨(u≠0∧b+(G+1)<bl u)∨(u≠0∧¬ b+(G+1)<bl u∧InF G u)
theorem kU:double.read 0=.number false 0 (-1074):=by decide +kernel
theorem vD {x y:Int}(h:(some (compare x y) == some Ordering.eq)=true):x=y:=by
 simp only [compare,compareOfLessAndEq]at h
 by_cases a:x<y
 ·rw [og a]at h;cases h
 ·rw [oh a]at h
  by_cases c:x=y
  ·exact c
  ·rw [oh c]at h;cases h
def gZ (q:Rat) (bits:Nat) (least beyond:Int):Nat:=gQ (decide (q.num<0)) q.num.natAbs q.den bits least beyond
section
variable {lo hi x:Rat}{bits:Nat}{least beyond:Int}
structure Fmt (bits:Nat) (least beyond:Int):Prop where
 one:1≤bits
 bits:bits≤53
 low:-1074≤least
 top:beyond≤1024
 mid:least≤beyond
theorem aHh:Fmt 53 (-1074) 1024:=⟨oz,oz,oz,oz,oz⟩
theorem aDv:Fmt 24 (-149) 128:=⟨oz,oz,oz,oz,oz⟩
def uQ (q:Rat) (bits:Nat) (least:Int):Nat:=aJj bits (least+(1075:Nat)+1).toNat (cG 1075 q.num.natAbs q.den)
theorem aIk (F:Fmt bits least beyond) (q:Rat):gZ q bits least beyond=aDc (decide (q.num<0)) beyond 1075 (uQ q bits least):=
 aAd q.den_nz F.one (by have:=F.low;omega) F.mid
end
def fP (s:Bool) (m:Nat) (p:Int):Rat:=mkRat (sgn s (m*2^p.toNat)) (2^(-p).toNat)
theorem aGw {G m:Nat}{p:Int}(hp:-(G:Int)≤p):cG G (m*2^p.toNat) (2^(-p).toNat)=m*2^(p+G+1).toNat:=by
 have e:m*2^p.toNat*2^G=m*2^(p+G).toNat*2^(-p).toNat:=by
  rw [qt,qt,←qd,←qd]
  congr 2
  omega
 unfold cG;rw [e,yq _ (om _),Nat.mul_mod_left,og rfl,jx,show (p+G+1).toNat=(p+G).toNat+1 by omega,qc]
 ac_rfl
theorem aGv {G M D:Nat}(hD:0<D):cG G (M/Nat.gcd M D) (D/Nat.gcd M D)=cG G M D:=by
 have hg:0<Nat.gcd M D:=Nat.gcd_pos_of_pos_right M hD;obtain⟨a,ha⟩:=ky M D;obtain⟨d,hd⟩:=ww M D;generalize Nat.gcd M D=g at *
 have e1:M/g=a:=by rw [ha,xe _ hg]
 have e2:D/g=d:=by rw [hd,xe _ hg]
 have hd0:0<d:=zd fun e=>by rw [e,Nat.mul_zero]at hd;omega
 rw [e1,e2];have e3:a*D=M*d:=by rw [ha,hd];ac_rfl
 exact xh (tE hd0 hD oq) (tE hD hd0 oq)
theorem aFj {bits t e m:Nat}(hm:m≠0) (hb:bl m≤bits) (ht:t≤e):aJj bits t (m*2^e)=m*2^e:=by
 unfold aJj;rw [zG hm];generalize hw:max (bl m+e-bits) t=w;have e1:m*2^e=m*2^(e-w)*2^w:=by
  rw [qt,←qd]
  congr 2
  omega
 rw [e1,mV (om _)]
theorem uT {s:Bool}{M:Nat}(h:M≠0):decide (sgn s M<0)=s:=by
 unfold sgn;cases s <;> simp <;> omega
theorem xS {s:Bool}{m bits:Nat}{p least beyond:Int}(F:Fmt bits least beyond) (h0:m≠0) (hb:bl m≤bits) (hl:least≤p) (ht:(bl m:Int)+p≤beyond) :
 gZ (fP s m p) bits least beyond=double.nearest s m p:=by
 have hlow:=F.low;have hM:m*2^p.toNat≠0:=zq h0 (wj (om _));rw [aIk F];unfold uQ fP;rw [oJ _ (om _),uT hM,kO _ (om _),mZ _ (om _),nM,aGv (om _)];generalize hG:(1075:Nat)=G;rw [aGw oq,aFj h0 hb oq];have hne:m*2^(p+G+1).toNat≠0:=zq h0 (wj (om _));unfold aDc;rw [oh hne,zG h0,oh oq];have:=cY (f:=double) (neg:=s) (m:=m) (k:=(p+G+1).toNat) (p:=p) h0
 rwa [show p-((p+G+1).toNat:Nat)=-((G+1:Nat):Int) by omega]at this
theorem uG {bits:Nat}{least beyond:Int}:gZ 0 bits least beyond=0:=by
 unfold gZ gQ;rfl
def cB (w:Nat):Nat:=w/2^52 % 2048
def fA (w:Nat):Nat:=w % 2^52
def dK (w:Nat):Bool:=w/2^63 == 1
def dS (w:Nat):Nat:=if cB w=0 then fA w else 2^52+fA w
def iZ (w:Nat):Int:=(max (cB w) 1:Nat)-1075
theorem qP (w:Nat):w % 2^63=cB w*2^52+fA w:=by
 unfold cB fA;omega
theorem qR {w:Nat}(h:w<2^64):w=double.word (dK w) (w % 2^63):=by
 unfold Format.word dK;have es:double.signWeight=2^63:=rfl;have hd:w/2^63<2:=Nat.div_lt_of_lt_mul h;have hw:=jz w (2^63);rw [es];rcases zu (w/2^63) 1 with g|g
 ·have e:w/2^63=0:=oq
  rw [e]at hw ⊢;rw [show ((0:Nat) == 1)=false from rfl,oh oz];omega
 ·have e:w/2^63=1:=oq
  rw [e]at hw ⊢;rw [show ((1:Nat) == 1)=true from rfl,og rfl];omega
theorem mS (w:Nat):fA w<2^52:=qy _ (om 52)
theorem vH (w:Nat):cB w<2048:=qy _ oz
theorem aMw (w:Nat):w % 2^63<double.signWeight:=qy _ (om 63)
theorem jA {w:Nat}(h:w<2^64):double.read w=if cB w<2047 then .number (dK w) (dS w) (iZ w) else if fA w=0 then .infinity (dK w) else .nan (dK w) (fA w):=by
 have hc:=mS w;have he:=vH w;have key:double.read (double.word (dK w) (w % 2^63))=_:=oP (aMw w);rw [←qR h]at key;rw [key,qP];have eb:double.binade=2^52:=rfl;have ei:double.infRung=2047*2^52:=rfl;have el:double.leastPlace=-1074:=rfl;rw [eb,ei,el];unfold dS iZ;generalize fA w=c at *
 generalize cB w=E at *
 generalize dK w=s
 by_cases g:E=0
 ·subst g;rw [og oq,og oz,og rfl]
  congr 1
  omega
 ·have d1:(E*2^52+c) / 2^52=E:=by
   rw [je,yw _ _ (om 52),qs hc,ju]
  have d2:(E*2^52+c) % 2^52=c:=by
   rw [je,xw,ob hc]
  rw [oh oq]
  by_cases g2:E<2047
  ·rw [og oq,og g2,oh g,d1,d2]
   congr 1
   omega
  ·have e:E*2^52=2047*2^52:=by
    have:E=2047:=oq
    rw [this]
   have n1:¬ E*2^52+c<2047*2^52:=by rw [e];exact Nat.not_lt.2 (yf _ _)
   rw [oh n1,oh g2]
   by_cases g3:c=0
   ·have n2:E*2^52+c=2047*2^52:=by rw [e,g3,jx]
    rw [og n2,og g3]
   ·have n2:¬ E*2^52+c=2047*2^52:=fun h=>g3 (by rw [e]at h;exact Nat.add_left_cancel (h.trans (jx _).symm));rw [oh n2,oh g3];have n3:E*2^52+c-2047*2^52=c:=by rw [e,Nat.add_sub_cancel_left]
    rw [n3]
theorem uX {w:Nat}(h:w<2^64) (hE:cB w<2047) (hm:dS w≠0):w=double.nearest (dK w) (dS w) (iZ w)∧Has double (dS w) (iZ w):=by
 have hc:=mS w;have hw:=qR h;rw [qP]at hw;unfold dS iZ at *
 generalize fA w=c at *
 generalize cB w=E at *
 generalize dK w=s at *
 have eb:double.binade=2^52:=rfl;have ei:double.infRung=2047*2^52:=rfl;have el:double.leastPlace=-1074:=rfl
 by_cases g:E=0
 ·subst g;rw [og rfl]at hm ⊢;have hl:c.log2<52:=(zh hm).2 hc;have hlast:last double c (((max 0 1:Nat):Int)-1075)=-1074:=by
   unfold last;show max (_-((52:Nat):Int)) (-1074)=_;omega
  refine⟨?_,hm,zr hc oz,by show (-1074:Int)≤_;omega,by show _+_-52 - -1074+3≤2048;omega⟩;rw [cR hm,hlast,el,eb,ei];rw [show (((max 0 1:Nat):Int)-1075 - -1074).toNat=0 by omega,show (-1074-(((max 0 1:Nat):Int)-1075)).toNat=0 by omega,show ((-1074:Int) - -1074).toNat=0 by omega,zg,xj,fO,ko oq]
  rwa [zg]at hw
 ·rw [oh g]at hm ⊢;have hl:(2^52+c).log2=52:=by
   have a:(2^52+c).log2<53:=(zh hm).2 oq;have b:52≤(2^52+c).log2:=(Nat.le_log2 hm).2 oq;omega
  have hlast:last double (2^52+c) (((max E 1:Nat):Int)-1075)=(E:Int)-1075:=by
   unfold last;rw [hl];show max (_-((52:Nat):Int)) (-1074)=_;omega
  refine⟨?_,hm,by show 2^52+c<2^53;omega,by show (-1074:Int)≤_;omega,by rw [hl];show _+_-52 - -1074+3≤2048;omega⟩;rw [cR hm,hlast,el,eb,ei];rw [show (((max E 1:Nat):Int)-1075-((E:Int)-1075)).toNat=0 by omega,show ((E:Int)-1075-(((max E 1:Nat):Int)-1075)).toNat=0 by omega,show ((E:Int)-1075 - -1074).toNat=E-1 by omega,xj,fO,ko oq];rw [show (E-1)*2^52+(2^52+c)=E*2^52+c by omega];exact hw
def fZ (w:Nat):Nat:=w/2^23 % 256
def jK (w:Nat):Nat:=w % 2^23
def dC (w:Nat):Bool:=w/2^31 == 1
def fC (w:Nat):Nat:=if fZ w=0 then jK w else 2^23+jK w
def iL (w:Nat):Int:=(max (fZ w) 1:Nat)-150
theorem kV (w:Nat):w % 2^31=fZ w*2^23+jK w:=by
 unfold fZ jK;omega
theorem lA {w:Nat}(h:w<2^32):w=single.word (dC w) (w % 2^31):=by
 unfold Format.word dC;have es:single.signWeight=2^31:=rfl;have hd:w/2^31<2:=Nat.div_lt_of_lt_mul h;have hw:=jz w (2^31);rw [es];rcases zu (w/2^31) 1 with g|g
 ·have e:w/2^31=0:=oq
  rw [e]at hw ⊢;rw [show ((0:Nat) == 1)=false from rfl,oh oz];omega
 ·have e:w/2^31=1:=oq
  rw [e]at hw ⊢;rw [show ((1:Nat) == 1)=true from rfl,og rfl];omega
theorem tQ (w:Nat):jK w<2^23:=qy _ (om 23)
theorem xE (w:Nat):fZ w<256:=qy _ oz
theorem aFh (w:Nat):w % 2^31<single.signWeight:=qy _ (om 31)
theorem nJ {w:Nat}(h:w<2^32):single.read w=if fZ w<255 then .number (dC w) (fC w) (iL w) else if jK w=0 then .infinity (dC w) else .nan (dC w) (jK w):=by
 have hc:=tQ w;have he:=xE w;have key:single.read (single.word (dC w) (w % 2^31))=_:=oP (aFh w);rw [←lA h]at key;rw [key,kV];have eb:single.binade=2^23:=rfl;have ei:single.infRung=255*2^23:=rfl;have el:single.leastPlace=-149:=rfl;rw [eb,ei,el];unfold fC iL;generalize jK w=c at *
 generalize fZ w=E at *
 generalize dC w=s
 by_cases g:E=0
 ·subst g;rw [og oq,og oz,og rfl]
  congr 1
  omega
 ·have d1:(E*2^23+c) / 2^23=E:=by
   rw [je,yw _ _ (om 23),qs hc,ju]
  have d2:(E*2^23+c) % 2^23=c:=by
   rw [je,xw,ob hc]
  rw [oh oq]
  by_cases g2:E<255
  ·rw [og oq,og g2,oh g,d1,d2]
   congr 1
   omega
  ·have e:E*2^23=255*2^23:=by
    have:E=255:=oq
    rw [this]
   have n1:¬ E*2^23+c<255*2^23:=by rw [e];exact Nat.not_lt.2 (yf _ _)
   rw [oh n1,oh g2]
   by_cases g3:c=0
   ·have n2:E*2^23+c=255*2^23:=by rw [e,g3,jx]
    rw [og n2,og g3]
   ·have n2:¬ E*2^23+c=255*2^23:=fun h=>g3 (by rw [e]at h;exact Nat.add_left_cancel (h.trans (jx _).symm));rw [oh n2,oh g3];have n3:E*2^23+c-255*2^23=c:=by rw [e,Nat.add_sub_cancel_left]
    rw [n3]
theorem qC {w:Nat}(h:w<2^32) (hE:fZ w<255) (hm:fC w≠0):w=single.nearest (dC w) (fC w) (iL w)∧Has single (fC w) (iL w):=by
 have hc:=tQ w;have hw:=lA h;rw [kV]at hw;unfold fC iL at *
 generalize jK w=c at *
 generalize fZ w=E at *
 generalize dC w=s at *
 have eb:single.binade=2^23:=rfl;have ei:single.infRung=255*2^23:=rfl;have el:single.leastPlace=-149:=rfl
 by_cases g:E=0
 ·subst g;rw [og rfl]at hm ⊢;have hl:c.log2<23:=(zh hm).2 hc;have hlast:last single c (((max 0 1:Nat):Int)-150)=-149:=by
   unfold last;show max (_-((23:Nat):Int)) (-149)=_;omega
  refine⟨?_,hm,zr hc oz,by show (-149:Int)≤_;omega,by show _+_-23 - -149+3≤256;omega⟩;rw [cR hm,hlast,el,eb,ei];rw [show (((max 0 1:Nat):Int)-150 - -149).toNat=0 by omega,show (-149-(((max 0 1:Nat):Int)-150)).toNat=0 by omega,show ((-149:Int) - -149).toNat=0 by omega,zg,xj,fO,ko oq]
  rwa [zg]at hw
 ·rw [oh g]at hm ⊢;have hl:(2^23+c).log2=23:=by
   have a:(2^23+c).log2<24:=(zh hm).2 oq;have b:23≤(2^23+c).log2:=(Nat.le_log2 hm).2 oq;omega
  have hlast:last single (2^23+c) (((max E 1:Nat):Int)-150)=(E:Int)-150:=by
   unfold last;rw [hl];show max (_-((23:Nat):Int)) (-149)=_;omega
  refine⟨?_,hm,by show 2^23+c<2^24;omega,by show (-149:Int)≤_;omega,by rw [hl];show _+_-23 - -149+3≤256;omega⟩;rw [cR hm,hlast,el,eb,ei];rw [show (((max E 1:Nat):Int)-150-((E:Int)-150)).toNat=0 by omega,show ((E:Int)-150-(((max E 1:Nat):Int)-150)).toNat=0 by omega,show ((E:Int)-150 - -149).toNat=E-1 by omega,xj,fO,ko oq];rw [show (E-1)*2^23+(2^23+c)=E*2^23+c by omega];exact hw
namespace FT
theorem aEw {x y:Nat}{s:Bool}{t:Nat}(hx:double.read x=.nan s t):double.order x y=none:=by
 unfold Format.order;rw [hx];unfold Datum.order;rfl
theorem low52 {w:Nat}(h:w<2^64):(BitVec.ofInt 64 (w:Int) &&& BitVec.ofInt 64 4503599627370495).toNat=w % 2^52:=by
 rw [BitVec.toNat_and,nX _ h,show (BitVec.ofInt 64 4503599627370495).toNat=2^52-1 from by decide,wy]
theorem fdiv52 {w:Nat}:Int.fdiv ((w:Nat):Int) (2^(min (Int.toNat 52) (IntKind.bits .u64)))=((w/2^52:Nat):Int):=by
 rw [pow52,za _ oz];rfl
theorem fdiv63 {w:Nat}:Int.fdiv ((w:Nat):Int) (2^(min (Int.toNat 63) (IntKind.bits .u64)))=((w/2^63:Nat):Int):=by
 rw [show (2:Int)^(min (Int.toNat 63) (IntKind.bits .u64))=9223372036854775808 from by decide,za _ oz];rfl
theorem aCc {w:Nat}(h:w<2^64):wrap .i64 (wrap .u64 (BitVec.toNat (BitVec.ofInt (IntKind.bits .u64) (Int.fdiv ((w:Nat):Int) (2^(min (Int.toNat 52) (IntKind.bits .u64)))) &&& BitVec.ofInt (IntKind.bits .u64) 2047)))=(cB w:Int):=by
 have hE:=vH w;rw [fdiv52,show IntKind.bits .u64=64 from rfl,field h,show w/2^52 % 2048=cB w from rfl,wrap64 (zr hE oz),qa];omega
theorem aRc {w:Nat}(h:w<2^64):wrap .u64 (BitVec.toNat (BitVec.ofInt (IntKind.bits .u64) ((w:Nat):Int) &&& BitVec.ofInt (IntKind.bits .u64) 4503599627370495))=(fA w:Int):=by
 have hc:=mS w;rw [show IntKind.bits .u64=64 from rfl,low52 h,show w % 2^52=fA w from rfl,wrap64 (zr hc oz)]
theorem aQb {w:Nat}:((Int.fdiv ((w:Nat):Int) (2^(min (Int.toNat 63) (IntKind.bits .u64))):Int) == 1)=dK w:=by
 rw [fdiv63];unfold dK;rw [vf,beq_iff_eq,beq_iff_eq];omega
theorem aPn (w:Nat):dS w<2^53:=by
 have:=mS w;unfold dS;split <;> omega
end FT
open FT
def fR (w:Nat):Rat:=if cB w<2047 then fP (dK w) (dS w) (iZ w) else 0
theorem rW {w:Nat}(h:cB w<2047) (hm:dS w=0):fR w=0:=by
 unfold fR fP;rw [og h,hm,zg,show sgn (dK w) 0=0 from by unfold sgn;cases dK w <;> rfl,Rat.zero_mkRat]
namespace W32
section
variable {k:World}{R:World→Value→Prop}{w:Nat}
theorem aRf {j n:Nat}(h:j<32*n):2^j<B^n:=by
 rw [qT,←vt];exact vv oz h
theorem aIo (j:Nat) (h:j≤1200):nw (1*2^j)≤40:=jv (aR (by rw [jo,qT,←vt];exact vv oz (show j<32*(j/32+1) by omega))) oq
theorem yH (h:w<2^64) (C:∀k' ds,Up k k'→QV k' ds (fR w) 40→R k' (.tuple #[.agg ds,.int .i64 (if cB w<2047 then 0 else 1)])) :
 Cl k 20 #[.float .f64 w] R:=by
 intro k0 u0;replace C:=fun k' ds u=>C k' ds (u0.trans u);have hE:=vH w;have hc:=mS w;have hm:=aPn w;refine aFe ?_
 try dsimp only
 rw [aCc h,aRc h,aQb];have e53:(2:Nat)^53=9007199254740992:=rfl;have e52:(2:Nat)^52=4503599627370496:=rfl;have nm:nw (dS w)≤2:=aR (zr hm (by decide +kernel));refine⟨fun f=>?_,fun f=>?_⟩
 ·have f:=eq_of_beq f;have g:¬ cB w<2047:=oq
  have hn:fR w=0:=by unfold fR;rw [oh g]
  rw [oh g,hn]at C;exact aNm (z:=0) oz oz fun k1 ds u1 h1=>⟨ds,h1.seg,rfl,fun k2 u2=>C k2 ds (u1.trans u2) ((h1.up u2).mono oz)⟩
 ·have f:¬ ((cB w:Nat):Int)=2047:=by simpa using f
  have g:cB w<2047:=oq
  have hn:fR w=fP (dK w) (dS w) (iZ w):=by unfold fR;rw [og g]
  rw [og g,hn]at C;refine⟨fun f1=>?_,fun f1=>?_⟩
  ·have f1:=ow f1;have em:dS w=2^52+fA w:=by unfold dS;rw [oh oq]
   have ep:iZ w=(cB w:Int)-1075:=by unfold iZ;omega
   have ew:wrap .u64 ((fA w:Int)+4503599627370496)=((dS w:Nat):Int):=by
    rw [em,show ((fA w:Int)+4503599627370496)=((2^52+fA w:Nat):Int) by omega,wrap64 oq]
   rw [ew];refine⟨fun f2=>?_,fun f2=>?_⟩
   ·have f2:=ow f2;have es:wrap .i64 ((cB w:Int)-1075)=((cB w-1075:Nat):Int):=by rw [qa];omega
    rw [es]
    have nr:nw (dS w*2^(cB w-1075))≤40:=aR (by
     have a:dS w*2^(cB w-1075)<2^(53+(cB w-1075)):=by rw [qd];exact jw hm (om _)
     exact zr a (aRf oq))
    refine rU oq fun k1 A c u1 h1=>⟨_,_,_,rfl,?_⟩;refine jZ h1 oq oq fun k2 A c u2 h2=>⟨_,_,_,rfl,?_⟩;intro p3 k3 u3 hp3;refine zT (K:=40) (q:=fP (dK w) (dS w) (iZ w)) (h2.up u3) (oL hp3) oz nr oz oz ?_ fun k4 b A l c A' l' c' u4 hQ e1 e2=>⟨_,(QV.mk1 hQ e1 e2).seg,rfl,fun k5 u5=>C k5 _ (u1.trans (u2.trans (u3.trans (u4.trans u5)))) ((QV.mk1 hQ e1 e2).up u5)⟩;unfold fP;rw [ep,show ((cB w:Int)-1075).toNat=cB w-1075 by omega,show (-((cB w:Int)-1075)).toNat=0 by omega]
   ·have f2:=ov f2;have es:wrap .i64 (1075-(cB w:Int))=((1075-cB w:Nat):Int):=by rw [qa];omega
    rw [es];have nr:=aIo (1075-cB w) oq;refine rU oq fun k1 A c u1 h1=>⟨_,_,_,rfl,?_⟩;intro p2 k2 u2 hp2;refine jZ (oL hp2) oz oq fun k3 A c u3 h3=>⟨_,_,_,rfl,?_⟩;refine zT (K:=40) (q:=fP (dK w) (dS w) (iZ w)) ((h1.up u2).up u3) h3 (zp oz (om _)) oq nr oz ?_ fun k4 b A l c A' l' c' u4 hQ e1 e2=>⟨_,(QV.mk1 hQ e1 e2).seg,rfl,fun k5 u5=>C k5 _ (u1.trans (u2.trans (u3.trans (u4.trans u5)))) ((QV.mk1 hQ e1 e2).up u5)⟩;unfold fP;rw [ep,show ((cB w:Int)-1075).toNat=0 by omega,show (-((cB w:Int)-1075)).toNat=1075-cB w by omega,zw,jk,jo]
  ·have f1:=ov f1;have em:dS w=fA w:=by unfold dS;rw [og oq]
   obtain⟨j,hj⟩:∃j:Nat,j=1074:=⟨_,rfl⟩;have ep:iZ w=-(j:Int):=by unfold iZ;omega
   have nr:=aIo j oq;rw [←em,show (1074:Int)=(j:Int) by omega];refine rU oq fun k1 A c u1 h1=>⟨_,_,_,rfl,?_⟩;intro p2 k2 u2 hp2;refine jZ (s:=j) (oL hp2) oz oq fun k3 A c u3 h3=>⟨_,_,_,rfl,?_⟩;refine zT (K:=40) (q:=fP (dK w) (dS w) (iZ w)) ((h1.up u2).up u3) h3 (zp oz (om _)) oq nr oz ?_ fun k4 b A l c A' l' c' u4 hQ e1 e2=>⟨_,(QV.mk1 hQ e1 e2).seg,rfl,fun k5 u5=>C k5 _ (u1.trans (u2.trans (u3.trans (u4.trans u5)))) ((QV.mk1 hQ e1 e2).up u5)⟩;unfold fP;rw [ep,show (-(j:Int)).toNat=0 by omega,show (- -(j:Int)).toNat=j by omega,zw,jk,jo]
end
end W32
namespace FT
theorem lt_of {x y:Int}(h:x<y):(some (compare x y) == some Ordering.lt)=true:=by
 simp only [compare,compareOfLessAndEq];rw [og h];rfl
theorem aBf {s:Bool}{n:Nat}:(Datum.number s n 0).toInt .zero=some (sgn s n):=by
 unfold Datum.toInt Datum.integral;simp only [];have e:Toward.zero.cut s (n <<< (0:Int).toNat) (-(0:Int)).toNat=n:=by
  unfold Toward.cut;simp
 rw [e];unfold signed sgn;rw [xj]
end FT
open FT
section
variable {k:World}{R:World→Value→Prop}{s:Bool}{m:Nat}{p q e:Int}{w:Nat}
theorem aDw (h:Has double m p) (hn:p+m.log2 < -1022) (C:∀k',Up k k'→R k' (.tuple #[.float .f64 (double.nearest s m (p+52)),.int .i64 (-52)])):Cl k 240 #[.float .f64 (double.nearest s m p)] R:=by
 intro k0 u0;refine xF (rH fun k1 u1=>⟨_,rfl,fun _=>?_,fun f=>?_⟩)
 ·have hm:=oK (s:=s) (t:=false) aQ h (Has.one (p:=52) oz oz);have h1:(4841369599423283200:Nat)=double.nearest false 1 52:=by decide +kernel
  rw [jk,Bool.xor_false,←h1]at hm;have hm':Sy.fltR .f64 .mul (double.nearest s m p) 4841369599423283200=some (double.nearest s m (p+52)):=hm;rw [hm'];exact⟨rfl,fun k2 u2=>C k2 (u0.trans (u1.trans u2))⟩
 ·exfalso;have hr:=h.read (neg:=false) aQ;have hl:m.log2<53:=(zh h.ne).2 h.bits;have hlow:(-1074:Int)≤p:=h.low;have elast:last double m p=-1074:=by
   unfold last;show max (p+m.log2-((52:Nat):Int)) (-1074)=_;omega
  have hlog:(m*2^(p-last double m p).toNat).log2=m.log2+(p-last double m p).toNat:=dV h.ne;have hne:m*2^(p-last double m p).toNat≠0:=zq h.ne (wj (om _));generalize last double m p=i at *
  subst elast;have hM:m*2^(p - -1074).toNat<2^52:=(zh hne).1 oq;generalize m*2^(p - -1074).toNat=M at *
  have hx:double.read 4503599627370496=.number false (2^52) (-1074):=by decide +kernel
  rw [show FloatKind.format .f64=double from rfl,gI hr hx]at f;rw [show min (-1074:Int) (-1074)=-1074 by omega,show ((-1074:Int) - -1074).toNat=0 by omega]at f;unfold signed at f;simp only [zz,if_false,xj]at f;rw [lt_of (by exact_mod_cast hM)]at f;cases f
theorem xH (h:Has double m q) (hn:-1022≤q+m.log2):Int.toNat (wrap .u64 (BitVec.toNat (BitVec.ofInt (IntKind.bits .u64) (wrap .u64 (BitVec.toNat (BitVec.ofInt (IntKind.bits .u64) ((double.nearest s m q:Nat):Int) &&& ~~~(BitVec.ofInt (IntKind.bits .u64) 9218868437227405312)))) ||| BitVec.ofInt (IntKind.bits .u64) 4602678819172646912)))=double.nearest s m (-((m.log2+1:Nat):Int)):=by
 obtain⟨c,hc,hall,g1,g2,g3,g4⟩:=parts (s:=s) h hn;have hw:=(near64 s m q).1;have hl:m.log2<53:=(zh h.ne).2 h.bits;have hq:Has double m (-((m.log2+1:Nat):Int)):=⟨h.ne,h.bits,by show (-1074:Int)≤_;omega,by show -((m.log2+1:Nat):Int)+m.log2-52+1074+3≤2048;omega⟩;have:=aBv (F:=1022) hw (by cases s <;> decide) hc oz g1 g2;rw [show wrap .u64 (((1022:Nat):Int)*2^(min (Int.toNat 52) (IntKind.bits .u64)))=4602678819172646912 from by decide]at this;rw [this,hall _ hq oq,show (-((m.log2+1:Nat):Int)+m.log2+1023).toNat=1022 by omega]
theorem aCf {e0:Int}(h:Has double m q) (hn:-1022≤q+m.log2) (he:-1000≤e0∧e0≤1000):wrap .i64 (e0+(wrap .i64 ((wrap .i64 ((wrap .i64 (wrap .u64 (BitVec.toNat (BitVec.ofInt (IntKind.bits .u64) (Int.fdiv ((double.nearest s m q:Nat):Int) (2^(min (Int.toNat 52) (IntKind.bits .u64)))) &&& BitVec.ofInt (IntKind.bits .u64) 2047))))-1023))+1)))=e0+q+m.log2+1:=by
 obtain⟨c,hc,hall,g1,g2,g3,g4⟩:=parts (s:=s) h hn;have hw:=(near64 s m q).1;have g5:cB (double.nearest s m q)=(q+m.log2+1023).toNat:=g3;have g6:(q+m.log2+1023).toNat<2048:=g4;rw [aCc hw,g5,qa,qa,qa];omega
theorem nonzero {x:Nat}(h:Has double m p) (hx:double.read x=.number false 0 (-1074)):(double.order (double.nearest s m p) x == some Ordering.eq)=false:=by
 have hr:=h.read (neg:=s) aQ;have hne:m*2^(p-last double m p).toNat≠0:=zq h.ne (wj (om _));rw [gI hr hx];generalize m*2^(p-last double m p).toNat=M at *
 generalize last double m p=i at *
 have hz:signed s M (i-min i (-1074)).toNat≠0:=by
  unfold signed;rw [vd];have:=zq hne (wj (om (i-min i (-1074)).toNat));generalize M*2^(i-min i (-1074)).toNat=z at this;cases s <;> simp <;> omega
 have hz2:signed false 0 (-1074-min i (-1074)).toNat=0:=by unfold signed;simp
 rw [hz2];refine Bool.eq_false_iff.2 fun o=>hz (vD o)
theorem aPf (h:Has double m p) (C:∀k',Up k k'→R k' (.tuple #[.float .f64 (double.nearest s m (-((m.log2+1:Nat):Int))),.int .i64 (p+m.log2+1)])) :
 Cl k 91 #[.float .f64 (double.nearest s m p)] R:=by
 intro k0 u0;have h0:double.read 0=.number false 0 (-1074):=kU;have hl:m.log2<53:=(zh h.ne).2 h.bits;have hlow:(-1074:Int)≤p:=h.low;refine aBz fun k1 u1=>aCb ⟨fun f=>?_,fun _=>rI h fun k2 u2=>⟨_,rfl,(fun f=>by cases f),fun _=>rJ h fun k5 u5=>⟨_,rfl,(fun f=>by cases f),fun _=>?_⟩⟩⟩
 ·have:=nonzero (s:=s) h h0;rw [show FloatKind.format .f64=double from rfl,this]at f;cases f
 by_cases hn:-1022≤p+m.log2
 ·refine aCe h hn fun k8 u8=>⟨_,_,rfl,fun k9 u9=>⟨_,_,rfl,fun k10 u10=>?_⟩⟩;have:=C k10 (u0.trans (u1.trans (u2.trans (u5.trans (u8.trans (u9.trans u10))))));rw [xH h hn,aCf h hn oz,Int.zero_add];exact this
 ·have h':Has double m (p+52):=⟨h.ne,h.bits,by show (-1074:Int)≤_;omega,by show p+52+m.log2-52+1074+3≤2048;omega⟩;refine aDw h oq fun k8 u8=>⟨_,_,rfl,fun k9 u9=>⟨_,_,rfl,fun k10 u10=>?_⟩⟩;have:=C k10 (u0.trans (u1.trans (u2.trans (u5.trans (u8.trans (u9.trans u10))))));rw [xH h' oq,aCf h' oq oz,show (-52:Int)+(p+52)+m.log2+1=p+m.log2+1 by omega];exact this
theorem aBi (h:Has double m p) (hp:p+m.log2=52):Sy.f2iOk .f64 .i64 (double.nearest s m p)=true∧Sy.f2i .f64 (double.nearest s m p)=sgn s (m*2^p.toNat)∧m*2^p.toNat<2^53:=by
 have hl:m.log2<53:=(zh h.ne).2 h.bits;have elast:last double m p=0:=by
  unfold last;show max (p+m.log2-((52:Nat):Int)) (-1074)=_;omega
 have hr:=h.read (neg:=s) aQ;rw [elast,Int.sub_zero]at hr;have hne:m*2^p.toNat≠0:=zq h.ne (wj (om _));have hM:m*2^p.toNat<2^53:=(zh hne).1 (by rw [dV h.ne];omega);have hd:(FloatKind.decode .f64 (double.nearest s m p)).toInt .zero=some (sgn s (m*2^p.toNat)):=by
  rw [aQv];show (double.read _).toInt .zero=_;rw [hr,aBf]
 refine⟨?_,?_,hM⟩
 ·unfold Sy.f2iOk;rw [hd];refine decide_eq_true ?_;have e1:IntKind.i64.min=-9223372036854775808:=rfl;have e2:IntKind.i64.max=9223372036854775807:=rfl;rw [e1,e2];have e3:(2:Nat)^53=9007199254740992:=rfl;unfold sgn;split <;> omega
 ·unfold Sy.f2i;rw [hd];rfl
theorem aFf {k:World}{A:Option Addr}{n c:Nat}{b:Bool}{z:Int}{K:Nat}(h:IntV k #[.bool b,.slice A n c] z K):RatV k #[.bool b,.slice A n c,.slice none 0 0] (z:Rat) K:=by
 obtain⟨b',A',n',c',e,hi,hn⟩:=h;injection e with e;injection e with e1 e;injection e1 with e1;injection e with e2 e;injection e2 with e2 e3 e4;subst e1 e2 e3 e4;exact⟨_,_,_,_,none,0,0,rfl,⟨by rw [Rat.num_intCast];exact hi,by rw [Rat.den_intCast,og rfl];exact LimR.nil⟩,hn,zm _⟩
theorem aCr {k:World}{K:Nat}:RatV k #[.bool false,.slice none 0 0,.slice none 0 0] 0 K:=
 ⟨_,_,_,_,none,0,0,rfl,⟨⟨rfl,LimR.nil⟩,LimR.nil⟩,zm _,zm _⟩
theorem aJw (s:Bool) (a b:Nat):sgn s (a*b)=sgn s a*(b:Int):=by
 unfold sgn;cases s <;> simp [Int.neg_mul]
theorem lR {s:Bool}{m j d:Nat}{p:Int}(h:p+d=j):mkRat (sgn s (m*2^j)) (1*2^d)=fP s m p:=by
 unfold fP;rw [jo];have e1:m*2^j=m*2^p.toNat*2^(j-p.toNat):=by rw [qt,←qd];congr 2;omega
 have e2:2^d=2^(-p).toNat*2^(j-p.toNat):=by rw [←qd];congr 1;omega
 rw [e1,e2,aJw,Rat.mkRat_mul_right (wj (om _))]
theorem aBk (h:Has double m p) (C:∀k' ds,Up k k'→RatV k' ds (fP s m p) 1200→R k' (.tuple #[.agg ds,.int .i64 0])) :
 Cl k 19 #[.float .f64 (double.nearest s m p)] R:=by
 intro k0 u0;have hl:m.log2<53:=(zh h.ne).2 h.bits;have hlow:(-1074:Int)≤p:=h.low;have htop:p+m.log2-52+1074+3≤2048:=h.top;refine lB (rJ h fun k1 u1=>⟨_,rfl,(fun f=>by cases f),fun _=>rI h fun k4 u4=>⟨_,rfl,(fun f=>by cases f),fun _=>?_⟩⟩);refine aPf h fun k7 u7=>⟨_,_,rfl,?_⟩;have hq:Has double m (-((m.log2+1:Nat):Int)):=⟨h.ne,h.bits,by show (-1074:Int)≤_;omega,by show -((m.log2+1:Nat):Int)+m.log2-52+1074+3≤2048;omega⟩;have hq':Has double m (-((m.log2+1:Nat):Int)+53):=⟨h.ne,h.bits,by show (-1074:Int)≤_;omega,by show -((m.log2+1:Nat):Int)+53+m.log2-52+1074+3≤2048;omega⟩;refine zS hq oq hq' oz fun k9 u9=>⟨_,rfl,?_⟩;obtain⟨w1,w2,w3⟩:=aBi (s:=s) hq' oq;rw [w2];refine⟨w1,?_⟩;have e3:(2:Nat)^53=9007199254740992:=rfl;have ej:(-((m.log2+1:Nat):Int)+53).toNat=52-m.log2:=oq
 rw [ej]at w3 ⊢;have v9:=u0.trans (u1.trans (u4.trans (u7.trans u9)));have wE:wrap .i64 (p+m.log2+1-53)=p+m.log2-52:=by rw [qa];omega
 refine aRe (z:=sgn s (m*2^(52-m.log2))) (by unfold sgn;split <;> omega) (by unfold sgn;split <;> omega) fun k11 ds u11 hI=>?_;have hI':=hI;obtain⟨b,A,n,c,rfl,hr,hn⟩:=hI';refine⟨_,_,_,_,rfl,?_⟩
 try dsimp only
 rw [wE];have hz:(sgn s (m*2^(52-m.log2))).natAbs=m*2^(52-m.log2):=nM _ _;have hne:m*2^(52-m.log2)≠0:=zq h.ne (wj (om _));have hb:b=s:=by rw [hr.neg];exact uT hne
 have hlim:=hr.lim;rw [hz]at hlim;refine⟨fun f=>?_,fun f=>?_⟩
 ·have f:=ow f;have es:p+m.log2-52=(((p+m.log2-52).toNat:Nat):Int):=oq
  rw [es];refine jU hlim oq oq fun k13 B j d u13 h13 l13=>⟨_,_,_,rfl,?_⟩;refine wG (K:=1200) h13 oq oq fun k15 ds u15 h15=>?_;have h15':=h15;obtain⟨b9,A10,l10,c10,rfl,_⟩:=h15';refine⟨_,_,_,_,rfl,fun k16 u16=>C k16 _ (v9.trans (u11.trans (u13.trans (u15.trans u16)))) ?_⟩;have:=(aFf h15).up u16;rw [hb]at this;have e:((sgn s (m*2^(52-m.log2)*2^(p+m.log2-52).toNat):Int):Rat)=fP s m p:=by
   rw [qt,←qd,←lR (j:=52-m.log2+(p+m.log2-52).toNat) (d:=0) oq];exact (Rat.mkRat_one _).symm
  rwa [e]at this
 ·have f:=ov f;have es:wrap .i64 (0-(p+m.log2-52))=(((52-p-m.log2).toNat:Nat):Int):=by rw [qa];omega
  rw [es];refine sS (x:=1) oz fun k13 B j d u13 h13 l13=>⟨_,_,_,rfl,?_⟩;refine jU h13 oq oq fun k15 B j d u15 h15 l15=>⟨_,_,_,rfl,?_⟩;refine oM (K:=1200) ((hI.up (u13.trans u15)).mono oz) h15 (by have:=om (52-p-m.log2).toNat;omega) oz oq fun k17 ds u17 h17=>?_;have h17':=h17;obtain⟨g,A,n,c,D,d,e,rfl,_⟩:=h17';refine⟨_,_,_,_,_,_,_,rfl,fun k18 u18=>C k18 _ (v9.trans (u11.trans (u13.trans (u15.trans (u17.trans u18))))) ?_⟩;have:=h17.up u18
  rwa [lR (p:=p) oq]at this
theorem zB {s:Bool}(C:∀k' ds,Up k k'→RatV k' ds 0 1200→R k' (.tuple #[.agg ds,.int .i64 0])) :
 Cl k 19 #[.float .f64 (double.nearest s 0 0)] R:=by
 intro k0 u0;have f1:∀s,(Format.order double (double.nearest s 0 0) (double.nearest s 0 0) != some Ordering.eq)=false:=by decide +kernel
 have f2:(Format.order double (double.nearest false 0 0) 9218868437227405311 == some Ordering.gt)=false:=by decide +kernel
 have f3:∀s,(Format.order double (double.nearest s 0 0) 0 == some Ordering.eq)=true:=by decide +kernel
 have f4:∀s,Sy.f2iOk .f64 .i64 (double.nearest s 0 0)=true∧Sy.f2i .f64 (double.nearest s 0 0)=0:=by decide +kernel
 refine lB fun k1 u1=>kN fun k2 u2=>⟨_,rfl,fun f=>?_,fun _ k3 u3=>oF ⟨fun _=>rH fun k4 u4=>⟨_,rfl,fun k5 u5=>⟨_,rfl,fun f=>?_,fun _ k6 u6=>?_⟩⟩,fun f=>by cases f⟩⟩
 ·rw [show FloatKind.format .f64=double from rfl,f1 s]at f;cases f
 ·rw [show FloatKind.format .f64=double from rfl,f2]at f;cases f
 refine aBz fun k7 u7=>aCb ⟨fun _ k8 u8=>⟨_,_,rfl,fun k9 u9=>⟨_,_,rfl,?_⟩⟩,fun f=>by rw [show FloatKind.format .f64=double from rfl,f3 s]at f;cases f⟩;refine fun k10 u10=>aCa fun k11 u11=>aCd ⟨fun _ k12 u12=>⟨_,rfl,fun k13 u13=>⟨_,rfl,(f4 s).1,?_⟩⟩,fun f=>by rw [show FloatKind.format .f64=double from rfl,f3 s]at f;cases f⟩;rw [(f4 s).2];have v13:=u0.trans (u1.trans (u2.trans (u3.trans (u4.trans (u5.trans (u6.trans (u7.trans (u8.trans (u9.trans (u10.trans (u11.trans (u12.trans u13))))))))))));refine aRe (z:=0) oz oz fun k14 ds u14 hI=>?_;have hI':=hI;obtain⟨b,A,n,c,rfl,hr,hn⟩:=hI';refine⟨_,_,_,_,rfl,?_⟩
 try dsimp only
 rw [show wrap .i64 ((0:Int)-53)=-53 from by decide];refine⟨fun f=>absurd f oz,fun _=>?_⟩;rw [show wrap .i64 ((0:Int) - -53)=((53:Nat):Int) from by decide];refine sS (x:=1) oz fun k15 B j d u15 h15 l15=>⟨_,_,_,rfl,?_⟩;refine jU h15 oq oz fun k16 B j d u16 h16 l16=>⟨_,_,_,rfl,?_⟩;refine oM (K:=1200) ((hI.up (u15.trans u16)).mono oz) h16 oz oz oq fun k17 ds u17 h17=>?_;have h17':=h17;obtain⟨g,A,n,c,D,d,e,rfl,_⟩:=h17';refine⟨_,_,_,_,_,_,_,rfl,fun k18 u18=>C k18 _ (v13.trans (u14.trans (u15.trans (u16.trans (u17.trans u18))))) ?_⟩;have:=h17.up u18
 rwa [Rat.zero_mkRat]at this
theorem aHs {w:Nat}(h:w<2^64) (hE:cB w=2047) (hf:fA w=0):w=double.nearest (dK w) 1 5000:=by
 have e:=qR h;rw [qP,hE,hf]at e;rw [e];generalize dK w=s;have key:∀s,double.word s (2047*2^52+0)=double.nearest s 1 5000:=by decide +kernel
 have k2:∀s,dK (double.word s (2047*2^52+0))=s:=by decide +kernel
 rw [k2,key]
theorem zA (h:w<2^64) (C:∀k' ds,Up k k'→RatV k' ds (fR w) 1200→R k' (.tuple #[.agg ds,.int .i64 (if cB w<2047 then 0 else 1)])) :
 Cl k 19 #[.float .f64 w] R:=by
 by_cases hE:cB w<2047
 ·rw [og hE]at C
  by_cases hm:dS w=0
  ·rw [rW hE hm]at C;have e:w=double.nearest (dK w) 0 0:=by
    have hr:w % 2^63=0:=by
     rw [qP];unfold dS at hm;split at hm
     ·rename_i g;rw [g,hm]
     ·have:=om 52;omega
    have:=qR h;rw [hr]at this;rw [this];generalize dK w=s;have k2:∀s,dK (double.word s 0)=s:=by decide +kernel
    rw [k2];unfold Format.nearest;rw [og rfl]
   rw [e];exact zB C
  ·obtain⟨e,hh⟩:=uX h hE hm;have hn:fR w=fP (dK w) (dS w) (iZ w):=by unfold fR;rw [og hE]
   rw [hn]at C;rw [e];generalize dK w=s at *
   generalize dS w=m at *
   generalize iZ w=p at *
   exact aBk hh C
 ·have hE2:cB w=2047:=by have:=vH w;omega
  have hn:fR w=0:=by unfold fR;rw [oh hE]
  rw [oh hE,hn]at C;intro k0 u0;have hr:=jA h;rw [oh hE]at hr
  by_cases hf:fA w=0
  ·have e:=aHs h hE2 hf;rw [e];generalize dK w=s;have f1:∀s,(Format.order double (double.nearest s 1 5000) (double.nearest s 1 5000) != some Ordering.eq)=false:=by decide +kernel
   have f2:(Format.order double (double.nearest false 1 5000) 9218868437227405311 == some Ordering.gt)=true:=by decide +kernel
   refine lB fun k1 u1=>kN fun k2 u2=>⟨_,rfl,fun f=>?_,fun _ k3 u3=>oF ⟨fun _=>rH fun k4 u4=>⟨_,rfl,fun k5 u5=>⟨_,rfl,fun _ k6 u6=>?_,fun f=>?_⟩⟩,fun f=>by cases f⟩⟩
   ·rw [show FloatKind.format .f64=double from rfl,f1 s]at f;cases f
   ·exact C k6 _ (u0.trans (u1.trans (u2.trans (u3.trans (u4.trans (u5.trans u6)))))) aCr
   ·rw [show FloatKind.format .f64=double from rfl,f2]at f;cases f
  ·rw [oh hf]at hr;refine lB fun k1 u1=>kN fun k2 u2=>⟨_,rfl,fun _ k3 u3=>C k3 _ (u0.trans (u1.trans (u2.trans u3))) aCr,fun f=>?_⟩;rw [show FloatKind.format .f64=double from rfl,aEw hr]at f;cases f
end
open Go.RowKit Num Ieee FT W32
namespace FT
variable {f:Ieee.Format}
theorem lX {x y:Nat}{s t:Bool}{M N:Nat}{i j:Int}(hx:f.read x=.number s M i) (hy:f.read y=.number t N j) :
 f.order x y=some (compare (signed s M (i-min i j).toNat) (signed t N (j-min i j).toNat)):=by
 unfold Format.order;rw [hx,hy];rfl
theorem aEr {x y:Int}(h:¬ x<y):(some (compare x y) == some Ordering.lt)=false:=by
 simp only [compare,compareOfLessAndEq];rw [oh h];split <;> rfl
theorem kG {s:Bool}{j:Nat}:signed s 0 j=0:=by
 unfold signed;cases s <;> simp
theorem uH {x y:Nat}{s t:Bool}{M:Nat}{i j:Int}(hx:f.read x=.number s M i) (hy:f.read y=.number t 0 j) (hM:M≠0):(f.order x y == some Ordering.lt)=s:=by
 rw [lX hx hy,kG];have hz:=zq hM (wj (om (i-min i j).toNat));unfold signed;rw [vd];generalize M*2^(i-min i j).toNat=z at hz;cases s
 ·exact aEr (by simp)
 ·exact lt_of (by simp;omega)
theorem nC {x y:Nat}{s t:Bool}{i j:Int}(hx:f.read x=.number s 0 i) (hy:f.read y=.number t 0 j):f.order x y=some Ordering.eq:=by
 rw [lX hx hy,kG,kG];simp [compare,compareOfLessAndEq]
theorem yA {x:Nat}{s:Bool}{M:Nat}{i:Int}(hx:f.read x=.number s M i):f.order x x=some Ordering.eq:=by
 rw [lX hx hx];simp [compare,compareOfLessAndEq]
end FT
open FT
theorem tN {m:Nat}{p:Int}(h:Has single m p):Has double m p:=by
 have h1:m<2^24:=h.bits;have h2:(-149:Int)≤p:=h.low;have h3:p+m.log2-23+149+3≤256:=h.top;exact⟨h.ne,zr h1 oz,by show (-1074:Int)≤p;omega,by show p+m.log2-52+1074+3≤2048;omega⟩
theorem aMb {s:Bool}{m:Nat}{p i:Int}(h:i≤p):fP s (m*2^(p-i).toNat) i=fP s m p:=by
 rw [←lR (s:=s) (m:=m) (p:=p) (d:=(-i).toNat) (j:=(p+(-i).toNat).toNat+0) oq];unfold fP;rw [jo,qt,←qd]
 congr 4
 omega
theorem aIm {s:Bool}{m:Nat}{p:Int}(h:Has double m p):fR (double.nearest s m p)=fP s m p∧cB (double.nearest s m p)<2047:=by
 have a:=jA (near64 s m p).1;rw [h.read aQ]at a;unfold fR
 by_cases g:cB (double.nearest s m p)<2047
 ·rw [og g]at a ⊢;injection a with a1 a2 a3;rw [←a1,←a2,←a3,aMb h.last_le];exact⟨rfl,g⟩
 ·rw [oh g]at a;split at a <;> cases a
def iK (w:Nat):Rat:=if fZ w<255 then fP (dC w) (fC w) (iL w) else 0
theorem zD {w:Nat}(h:w<2^32) (hm:fC w=0):w=single.word (dC w) 0∧fZ w=0:=by
 have hE:fZ w=0∧jK w=0:=by
  unfold fC at hm;split at hm
  ·exact⟨by assumption,hm⟩
  ·have:=om 23;omega
 have:=lA h;rw [kV,hE.1,hE.2]at this;exact⟨this,hE.1⟩
theorem aBy {v n:Nat}(h:v<2^32) (hc:Sy.F2F .f32 .f64 v n):n<2^64∧(cB n<2047↔fZ v<255)∧fR n=iK v:=by
 have hr:=nJ h
 by_cases hE:fZ v<255
 ·have hv:iK v=fP (dC v) (fC v) (iL v):=by unfold iK;rw [og hE]
  by_cases hm:fC v=0
  ·obtain⟨e,e0⟩:=zD h hm;have hz:iK v=0:=by
    rw [hv,hm];unfold fP;rw [zg,show sgn (dC v) 0=0 from by unfold sgn;cases dC v <;> rfl,Rat.zero_mkRat]
   rw [hz];have key:∀s,Sy.f2fOk .f32 .f64 (single.word s 0)=true∧Sy.f2f .f32 .f64 (single.word s 0)<2^64∧cB (Sy.f2f .f32 .f64 (single.word s 0))<2047∧dS (Sy.f2f .f32 .f64 (single.word s 0))=0:=by decide +kernel
   obtain⟨k1,k2,k3,k4⟩:=key (dC v);rw [←e]at k1 k2 k3 k4;rcases hc with ⟨_,rfl⟩|⟨c,_⟩
   ·exact⟨k2,⟨fun _=>hE,fun _=>k3⟩,rW k3 k4⟩
   ·rw [k1]at c;cases c
  ·obtain⟨e,hh⟩:=qC h hE hm;have hd:=tN hh;obtain⟨c1,c2⟩:=jP (k:=.f32) (k':=.f64) (s:=dC v) oz fQ aQ hh hd;have c1:Sy.f2f .f32 .f64 (single.nearest (dC v) (fC v) (iL v))=double.nearest (dC v) (fC v) (iL v):=c1;have c2:Sy.f2fOk .f32 .f64 (single.nearest (dC v) (fC v) (iL v))=true:=c2;rw [←e]at c1 c2;obtain⟨d1,d2⟩:=aIm (s:=dC v) hd;rcases hc with ⟨_,rfl⟩|⟨c,_⟩
   ·rw [c1,d1,hv];exact⟨(near64 _ _ _).1,⟨fun _=>hE,fun _=>d2⟩,rfl⟩
   ·rw [c2]at c;cases c
 ·have hv:iK v=0:=by unfold iK;rw [oh hE]
  rw [hv];have hE2:fZ v=255:=by have:=xE v;omega
  have bad:∀n,n<2^64→¬ cB n<2047→n<2^64∧(cB n<2047↔fZ v<255)∧fR n=0:=fun n h1 h2=>⟨h1,⟨fun g=>absurd g h2,fun g=>absurd g hE⟩,by unfold fR;rw [oh h2]⟩;rw [oh hE]at hr
  by_cases hf:jK v=0
  ·have e:=lA h;rw [kV,hE2,hf]at e;have key:∀s,Sy.f2fOk .f32 .f64 (single.word s (255*2^23+0))=true∧Sy.f2f .f32 .f64 (single.word s (255*2^23+0))<2^64∧¬ cB (Sy.f2f .f32 .f64 (single.word s (255*2^23+0)))<2047:=by decide +kernel
   obtain⟨k1,k2,k3⟩:=key (dC v);rw [←e]at k1 k2 k3;rcases hc with ⟨_,rfl⟩|⟨c,_⟩
   ·exact bad _ k2 k3
   ·rw [k1]at c;cases c
  ·rw [oh hf]at hr;have hd:FloatKind.decode .f32 v=.nan (dC v) (jK v):=hr;rcases hc with ⟨c,_⟩|⟨_,t,c⟩
   ·unfold Sy.f2fOk at c;rw [hd]at c;cases c
   ·rw [hd,og (by rfl)]at c;subst c;have e:Question.cut (.nanConv .f64 v) t=(t % 2)*9223372036854775808+9218868437227405312+1+(t/2) % 4503599627370495:=rfl;rw [e];have ha:t % 2<2:=qy _ oz;have hb:t/2 % 4503599627370495<4503599627370495:=qy _ oz;generalize t % 2=a at *
    generalize t/2 % 4503599627370495=b at *
    refine bad _ ?_ ?_
    ·rw [show (2:Nat)^64=18446744073709551616 from rfl];omega
    ·unfold cB;have e3:(a*9223372036854775808+9218868437227405312+1+b) / 2^52=a*2048+2047:=by
      rw [show (2:Nat)^52=4503599627370496 from rfl];omega
     rw [e3];omega
section
variable {k:World}{R:World→Value→Prop}{w v:Nat}
theorem aJt (h:w<2^64) (C:∀k',Up k k'→R k' (.bool (dK w))):Cl k 23 #[.float .f64 w] R:=by
 intro k0 u0;refine aHj fun k1 u1=>?_;have e:(decide ((wrap .i64 ((w:Nat):Int))<0))=dK w:=by
  unfold dK;rw [vf,decide_eq_true_iff,beq_iff_eq,qa];rw [show (2:Nat)^64=18446744073709551616 from rfl]at h;rw [show (2:Nat)^63=9223372036854775808 from rfl];omega
 rw [e];exact C k1 (u0.trans u1)
theorem aBj (h:v<2^32) (C:∀k' ds,Up k k'→RatV k' ds (iK v) 1200→R k' (.tuple #[.agg ds,.int .i64 (if fZ v<255 then 0 else 1)])) :
 Cl k 21 #[.float .f32 v] R:=by
 intro k0 u0;refine wK fun n hc=>?_;obtain⟨h1,h2,h3⟩:=aBy h hc;refine zA h1 fun k1 ds u1 hd=>?_;rw [h3]at hd;have hd':=hd;obtain⟨g,A,n,c,D,d,e,rfl,_⟩:=hd';refine⟨_,_,_,_,_,_,_,_,rfl,fun k2 u2=>?_⟩;have:=C k2 _ (u0.trans (u1.trans u2)) (hd.up u2)
 by_cases g:fZ v<255
 ·rw [og g]at this;rw [og (h2.2 g)];exact this
 ·rw [oh g]at this;rw [oh fun c=>g (h2.1 c)];exact this
theorem aEn (h:w<2^64) (hE:cB w<2047):(double.order (gZ (fR w) 53 (-1074) 1024) w != some Ordering.eq)=false∧gZ (fR w) 53 (-1074) 1024<2^64∧(dK (gZ (fR w) 53 (-1074) 1024) == (double.order w 0 == some Ordering.lt))=true:=by
 have hr:=jA h;rw [og hE]at hr
 by_cases hm:dS w=0
 ·rw [rW hE hm,uG];rw [hm]at hr;refine⟨by rw [nC kU hr];rfl,oz,?_⟩;rw [nC hr kU];rfl
 ·obtain⟨e,hh⟩:=uX h hE hm;have hn:fR w=fP (dK w) (dS w) (iZ w):=by unfold fR;rw [og hE]
  have hl:(dS w).log2<53:=(zh hh.ne).2 hh.bits;have hb:bl (dS w)=(dS w).log2+1:=by unfold bl;rw [oh hm]
  have htop:iZ w+(dS w).log2-52+1074+3≤2048:=hh.top;have hnear:=xS (s:=dK w) (p:=iZ w) aHh hm oq hh.low oq;rw [hn,hnear,←e];refine⟨by rw [yA hr];rfl,h,?_⟩;rw [uH hr kU hm];exact beq_self_eq_true _
theorem xT (h:v<2^32) (hE:fZ v<255):(single.order (Sy.f2f .f64 .f32 (gZ (iK v) 24 (-149) 128)) v == some Ordering.eq)=true∧
 ∀n,Sy.F2F .f32 .f64 (Sy.f2f .f64 .f32 (gZ (iK v) 24 (-149) 128)) n→n<2^64∧(dK n == (single.order v 0 == some Ordering.lt))=true:=by
 have hr:=nJ h;have hz:single.read 0=.number false 0 (-149):=by decide +kernel
 rw [og hE]at hr
 by_cases hm:fC v=0
 ·have hn:iK v=0:=by
   unfold iK;rw [og hE,hm];unfold fP;rw [zg,show sgn (dC v) 0=0 from by unfold sgn;cases dC v <;> rfl,Rat.zero_mkRat]
  have e0:Sy.f2f .f64 .f32 0=0:=by decide +kernel
  have e1:Sy.f2f .f32 .f64 0=0∧Sy.f2fOk .f32 .f64 0=true:=by decide +kernel
  rw [hn,uG,e0];rw [hm]at hr;refine⟨by rw [nC hz hr];rfl,fun n hc=>?_⟩;rcases hc with ⟨_,rfl⟩|⟨c,_⟩
  ·rw [e1.1,nC hr hz];exact⟨oz,rfl⟩
  ·rw [e1.2]at c;cases c
 ·obtain⟨e,hh⟩:=qC h hE hm;have hd:=tN hh;have hn:iK v=fP (dC v) (fC v) (iL v):=by unfold iK;rw [og hE]
  have hl:(fC v).log2<24:=(zh hh.ne).2 hh.bits;have hb:bl (fC v)=(fC v).log2+1:=by unfold bl;rw [oh hm]
  have htop:iL v+(fC v).log2-23+149+3≤256:=hh.top;have hnear:=xS (s:=dC v) (p:=iL v) aDv hm oq hh.low oq;have c1:Sy.f2f .f64 .f32 (double.nearest (dC v) (fC v) (iL v))=single.nearest (dC v) (fC v) (iL v):=(jP (k:=.f64) (k':=.f32) (s:=dC v) oz aQ fQ hd hh).1;have c2:Sy.f2f .f32 .f64 (single.nearest (dC v) (fC v) (iL v))=double.nearest (dC v) (fC v) (iL v)∧Sy.f2fOk .f32 .f64 (single.nearest (dC v) (fC v) (iL v))=true:=jP (k:=.f32) (k':=.f64) (s:=dC v) oz fQ aQ hh hd;rw [hn,hnear,c1,←e];rw [←e]at c2;refine⟨by rw [yA hr];rfl,fun n hc=>?_⟩;rcases hc with ⟨_,rfl⟩|⟨c,_⟩
  ·rw [c2.1,uH hr hz hm];refine⟨(near64 _ _ _).1,?_⟩;have a:=jA (near64 (dC v) (fC v) (iL v)).1;rw [hd.read aQ]at a;have es:dK (double.nearest (dC v) (fC v) (iL v))=dC v:=by
    split at a
    ·injection a with a1;exact a1.symm
    ·split at a <;> cases a
   rw [es];exact beq_self_eq_true _
  ·rw [c2.2]at c;cases c
theorem aDu {n0 n1:Int}(h0:0≤n0∧n0≤18446744073709551615) (h1:0≤n1∧n1≤4294967295) (C:∀k',Up k k'→R k' (.bool true)) :
 Cl k 4 #[.int .u64 n0,.int .u32 n1] R:=by
 intro k0 u0;replace C:=fun k' u=>C k' (u0.trans u);obtain⟨w,rfl⟩:∃w:Nat,n0=(w:Int):=⟨n0.toNat,oq⟩;obtain⟨v,rfl⟩:∃v:Nat,n1=(v:Int):=⟨n1.toNat,oq⟩;have hw:w<2^64:=by rw [show (2:Nat)^64=18446744073709551616 from rfl];omega
 have hv:v<2^32:=by rw [show (2:Nat)^32=4294967296 from rfl];omega
 refine zX (aLp fun k1 u1=>⟨_,rfl,fun h=>(nomatch h),fun _=>?_⟩)
 rw [ol,ol];refine zA hw fun k4 d3 u4 hX=>⟨d3,hX.seg,_,rfl,?_⟩;refine yH hw fun k6 d5 u6 hP=>⟨d5,hP.seg,_,rfl,?_⟩;refine aBj hv fun k8 d7 u8 hU=>⟨d7,hU.seg,_,rfl,fun n9 hc=>?_⟩;obtain⟨q1,q2,q3⟩:=aBy hv hc;have e32:(if cB n9<2047 then (0:Int) else 1)=if fZ v<255 then 0 else 1:=by
  by_cases g:fZ v<255
  ·rw [og g,og (q2.2 g)]
  ·rw [oh g,oh fun c=>g (q2.1 c)]
 refine yH q1 fun k10 d10 u10 hV=>⟨d10,hV.seg,_,rfl,fun f=>?_,fun _=>⟨fun f=>?_,fun _=>?_⟩⟩
 ·rw [bne_self_eq_false]at f;cases f
 ·rw [e32,bne_self_eq_false]at f;cases f
 rw [q3]at hV;have v8:=u6.trans (u8.trans u10);refine aRb (hX.up v8) oz (hP.up (u8.trans u10)) oz fun k14 u14=>⟨_,rfl,fun h=>(nomatch h),fun _=>?_⟩
 refine aRb (hU.up (u10.trans u14)) oz (hV.up u14) oz fun k17 u17=>⟨_,rfl,fun h=>(nomatch h),fun _=>?_⟩
 have v17:=v8.trans (u14.trans u17);refine aNo (hX.up v17) oz fun k20 u20=>⟨_,rfl,?_⟩;refine aGf (hU.up (u10.trans (u14.trans (u17.trans u20)))) oz fun k22 u22=>⟨_,rfl,?_⟩;have v22:=u1.trans (u4.trans (v17.trans (u20.trans u22)));replace C:=fun k' u=>C k' (v22.trans u);have en:gQ (decide ((fR w).num<0)) (fR w).num.natAbs (fR w).den 53 (-1074) 1024=gZ (fR w) 53 (-1074) 1024:=rfl;have en2:gQ (decide ((iK v).num<0)) (iK v).num.natAbs (iK v).den 24 (-149) 128=gZ (iK v) 24 (-149) 128:=rfl;rw [en,en2,show FloatKind.format .f64=double from rfl,show FloatKind.format .f32=single from rfl];clear hX hP hU hV en en2
 -- what is left of the short float
 have short:∀k5,Up k22 k5→((((if fZ v<255 then (0:Int) else 1) != 0)=true→(∀k27,Up k5 k27→R k27 (Value.bool true)))∧
  (((if fZ v<255 then (0:Int) else 1) != 0)=false→(((single.order (Sy.f2f .f64 .f32 (gZ (iK v) 24 (-149) 128)) v == some Ordering.eq)=true→
    (∀n17,Sy.F2F .f32 .f64 (Sy.f2f .f64 .f32 (gZ (iK v) 24 (-149) 128)) n17→Cl k5 23 #[Value.float .f64 n17] fun k29 r28=>∃b18,some (Value.bool b18)=some r28∧∀k30,Up k29 k30→R k30 (Value.bool (b18 == (single.order v 0 == some Ordering.lt)))))∧
  ((single.order (Sy.f2f .f64 .f32 (gZ (iK v) 24 (-149) 128)) v == some Ordering.eq)=false→(∀k31,Up k5 k31→R k31 (Value.bool false)))))):=by
  intro k5 u5
  by_cases g:fZ v<255
  ·obtain⟨a1,a2⟩:=xT hv g;refine⟨fun f=>?_,fun _=>⟨fun _ n hc=>?_,fun f=>?_⟩⟩
   ·rw [og g]at f;cases f
   ·obtain⟨b1,b2⟩:=a2 n hc;refine aJt b1 fun k29 u29=>⟨_,rfl,fun k30 u30=>?_⟩;rw [b2];exact C k30 (u5.trans (u29.trans u30))
   ·rw [a1]at f;cases f
  ·refine⟨fun _ k27 u27=>C k27 (u5.trans u27),fun f=>?_⟩;rw [oh g]at f;cases f
 by_cases g:cB w<2047
 ·obtain⟨a1,a2,a3⟩:=aEn hw g;refine⟨fun _=>⟨fun f=>?_,fun _=>?_⟩,fun f=>?_⟩
  ·rw [a1]at f;cases f
  ·refine aJt a2 fun k25 u25=>⟨_,rfl,fun f=>?_,fun _=>short k25 u25⟩;rw [a3]at f;cases f
  ·rw [og g]at f;cases f
 ·refine⟨fun f=>?_,fun _=>short k22 (Up.refl _)⟩;rw [oh g]at f;cases f
end
