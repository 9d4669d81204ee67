/- Several texts in one. (Printed by prep.py.) -/
import Ieee.Arith
import Derived.Test.YtifcjpacobpdmaaGreatTtVFU
import Derived.Test.YtifcjpacobpdmaaGreatTtFB
namespace Go.Proofs.YtifcjpacobpdmaaGreat
open Ieee
namespace FT
theorem dJ {m k:Nat}(hm:m≠0):(m*2^k).log2=m.log2+k:=by
 have h1:2^m.log2≤m:=Nat.log2_self_le hm;have h2:m<2^(m.log2+1):=Nat.lt_log2_self;have hne:m*2^k≠0:=zy hm (by have:=qy k;omega);apply Nat.le_antisymm
 ·have:m*2^k<2^(m.log2+k+1):=by
   rw [show m.log2+k+1=(m.log2+1)+k by omega,qa];exact zd h2 (qy k)
  have:=(zz hne).2 this;omega
 ·have:2^(m.log2+k)≤m*2^k:=by
   rw [qa];exact om _ h1
  exact (Nat.le_log2 hne).2 this
def half (n G:Nat):Nat:=n/G+(decide (G<2*(n % G)) || (G == 2*(n % G) && n/G % 2 == 1)).toNat
theorem nW (neg:Bool) (n drop:Nat):Toward.even.cut neg n drop=half n (2^min drop (n.log2+2)):=by
 rw [←Nat.one_shiftLeft];rfl
theorem xZ {a G:Nat}(hG:0<G):half (a*G) G=a:=by
 unfold half;rw [Nat.mul_div_cancel _ hG,Nat.mul_mod_left];have h0:(G == 2*0)=false:=by
  rw [beq_eq_false_iff_ne];omega
 simp [h0]
theorem aAn {a G k:Nat}(hk:0<k):half (a*k) (G*k)=half a G:=by
 unfold half;rw [Nat.mul_div_mul_right _ _ hk,Nat.mul_mod_mul_right];generalize a % G=r;generalize a/G=q;have e1:decide (G*k<2*(r*k))=decide (G<2*r):=by
  apply decide_eq_decide.2;rw [←qt];exact Nat.mul_lt_mul_right hk
 have e2:(G*k == 2*(r*k))=(G == 2*r):=by
  rw [←qt]
  by_cases c:G=2*r
  ·rw [c];simp
  ·have:G*k≠2*r*k:=fun h=>c (Nat.eq_of_mul_eq_mul_right hk h);rw [beq_eq_false_iff_ne.2 this,beq_eq_false_iff_ne.2 c]
 rw [e1,e2]
theorem fH (neg:Bool) (n:Nat):Toward.even.cut neg n 0=n:=by
 rw [nW,Nat.zero_min];have:=xZ (a:=n) (G:=1) oz
 rwa [zr]at this
theorem aEt (neg:Bool) {m k drop:Nat}(hm:m≠0) (h:drop≤k):Toward.even.cut neg (m*2^k) drop=m*2^(k-drop):=by
 rw [nW,dJ (k:=k) hm,kj oq];have e:m*2^k=m*2^(k-drop)*2^drop:=by
  rw [qt,←qa,show k-drop+drop=k by omega]
 rw [e];exact xZ (qy drop)
theorem aEs (neg:Bool) {m k drop:Nat}(hm:m≠0):Toward.even.cut neg (m*2^k) (drop+k)=Toward.even.cut neg m drop:=by
 rw [nW,nW,dJ (k:=k) hm,show min (drop+k) (m.log2+k+2)=min drop (m.log2+2)+k by omega,qa];exact aAn (qy k)
variable {f:Ieee.Format}
def last (f:Ieee.Format) (m:Nat) (p:Int):Int:=max (p+m.log2-f.fractionBits) f.leastPlace
theorem cQ {neg:Bool}{m:Nat}{p:Int}(hm:m≠0):f.nearest neg m p =
 f.word neg (min ((last f m p-f.leastPlace).toNat*f.binade+Toward.even.cut neg (m <<< (p-last f m p).toNat) (last f m p-p).toNat) f.infRung):=by
 unfold Format.nearest last;rw [oh hm]
theorem dL {neg:Bool}{m k:Nat}{p:Int}(hm:m≠0):f.nearest neg (m*2^k) (p-k)=f.nearest neg m p:=by
 have hne:m*2^k≠0:=zy hm (by have:=qy k;omega);have hl:last f (m*2^k) (p-k)=last f m p:=by
  unfold last;rw [dJ hm]
  congr 1
  omega
 rw [cQ hne,cQ hm,hl];generalize last f m p=q;have e:Toward.even.cut neg ((m*2^k) <<< (p-k-q).toNat) (q-(p-k)).toNat=Toward.even.cut neg (m <<< (p-q).toNat) (q-p).toNat:=by
  rw [vg,vg]
  by_cases c:p<q
  ·rw [show (p-k-q).toNat=0 by omega,show (p-q).toNat=0 by omega,show (q-(p-k)).toNat=(q-p).toNat+k by omega,wh,zr,zr];exact aEs neg hm
  ·rw [show (q-p).toNat=0 by omega,fH]
   by_cases d:p-k<q
   ·rw [show (p-k-q).toNat=0 by omega,wh,zr,aEt neg hm oq]
    congr 2
    omega
   ·rw [show (q-(p-k)).toNat=0 by omega,fH,qt,←qa]
    congr 2
    omega
 rw [e]
structure Good (f:Ieee.Format):Prop where
 frac:1≤f.fractionBits
 exp:2≤f.exponentBits
theorem bF:Good Ieee.double:=⟨oz,oz⟩
theorem jO:Good Ieee.single:=⟨oz,oz⟩
theorem aEa:f.signWeight=2^f.exponentBits*f.binade:=by
 unfold Format.signWeight Format.binade;rw [qa]
theorem lG:0<f.binade:=qy _
theorem aJg:f.infRung<f.signWeight:=by
 rw [aEa];unfold Format.infRung;have:=qy f.exponentBits;exact zd oq lG
theorem oC {neg:Bool}{r:Nat}(h:r<f.signWeight):f.read (f.word neg r) =
 if r<f.binade then .number neg r f.leastPlace
 else if r<f.infRung then .number neg (f.binade+r % f.binade) (f.leastPlace+(r/f.binade-1:Nat))
 else if r=f.infRung then .infinity neg
 else .nan neg (r-f.infRung):=by
 have e1:(f.word neg r/f.signWeight % 2 == 1)=neg:=by
  unfold Format.word;cases neg
  ·simp [Nat.div_eq_of_lt h]
  ·have:(f.signWeight+r) / f.signWeight=1:=by
    rw [jn,Nat.add_div_right _ oq,qs h]
   simp [this]
 have e2:f.word neg r % f.signWeight=r:=by
  unfold Format.word;cases neg
  ·simp [Nat.mod_eq_of_lt h]
  ·simp [Nat.mod_eq_of_lt h]
 unfold Format.read;simp only [e1,e2]
structure Has (f:Ieee.Format) (m:Nat) (p:Int):Prop where
 ne:m≠0
 bits:m<2^(f.fractionBits+1)
 low:f.leastPlace≤p
 top:p+m.log2-f.fractionBits-f.leastPlace+3≤2^f.exponentBits
theorem Has.last_le {m:Nat}{p:Int}(h:Has f m p):last f m p≤p:=by
 have hl:m.log2<f.fractionBits+1:=(zz h.ne).2 h.bits;have:=h.low;unfold last;omega
theorem Has.read {neg:Bool}{m:Nat}{p:Int}(g:Good f) (h:Has f m p):f.read (f.nearest neg m p)=.number neg (m*2^(p-last f m p).toNat) (last f m p):=by
 have hl:m.log2<f.fractionBits+1:=(zz h.ne).2 h.bits;have hle:=h.last_le;have hlow:f.leastPlace≤last f m p:=Int.le_max_right _ _;have htop:=h.top;rw [cQ h.ne,show (last f m p-p).toNat=0 by omega,fH,vg];have hlog:(m*2^(p-last f m p).toNat).log2=m.log2+(p-last f m p).toNat:=dJ h.ne;have hne:m*2^(p-last f m p).toNat≠0:=zy h.ne (by have:=qy (p-last f m p).toNat;omega);have hcase:(last f m p=f.leastPlace∧p+m.log2-f.fractionBits≤f.leastPlace)∨last f m p=p+m.log2-f.fractionBits:=by
  unfold last;omega
 generalize last f m p=q at *
 generalize m*2^(p-q).toNat=kept at *
 have hk2:kept<2*f.binade:=by
  have:kept<2^(f.fractionBits+1):=(zz hne).1 oq;unfold Format.binade;rw [jc]at this;omega
 have hb:=lG (f:=f);have hE:(4:Nat)≤2^f.exponentBits:=by
  have:=qb (n:=2) oz g.exp;simpa using this
 have hinf:f.infRung=(2^f.exponentBits-1)*f.binade:=rfl;have hd:∃d:Nat,q-f.leastPlace=(d:Int)∧d+3≤2^f.exponentBits:=by
  refine⟨(q-f.leastPlace).toNat,oq,?_⟩;have h4:(4:Int)≤((2^f.exponentBits:Nat):Int):=by exact_mod_cast hE
  have h5:((2^f.exponentBits:Nat):Int)=(2:Int)^f.exponentBits:=by norm_cast
  rcases hcase with ⟨c,_⟩|c <;> omega
 obtain⟨d,hd,hd3⟩:=hd;have hlt:d*f.binade+kept<f.infRung:=by
  rw [hinf];have:(d+2)*f.binade≤(2^f.exponentBits-1)*f.binade:=om _ oq;have e:(d+2)*f.binade=d*f.binade+2*f.binade:=by rw [js]
  omega
 rw [hd,vt,kj oq,oC (xm hlt aJg)];rcases hcase with ⟨c,_⟩|c
 ·obtain rfl:d=0:=oq
  rw [vu,qe]at hlt ⊢
  by_cases a:kept<f.binade
  ·rw [og a,c]
  ·rw [oh a,og hlt,c];have e1:kept/f.binade=1:=by
    rw [Nat.div_eq_iff hb];omega
   have e2:f.binade+kept % f.binade=kept:=by
    have:=jx kept f.binade;rw [e1]at this;omega
   rw [e1,e2];simp
 ·have hk1:f.binade≤kept:=by
   have:2^f.fractionBits≤kept:=(Nat.le_log2 hne).1 oq;exact this
  have hge:f.binade≤d*f.binade+kept:=oq
  have e0:kept/f.binade=1:=by
   rw [Nat.div_eq_iff hb];omega
  have e1:(d*f.binade+kept) / f.binade=d+1:=by
   rw [jn,qw,jl _ _ hb,e0];omega
  have e2:f.binade+(d*f.binade+kept) % f.binade=kept:=by
   rw [jn (d*f.binade),qw d,zh];have:=jx kept f.binade;rw [e0]at this;omega
  rw [oh oq,og hlt,e1,e2]
  congr 1
  omega
theorem nZ {s t:Bool}{m n:Nat}{p q:Int}(g:Good f) (h:Has f m p) (h':Has f n q):f.mul (f.nearest s m p) (f.nearest t n q)=some (f.nearest (s ^^ t) (m*n) (p+q)):=by
 unfold Format.mul;rw [h.read g,h'.read g];show some (f.nearest (s ^^ t) _ _)=_;have a:=h.last_le;have b:=h'.last_le;generalize last f m p=i at *
 generalize last f n q=j at *
 have e:m*2^(p-i).toNat*(n*2^(q-j).toNat)=m*n*2^((p-i).toNat+(q-j).toNat):=by
  rw [qa]
  ac_rfl
 rw [e,show i+j=(p+q)-(((p-i).toNat+(q-j).toNat:Nat):Int) by omega,dL (zy h.ne h'.ne)]
theorem aFa {s:Bool}{m:Nat}{p q:Int}(g:Good f) (h:Has f m p) (h':Has f 1 q) (hq:f.leastPlace≤q-f.fractionBits):f.div (f.nearest s m p) (f.nearest false 1 q)=some (f.nearest s m (p-q)):=by
 unfold Format.div;rw [h.read g,h'.read g];have hl:m.log2<f.fractionBits+1:=(zz h.ne).2 h.bits;have a:=h.last_le;have ej:last f 1 q=q-f.fractionBits:=by
  have:(1:Nat).log2=0:=oz
  unfold last;rw [this];omega
 have hlast:p+m.log2-f.fractionBits≤last f m p:=Int.le_max_left _ _;have hlog:(m*2^(p-last f m p).toNat).log2=m.log2+(p-last f m p).toNat:=dJ h.ne;have hne:m*2^(p-last f m p).toNat≠0:=zy h.ne (by have:=qy (p-last f m p).toNat;omega);rw [ej,show (q-(q-f.fractionBits)).toNat=f.fractionBits by omega,vq];generalize hi:last f m p=i at *
 generalize hM:m*2^(p-i).toNat=M at *
 have hMl:M.log2≤f.fractionBits:=oq
 have hp2:=qy f.fractionBits;show (Datum.quotient (f.fractionBits+2) (.number s M i) (.number false (2^f.fractionBits) (q-f.fractionBits))).map f.write=_;unfold Datum.quotient;simp only [];rw [oh oq,Nat.log2_two_pow];have e1:M <<< (f.fractionBits+2+f.fractionBits-M.log2)=M*2^(f.fractionBits+2-M.log2)*2^f.fractionBits:=by
  rw [vg,qt,←qa]
  congr 2
  omega
 rw [e1,Nat.mul_div_cancel _ hp2,Nat.mul_mod_left];show some (f.nearest (s ^^ false) (2*(M*2^(f.fractionBits+2-M.log2))+0) _)=_;have e2:2*(M*2^(f.fractionBits+2-M.log2))+0=m*2^((p-i).toNat+(f.fractionBits+2-M.log2)+1):=by
  rw [←hM,jc,qa]
  ac_rfl
 rw [e2,Bool.xor_false,←dL (p:=p-q) (k:=(p-i).toNat+(f.fractionBits+2-M.log2)+1) h.ne]
 congr 2
 omega
theorem aMs {s:Bool}{r:Nat}(h:r<f.signWeight):f.word s r ^^^ 2^(f.exponentBits+f.fractionBits)=f.word (!s) r:=by
 have hr:r ^^^ 2^(f.exponentBits+f.fractionBits)=2^(f.exponentBits+f.fractionBits)+r:=by
  have h:r<2^(f.exponentBits+f.fractionBits):=h;generalize f.exponentBits+f.fractionBits=n at h;apply Nat.eq_of_testBit_eq;intro i;rw [Nat.testBit_xor,Nat.testBit_two_pow]
  by_cases c:n=i
  ·subst c;rw [Nat.testBit_two_pow_add_eq,xb h];simp
  ·by_cases d:i<n
   ·rw [Nat.testBit_two_pow_add_gt d];simp [c]
   ·have h1:2^n+r<2^i:=by
     have:2^(n+1)≤2^i:=qb oz oq;rw [jc]at this;omega
    rw [xb h1,xb oq];simp [c]
 unfold Format.word;cases s
 ·exact hr
 ·show (f.signWeight+r) ^^^ _=r;have e:f.signWeight+r=r ^^^ 2^(f.exponentBits+f.fractionBits):=hr.symm;rw [e,Nat.xor_assoc,Nat.xor_self,Nat.xor_zero]
theorem iS (f:Ieee.Format) (neg:Bool) (m:Nat) (p:Int):∃r,r<f.signWeight∧∀s,f.nearest s m p=f.word s r:=by
 by_cases hm:m=0
 ·exact⟨0,by rw [aEa];exact xk (qy _) lG,fun s=>by unfold Format.nearest;rw [og hm]⟩
 ·refine⟨min ((last f m p-f.leastPlace).toNat*f.binade+Toward.even.cut neg (m <<< (p-last f m p).toNat) (last f m p-p).toNat) f.infRung,jg (Nat.min_le_right _ _) aJg,fun s=>?_⟩;rw [cQ hm,nW,nW]
theorem yF {s:Bool}{m:Nat}{p:Int}:f.nearest s m p ^^^ 2^(f.exponentBits+f.fractionBits)=f.nearest (!s) m p:=by
 obtain⟨r,h,e⟩:=iS f s m p;rw [e,e,aMs h]
end FT
namespace FT
theorem qO (w:Nat) (h:w<2^64):(BitVec.ofInt 64 (w:Int)).toNat=w:=by
 rw [BitVec.toNat_ofInt];have:(w:Int) % ((2^64:Nat):Int)=(w:Int):=Int.emod_eq_of_lt oq (by exact_mod_cast h);rw [this,vt]
theorem struck {w:Nat}(h:w<2^64):(BitVec.ofInt 64 (w:Int) &&& ~~~(BitVec.ofInt 64 9218868437227405312)).toNat=w/2^63*2^63+w % 2^52:=by
 have hm:∀i:Fin 64,(BitVec.ofInt 64 9218868437227405312).getLsbD i.val=(decide (52≤i.val) && decide (i.val<63)):=oz
 apply Nat.eq_of_testBit_eq;intro i;rw [←BitVec.getLsbD,BitVec.getLsbD_and,BitVec.getLsbD_not];have hw:(BitVec.ofInt 64 (w:Int)).getLsbD i=w.testBit i:=by rw [BitVec.getLsbD,qO w h]
 have hlt:w % 2^52<2^63:=oa (qp _ oz) oz;rw [hw,qw,Nat.testBit_two_pow_mul_add _ hlt,Nat.testBit_mod_two_pow,Nat.testBit_div_two_pow]
 by_cases c:i<64
 ·rw [hm ⟨i,c⟩]
  by_cases c1:i<52
  ·have c2:i<63:=oq
   have c3:¬ 52≤i:=oq
   simp [c,c1,c2,c3]
  ·by_cases c2:i<63
   ·have c3:52≤i:=oq
    simp [c,c1,c2,c3]
   ·have e:i=63:=oq
    subst e;simp
 ·have hz:w.testBit i=false:=xb (oa h (qb oz oq));have c2:¬ i<63:=oq
  rw [hz,Bool.false_and,oh c2]
  first
   | (rw [show 63+(i-63)=i by omega,hz])
   | (rw [show i-63+63=i by omega,hz])
theorem put {a E c:Nat}(ha:a≤1) (hE:E<2^11) (hc:c<2^52):(BitVec.ofInt 64 ((a*2^63+c:Nat):Int) ||| BitVec.ofInt 64 ((E*2^52:Nat):Int)).toNat=a*2^63+(E*2^52+c):=by
 have h0:c<2^63:=oa hc (qb oz oz);have h1:a*2^63+c<2^64:=by
  have:=Nat.add_lt_add_of_le_of_lt (om (2^63) ha) h0
  rwa [vq,show (2:Nat)^63+2^63=2^64 from rfl]at this
 have h3:E*2^52+c<2^63:=by
  have g1:E*2^52+c<(E+1)*2^52:=by
   rw [js,vq];exact Nat.add_lt_add_left hc _
  have g2:(E+1)*2^52≤2^11*2^52:=om _ hE;rw [←qa]at g2;exact oa g1 g2
 have h2:E*2^52<2^64:=jg (Nat.le_add_right _ c) (xm h3 (Nat.pow_lt_pow_right oz oz));rw [BitVec.toNat_or,qO _ h1,qO _ h2];have e1:a*2^63+c=2^63*a ||| c:=by
  rw [qw];exact vj (oa hc oz) a
 have e2:E*2^52+c=2^52*E ||| c:=by
  rw [qw];exact vj hc E
 have e3:a*2^63+(E*2^52+c)=2^63*a ||| (E*2^52+c):=by
  rw [qw a];exact vj h3 a
 rw [e1,e3,e2,qw E,Nat.or_assoc,Nat.or_comm c]
theorem field {w:Nat}(h:w<2^64):(BitVec.ofInt 64 ((w/2^52:Nat):Int) &&& BitVec.ofInt 64 2047).toNat=w/2^52 % 2048:=by
 rw [BitVec.toNat_and,qO _ (jg (kw _ _) h),show (BitVec.ofInt 64 2047).toNat=2^11-1 from by decide,Nat.and_two_pow_sub_one_eq_mod]
theorem oW {s:Bool}{m:Nat}{p:Int}(h:Has double m p) (hn:-1022≤p+m.log2) :
 double.nearest s m p=(if s then 1 else 0)*2^63+((p+m.log2+1023).toNat*2^52+(m*2^(52-m.log2)-2^52))∧2^52≤m*2^(52-m.log2)∧m*2^(52-m.log2)<2^53:=by
 have hl:m.log2<53:=(zz h.ne).2 h.bits;have htop:p+m.log2-52+1074+3≤2048:=h.top;have hlow:(-1074:Int)≤p:=h.low;have elast:last double m p=p+m.log2-52:=by
  unfold last;show max (p+m.log2-((52:Nat):Int)) (-1074)=_;omega
 have hlog:(m*2^(52-m.log2)).log2=52:=by
  rw [dJ h.ne];omega
 have hne:m*2^(52-m.log2)≠0:=zy h.ne (by have:=qy (52-m.log2);omega);have h1:2^52≤m*2^(52-m.log2):=(Nat.le_log2 hne).1 oq;have h2:m*2^(52-m.log2)<2^53:=(zz hne).1 oq;refine⟨?_,h1,h2⟩;rw [cQ h.ne,elast,show (p+m.log2-52-p).toNat=0 by omega,fH,vg,show (p-(p+m.log2-52)).toNat=52-m.log2 by omega];generalize m*2^(52-m.log2)=kept at *
 have eb:double.binade=2^52:=rfl;have ei:double.infRung=2047*2^52:=rfl;have el:double.leastPlace=-1074:=rfl;have es:double.signWeight=2^63:=rfl;rw [eb,ei,el];have e:(p+m.log2-52 - -1074).toNat+1=(p+m.log2+1023).toNat:=oq
 generalize (p+m.log2-52 - -1074).toNat=d at e;rw [←e];have hd:d+1≤2046:=oq
 have hr:d*2^52+kept<2047*2^52:=oq
 rw [kj oq];unfold Format.word;rw [es];cases s
 ·show d*2^52+kept=0*2^63+((d+1)*2^52+(kept-2^52));omega
 ·show 2^63+(d*2^52+kept)=1*2^63+((d+1)*2^52+(kept-2^52));omega
end FT
open IntKind (wrap)
open Go.RowKit Ieee
open Sy (Up CallsG)
namespace FT
theorem nosign {w:Nat}(h:w<2^64):(BitVec.ofInt 64 (w:Int) &&& ~~~(BitVec.ofInt 64 9223372036854775808)).toNat=w % 2^63:=by
 have hm:∀i:Fin 64,(BitVec.ofInt 64 9223372036854775808).getLsbD i.val=decide (i.val=63):=oz
 apply Nat.eq_of_testBit_eq;intro i;rw [←BitVec.getLsbD,BitVec.getLsbD_and,BitVec.getLsbD_not];have hw:(BitVec.ofInt 64 (w:Int)).getLsbD i=w.testBit i:=by rw [BitVec.getLsbD,qO w h]
 rw [hw,Nat.testBit_mod_two_pow]
 by_cases c:i<64
 ·rw [hm ⟨i,c⟩]
  by_cases c2:i<63
  ·have c3:i≠63:=oq
   simp [c,c2,c3]
  ·have e:i=63:=oq
   subst e;simp
 ·have hz:w.testBit i=false:=xb (oa h (qb oz oq));rw [hz,Bool.false_and,Bool.and_false]
theorem word64 {s:Bool}{r:Nat}(h:r<2^63):double.word s r<2^64∧double.word s r % 2^63=r∧double.word s r/2^63=if s then 1 else 0:=by
 have es:double.signWeight=2^63:=rfl;have hp:(2:Nat)^63+2^63=2^64:=rfl;unfold Format.word;rw [es];cases s
 ·exact⟨oa h (qb oz oz),qh h,qs h⟩
 ·refine⟨by rw [←hp];exact Nat.add_lt_add_left h _,?_,?_⟩
  ·show (2^63+r) % 2^63=r;rw [Nat.add_mod_left,qh h]
  ·show (2^63+r) / 2^63=1;rw [jn,Nat.add_div_right _ (qy 63),qs h]
theorem near64 (s:Bool) (m:Nat) (p:Int):double.nearest s m p<2^64∧double.nearest s m p % 2^63=double.nearest false m p:=by
 obtain⟨r,h,e⟩:=iS double s m p;have:=word64 (s:=s) (r:=r) h;rw [e,e];exact⟨this.1,this.2.1⟩
theorem wrap64 {n:Nat}(h:n<2^64):wrap .u64 (n:Int)=(n:Int):=by
 unfold wrap;have e:(IntKind.bits .u64)=64:=rfl;have e2:(IntKind.signed .u64)=false:=rfl;rw [e];have:(n:Int) % 18446744073709551616=(n:Int):=Int.emod_eq_of_lt oq (by have h:n<18446744073709551616:=h;omega);simp [e2,this]
theorem gD {x y:Nat}{s t:Bool}{M N:Nat}{i j:Int}(hx:double.read x=.number s M i) (hy:double.read y=.number t N j) :
 double.order x y=some (compare (signed s M (i-min i j).toNat) (signed t N (j-min i j).toNat)):=by
 unfold Format.order;rw [hx,hy];rfl
end FT
open FT
section
variable {k:World}{R:World→Value→Prop}{s:Bool}{m:Nat}{p:Int}
theorem lK (C:∀k',Up k k'→R k' (.float .f64 (double.nearest false m p))):Cl k 215 #[.float .f64 (double.nearest s m p)] R:=by
 intro k0 u0;obtain⟨h1,h2⟩:=near64 s m p;refine aDb fun k1 u1=>?_;have:=C k1 (u0.trans u1);rw [show IntKind.bits .u64=64 from rfl,nosign h1,h2,wrap64 (near64 false m p).1,vt];exact this
theorem rF (h:Has double m p) (C:∀k',Up k k'→R k' (.bool false)):Cl k 128 #[.float .f64 (double.nearest s m p)] R:=by
 intro k0 u0;refine iD fun k1 u1=>?_;have:=C k1 (u0.trans u1);have hr:=h.read (neg:=s) bF;rw [show FloatKind.format .f64=double from rfl,gD hr hr];have e:∀z:Int,(some (compare z z) != some Ordering.eq)=false:=fun z=>by rw [show compare z z=Ordering.eq from by simp [compare,compareOfLessAndEq]];rfl
 rwa [e]
theorem mK (h:Has double m p) (C:∀k',Up k k'→R k' (.bool false)):Cl k 127 #[.float .f64 (double.nearest s m p),.int .i64 0] R:=by
 intro k0 u0;refine fY ⟨fun _=>lK fun k1 u1=>⟨_,rfl,fun k2 u2=>?_⟩,fun f=>by cases f⟩;have:=C k2 (u0.trans (u1.trans u2));have hr:=h.read (neg:=false) bF;have hl:m.log2<53:=(zz h.ne).2 h.bits;have hle:=h.last_le;have hlog:(m*2^(p-last double m p).toNat).log2=m.log2+(p-last double m p).toNat:=dJ h.ne;have hne:m*2^(p-last double m p).toNat≠0:=zy h.ne (by have:=qy (p-last double m p).toNat;omega);have h971:last double m p≤971:=by
  have htop:p+m.log2-52+1074+3≤2048:=h.top;unfold last;show max (p+m.log2-((52:Nat):Int)) (-1074)≤971;omega
 have hge:p+m.log2-52≤last double m p:=Int.le_max_left _ _;generalize last double m p=i at *
 have hM:m*2^(p-i).toNat<2^53:=(zz hne).1 oq;generalize m*2^(p-i).toNat=M at *
 have hx:double.read 9218868437227405311=.number false (2^53-1) 971:=by decide +kernel
 rw [show FloatKind.format .f64=double from rfl,gD hr hx];rw [show min i 971=i by omega,show (i-i).toNat=0 by omega];have hc:¬ ((M:Int) > (((2^53-1) <<< (971-i).toNat:Nat):Int)):=by
  rw [vg];have:=zb (2^53-1) (qy (971-i).toNat);omega
 have e:(some (compare (signed false M 0) (signed false (2^53-1) (971-i).toNat)) == some Ordering.gt)=false:=by
  unfold signed;simp only [ji,if_false,xq];generalize (((2^53-1) <<< (971-i).toNat:Nat):Int)=z at hc;simp only [compare,compareOfLessAndEq]
  by_cases a:(M:Int)<z
  ·rw [og a];rfl
  ·rw [oh a,og oq];rfl
 rwa [e]
theorem aDe (h:Has double m p) (hn:-1022≤p+m.log2) (C:∀k',Up k k'→R k' (.tuple #[.float .f64 (double.nearest s m p),.int .i64 0])):Cl k 328 #[.float .f64 (double.nearest s m p)] R:=by
 intro k0 u0;refine xT (lK fun k1 u1=>⟨_,rfl,fun f=>?_,fun _ k3 u3=>C k3 (u0.trans (u1.trans u3))⟩);exfalso;have hr:=h.read (neg:=false) bF;have hl:m.log2<53:=(zz h.ne).2 h.bits;have hle:=h.last_le;have hlow:(-1074:Int)≤last double m p:=Int.le_max_right _ _;have elast:last double m p=p+m.log2-52:=by
  unfold last;show max (p+m.log2-((52:Nat):Int)) (-1074)=_;omega
 have hlog:(m*2^(p-last double m p).toNat).log2=m.log2+(p-last double m p).toNat:=dJ h.ne;have hne:m*2^(p-last double m p).toNat≠0:=zy h.ne (by have:=qy (p-last double m p).toNat;omega);generalize last double m p=i at *
 have hM:2^52≤m*2^(p-i).toNat:=(Nat.le_log2 hne).1 oq;generalize m*2^(p-i).toNat=M at *
 have hx:double.read 4503599627370496=.number false (2^52) (-1074):=by decide +kernel
 rw [show FloatKind.format .f64=double from rfl,gD hr hx]at f;rw [show min i (-1074)=-1074 by omega,show ((-1074:Int) - -1074).toNat=0 by omega]at f;have hc:¬ ((M <<< (i - -1074).toNat:Nat):Int)<((2^52:Nat):Int):=by
  rw [vg];have:=zb M (qy (i - -1074).toNat);omega
 unfold signed at f;simp only [ji,if_false,xq]at f;generalize ((M <<< (i - -1074).toNat:Nat):Int)=z at hc f;generalize ((2^52:Nat):Int)=y at hc f;simp only [compare,compareOfLessAndEq]at f;rw [oh hc]at f;split at f <;> cases f
end
namespace FT
theorem pow52:(2:Int)^(min (Int.toNat 52) (IntKind.bits .u64))=4503599627370496:=oz
theorem aTb {w F:Nat}{e:Int}(hw:w<2^64) (hF:w/2^52 % 2048=F) (he:-100000≤e∧e≤100000) :
 wrap .i64 ((wrap .i64 (e+0))+(wrap .i64 ((wrap .i64 (BitVec.toNat (BitVec.ofInt (IntKind.bits .i64) (wrap .i64 (Int.fdiv ((w:Nat):Int) (2^(min (Int.toNat 52) (IntKind.bits .u64))))) &&& BitVec.ofInt (IntKind.bits .i64) 2047)))-1023)))=e+F-1023:=by
 have hd:w/2^52<4096:=by
  have:w/2^52<2^12:=Nat.div_lt_of_lt_mul (by rw [←qa];exact hw);exact this
 have e1:Int.fdiv ((w:Nat):Int) 4503599627370496=((w/2^52:Nat):Int):=by
  rw [Int.fdiv_eq_ediv_of_nonneg _ oz];rfl
 have e2:wrap .i64 ((w/2^52:Nat):Int)=((w/2^52:Nat):Int):=by
  generalize w/2^52=z at hd;rw [jv];omega
 rw [pow52,e1,e2,show IntKind.bits .i64=64 from rfl,field hw,hF];have hF2:F<2048:=by rw [←hF];exact qp _ oz
 rw [jv,jv,jv,jv];omega
theorem aCw {w a c F:Nat}(hw:w<2^64) (ha:a≤1) (hc:c<2^52) (hF:F<2^11) (h1:w/2^63=a) (h2:w % 2^52=c) :
 Int.toNat (wrap .u64 (BitVec.toNat (BitVec.ofInt (IntKind.bits .u64) (wrap .u64 (BitVec.toNat (BitVec.ofInt (IntKind.bits .u64) ((w:Nat):Int) &&& ~~~(BitVec.ofInt (IntKind.bits .u64) 9218868437227405312)))) ||| BitVec.ofInt (IntKind.bits .u64) (wrap .u64 ((F:Int)*2^(min (Int.toNat 52) (IntKind.bits .u64)))))))=a*2^63+(F*2^52+c):=by
 have h0:c<2^63:=oa hc (qb oz oz);have h3:a*2^63+c<2^64:=by
  have:=Nat.add_lt_add_of_le_of_lt (om (2^63) ha) h0
  rwa [vq,show (2:Nat)^63+2^63=2^64 from rfl]at this
 have h4:F*2^52+c<2^63:=by
  have g1:F*2^52+c<(F+1)*2^52:=by
   rw [js,vq];exact Nat.add_lt_add_left hc _
  have g2:(F+1)*2^52≤2^11*2^52:=om _ hF;rw [←qa]at g2;exact oa g1 g2
 have h5:F*2^52<2^64:=jg (Nat.le_add_right _ c) (xm h4 (Nat.pow_lt_pow_right oz oz));have h6:a*2^63+(F*2^52+c)<2^64:=by
  have:=Nat.add_lt_add_of_le_of_lt (om (2^63) ha) h4
  rwa [vq,show (2:Nat)^63+2^63=2^64 from rfl]at this
 have e1:((F:Int)*2^(min (Int.toNat 52) (IntKind.bits .u64)))=((F*2^52:Nat):Int):=by
  rw [pow52];rfl
 rw [e1,wrap64 h5,show IntKind.bits .u64=64 from rfl,struck hw,h1,h2,wrap64 h3,put ha hF hc,wrap64 h6,vt]
theorem parts {s:Bool}{m:Nat}{p:Int}(h:Has double m p) (hn:-1022≤p+m.log2):∃c,c<2^52∧(∀q,Has double m q→-1022≤q+m.log2→double.nearest s m q=(if s then 1 else 0)*2^63+((q+m.log2+1023).toNat*2^52+c))∧
 double.nearest s m p/2^63=(if s then 1 else 0)∧double.nearest s m p % 2^52=c∧double.nearest s m p/2^52 % 2048=(p+m.log2+1023).toNat∧(p+m.log2+1023).toNat<2^11:=by
 have htop:p+m.log2-52+1074+3≤2048:=h.top;obtain⟨e,h1,h2⟩:=oW (s:=s) h hn;have hc:m*2^(52-m.log2)-2^52<2^52:=by
  rw [show (2:Nat)^53=2^52+2^52 from rfl]at h2;omega
 have hF:(p+m.log2+1023).toNat<2^11:=by
  rw [show (2:Nat)^11=2048 from rfl];omega
 refine⟨_,hc,fun q hq hqn=>(oW (s:=s) hq hqn).1,?_⟩;rw [e];generalize m*2^(52-m.log2)-2^52=c at hc;generalize (p+m.log2+1023).toNat=F at hF;have h4:F*2^52+c<2^63:=by
  have g1:F*2^52+c<(F+1)*2^52:=by
   rw [js,vq];exact Nat.add_lt_add_left hc _
  have g2:(F+1)*2^52≤2^11*2^52:=om _ hF;rw [←qa]at g2;exact oa g1 g2
 generalize ha:(if s then 1 else 0:Nat)=a;refine⟨?_,?_,?_,hF⟩
 ·rw [jn,yv _ _ (qy 63),qs h4,qe]
 ·rw [show (2:Nat)^63=2^11*2^52 from rfl,←qt,←xu,←js,jn,xx,qh hc]
 ·rw [show (2:Nat)^63=2^11*2^52 from rfl,←qt,←xu,←js,jn,yv _ _ (qy 52),qs hc,qe,show (2048:Nat)=2^11 from rfl,jn,xx,qh hF]
theorem aQn {z:Int}(h:-3000≤z∧z≤3000):wrap .i64 z=z:=by
 rw [jv];omega
theorem aEc {z:Int}(h:-1023≤z∧z≤3000):wrap .u64 (wrap .i64 (z+1023))=((z+1023).toNat:Int):=by
 have e:z+1023=((z+1023).toNat:Int):=oq
 have e1:wrap .i64 (z+1023)=z+1023:=by
  rw [jv];omega
 rw [e1,e,vt];exact wrap64 (by rw [show (2:Nat)^64=18446744073709551616 from rfl];omega)
theorem Has.one {p:Int}(h1:-1074≤p) (h2:p≤1023):Has double 1 p:=⟨oz,oz,h1,by show p+((1:Nat).log2:Nat)-52 - -1074+3≤2048;rw [show (1:Nat).log2=0 from rfl];omega⟩
end FT
open FT
section
variable {k:World}{R:World→Value→Prop}{s:Bool}{m:Nat}{p e:Int}
theorem aTf (h:Has double m p) (hn:-1022≤p+m.log2) (h':Has double m (p+e)) (he:-100000≤e∧e≤100000) (C:∀k',Up k k'→R k' (.float .f64 (double.nearest s m (p+e)))) :
 Cl k 300 #[.float .f64 (double.nearest s m p),.int .i64 e] R:=by
 intro k0 u0;have hr:=h.read (neg:=s) bF;have hne:m*2^(p-last double m p).toNat≠0:=zy h.ne (by have:=qy (p-last double m p).toNat;omega);have h0:double.read 0=.number false 0 (-1074):=by decide +kernel
 obtain⟨c,hc,hall,g1,g2,g3,g4⟩:=parts (s:=s) h hn;have hw:=(near64 s m p).1;have htop:(p+e)+m.log2-52+1074+3≤2048:=h'.top;have hlow:(-1074:Int)≤p+e:=h'.low;refine aDd ⟨fun f=>?_,fun _=>mK h fun k2 u2=>⟨_,rfl,(fun f=>by cases f),fun _=>rF h fun k5 u5=>⟨_,rfl,(fun f=>by cases f),fun _=>aDe h hn fun k8 u8=>⟨_,_,rfl,?_⟩⟩⟩⟩
 ·exfalso;rw [show FloatKind.format .f64=double from rfl,gD hr h0]at f;generalize m*2^(p-last double m p).toNat=M at *
  generalize last double m p=i at *
  have hz:signed s M (i-min i (-1074)).toNat≠0:=by
   unfold signed;rw [vg];have:=zy hne (show 2^(i-min i (-1074)).toNat≠0 by have:=qy (i-min i (-1074)).toNat;omega);generalize M*2^(i-min i (-1074)).toNat=z at this;cases s <;> simp <;> omega
  have hz2:signed false 0 (-1074-min i (-1074)).toNat=0:=by unfold signed;simp
  rw [hz2]at f;generalize signed s M (i-min i (-1074)).toNat=z at hz f;simp only [compare,compareOfLessAndEq]at f;rw [oh hz]at f;split at f <;> cases f
 have hput:∀q,Has double m q→-1022≤q+m.log2→Int.toNat (wrap .u64 (BitVec.toNat (BitVec.ofInt (IntKind.bits .u64) (wrap .u64 (BitVec.toNat (BitVec.ofInt (IntKind.bits .u64) ((double.nearest s m p:Nat):Int) &&& ~~~(BitVec.ofInt (IntKind.bits .u64) 9218868437227405312)))) ||| BitVec.ofInt (IntKind.bits .u64) (wrap .u64 (((q+m.log2+1023).toNat:Int)*2^(min (Int.toNat 52) (IntKind.bits .u64)))))))=double.nearest s m q:=fun q hq hqn=>by
  have hF:(q+m.log2+1023).toNat<2^11:=by
   have:q+m.log2-52+1074+3≤2048:=hq.top;rw [show (2:Nat)^11=2048 from rfl];omega
  rw [aCw hw (by cases s <;> decide) hc hF g1 g2,hall q hq hqn]
 rw [aTb hw g3 he];have v8:=u0.trans (u2.trans (u5.trans u8));refine⟨fun f=>?_,fun _=>⟨fun f=>?_,fun _=>⟨fun f=>?_,fun f=>?_⟩⟩⟩
 ·have:=ow f;omega
 ·have:=ow f;omega
 ·have f:=ow f;have hs:Has double m (p+e+53):=⟨h.ne,h.bits,by show (-1074:Int)≤_;omega,by show (p+e+53)+m.log2-52+1074+3≤2048;omega⟩;have e1:e+((p+m.log2+1023).toNat:Nat)-1023+53=(p+e+53)+m.log2:=oq
  rw [e1,aQn (z:=p+e+53+m.log2) oq,aEc (z:=p+e+53+m.log2) oq,hput _ hs oq];have hm:Sy.fltR .f64 .mul 4368491638549381120 (double.nearest s m (p+e+53))=some (double.nearest s m (p+e)):=by
   have h1:(4368491638549381120:Nat)=double.nearest false 1 (-53):=by decide +kernel
   have:=nZ (s:=false) (t:=s) bF (Has.one (p:=-53) oz oz) hs;rw [vq,Bool.false_xor,show (-53+(p+e+53):Int)=p+e by omega,←h1]at this;exact this
  rw [hm];exact⟨rfl,fun k9 u9=>C k9 (v8.trans u9)⟩
 ·have f:=ov f;have e1:e+((p+m.log2+1023).toNat:Nat)-1023=(p+e)+m.log2:=oq
  rw [e1,aEc (z:=p+e+m.log2) oq,hput _ h' oq];have hm:Sy.fltR .f64 .mul 4607182418800017408 (double.nearest s m (p+e))=some (double.nearest s m (p+e)):=by
   have h1:(4607182418800017408:Nat)=double.nearest false 1 0:=by decide +kernel
   have:=nZ (s:=false) (t:=s) bF (Has.one (p:=0) oz oz) h';rw [vq,Bool.false_xor,Int.zero_add,←h1]at this;exact this
  rw [hm];exact⟨rfl,fun k9 u9=>C k9 (v8.trans u9)⟩
theorem aTd (h:Has double m p) (hn:-1022≤p+m.log2) (h':Has double m (p+e)) (he:-100000≤e∧e≤100000) (C:∀k',Up k k'→R k' (.float .f64 (double.nearest s m (p+e)))) :
 Cl k 234 #[.float .f64 (double.nearest s m p),.int .i64 e] R:=fun _ u0=>
 aDa (aTf h hn h' he fun _ u1=>⟨_,rfl,fun k2 u2=>C k2 (u0.trans (u1.trans u2))⟩)
end
open Go.RowKit Num Ieee
open Sy (Up Sees CallsG Seg)
section
variable {k:World}{A A':Option Addr}{n n' c c' a b:Nat}{R:World→Value→Prop}
def aWs (a b:Nat) (e:Int):Nat:=FT.half (a*2^(-e).toNat) (b*2^e.toNat)
end
def aTh (a d bits:Nat) (least:Int):Int:=max ((bl a:Int)-bl d-bits) least
def aWp (a d:Nat) (e:Int):Nat:=(a*2^(-e).toNat) / (d*2^e.toNat)
def aTq (a d bits:Nat) (least:Int):Int:=if bits<bl (aWp a d (aTh a d bits least)) then aTh a d bits least+1 else aTh a d bits least
def aTr (a d bits:Nat) (least:Int):Nat:=aWs a d (aTq a d bits least)
def aVv (s:Bool) (a d bits:Nat) (least beyond:Int):Nat:=
 if a=0 then 0 else if beyond<bl (aTr a d bits least)+aTq a d bits least then double.nearest s 1 5000
 else if aTr a d bits least=0 then 0 else double.nearest s (aTr a d bits least) (aTq a d bits least)
section
variable {k:World}{A D:Option Addr}{n c d e:Nat}{R:World→Value→Prop}{cs:Array Value}{q:Rat}{K:Nat}
end
def below2 (a d:Nat) (e:Int):Prop:=a*2^(-e).toNat<d*2^e.toNat
instance (a d:Nat) (e:Int):Decidable (below2 a d e):=by unfold below2;exact inferInstance
def aXi (a d:Nat):Int:=if below2 a d ((bl a:Int)-bl d) then (bl a:Int)-bl d-1 else (bl a:Int)-bl d
open Num Ieee FT
def aVg (G a d:Nat):Nat:=2*(a*2^G/d)+(if a*2^G % d=0 then 0 else 1)
def aWr (bits t c:Nat):Nat:=half c (2^max (bl c-bits) t)*2^max (bl c-bits) t
def aXf (s:Bool) (beyond:Int) (G u:Nat):Nat:=
 if u=0 then 0 else if beyond+(G+1)<bl u then double.nearest s 1 5000 else double.nearest s u (-((G+1:Nat):Int))
namespace FT
theorem aVk (k:FloatKind) (x:Nat):FloatKind.decode k x=k.format.read x:=rfl
theorem aIl {k k':FloatKind}{s:Bool}{m:Nat}{p:Int}(hk:k≠k') (g:Good k.format) (g':Good k'.format) (h:Has k.format m p) (h':Has k'.format m p) :
 Sy.f2f k k' (k.format.nearest s m p)=k'.format.nearest s m p∧Sy.f2fOk k k' (k.format.nearest s m p)=true:=by
 have e:FloatKind.decode k (k.format.nearest s m p)=.number s (m*2^(p-last k.format m p).toNat) (last k.format m p):=h.read g;have e2:FloatKind.encode k' (.number s (m*2^(p-last k.format m p).toNat) (last k.format m p))=k'.format.nearest s m p:=by
  show k'.format.nearest s _ _=_;have:=h.last_le;generalize last k.format m p=i at *
  rw [show i=p-((p-i).toNat:Nat) by omega];rw [show (p-(p-(((p-i).toNat:Nat):Int))).toNat=(p-i).toNat by omega];exact dL h.ne
 unfold Sy.f2f Sy.f2fOk;rw [e,oh hk,e2];refine⟨rfl,?_⟩;simp only [];rw [e2,aVk,h'.read g'];simp [Datum.isInfinity]
end FT
open FT
section
variable {k:World}{R:World→Value→Prop}{cs:Array Value}{q:Rat}{K:Nat}
end
open Num Ieee FT Plain
theorem aCq:bl 0=0:=rfl
def InF (G u:Nat):Prop:=∃m p,Has double m p∧-((G+1:Nat):Int)≤p∧u=m*2^(p+(G+1:Nat)).toNat
def Img (b:Int) (G u:Nat):Prop:=u=0∨(u≠0∧b+(G+1)<bl u)∨(u≠0∧¬ b+(G+1)<bl u∧InF G u)
theorem aGu:double.read 0=.number false 0 (-1074):=by decide +kernel
theorem aAe {x y:Int}(h:(some (compare x y) == some Ordering.eq)=true):x=y:=by
 simp only [compare,compareOfLessAndEq]at h
 by_cases a:x<y
 ·rw [og a]at h;cases h
 ·rw [oh a]at h
  by_cases c:x=y
  ·exact c
  ·rw [oh c]at h;cases h
def aXb (q:Rat) (bits:Nat) (least beyond:Int):Nat:=aVv (decide (q.num<0)) q.num.natAbs q.den bits least beyond
section
variable {lo hi x:Rat}{bits:Nat}{least beyond:Int}
structure Fmt (bits:Nat) (least beyond:Int):Prop where
 one:1≤bits
 bits:bits≤53
 low:-1074≤least
 top:beyond≤1024
 mid:least≤beyond
def uQ (q:Rat) (bits:Nat) (least:Int):Nat:=aWr bits (least+(1075:Nat)+1).toNat (aVg 1075 q.num.natAbs q.den)
end
def eG (s:Bool) (m:Nat) (p:Int):Rat:=mkRat (sgn s (m*2^p.toNat)) (2^(-p).toNat)
theorem aHh {s:Bool}{M:Nat}(h:M≠0):decide (sgn s M<0)=s:=by
 unfold sgn;cases s <;> simp <;> omega
def cX (w:Nat):Nat:=w/2^52 % 2048
def dF (w:Nat):Nat:=w % 2^52
def eT (w:Nat):Bool:=w/2^63 == 1
def kT (w:Nat):Nat:=if cX w=0 then dF w else 2^52+dF w
def vZ (w:Nat):Int:=(max (cX w) 1:Nat)-1075
theorem mY (w:Nat):w % 2^63=cX w*2^52+dF w:=by
 unfold cX dF;omega
theorem nK {w:Nat}(h:w<2^64):w=double.word (eT w) (w % 2^63):=by
 unfold Format.word eT;have es:double.signWeight=2^63:=rfl;have hd:w/2^63<2:=Nat.div_lt_of_lt_mul h;have hw:=jx w (2^63);rw [es];rcases zk (w/2^63) 1 with g|g
 ·have e:w/2^63=0:=oq
  rw [e]at hw ⊢;rw [show ((0:Nat) == 1)=false from rfl,oh oz];omega
 ·have e:w/2^63=1:=oq
  rw [e]at hw ⊢;rw [show ((1:Nat) == 1)=true from rfl,og rfl];omega
theorem aDf (w:Nat):dF w<2^52:=qp _ (qy 52)
theorem rD (w:Nat):cX w<2048:=qp _ oz
theorem aQf (w:Nat):w % 2^63<double.signWeight:=qp _ (qy 63)
theorem lT {w:Nat}(h:w<2^64):double.read w=if cX w<2047 then .number (eT w) (kT w) (vZ w) else if dF w=0 then .infinity (eT w) else .nan (eT w) (dF w):=by
 have hc:=aDf w;have he:=rD w;have key:double.read (double.word (eT w) (w % 2^63))=_:=oC (aQf w);rw [←nK h]at key;rw [key,mY];have eb:double.binade=2^52:=rfl;have ei:double.infRung=2047*2^52:=rfl;have el:double.leastPlace=-1074:=rfl;rw [eb,ei,el];unfold kT vZ;generalize dF w=c at *
 generalize cX w=E at *
 generalize eT w=s
 by_cases g:E=0
 ·subst g;rw [og oq,og oz,og rfl]
  congr 1
  omega
 ·have d1:(E*2^52+c) / 2^52=E:=by
   rw [jn,yv _ _ (qy 52),qs hc,qe]
  have d2:(E*2^52+c) % 2^52=c:=by
   rw [jn,xx,qh hc]
  rw [oh oq]
  by_cases g2:E<2047
  ·rw [og oq,og g2,oh g,d1,d2]
   congr 1
   omega
  ·have e:E*2^52=2047*2^52:=by
    have:E=2047:=oq
    rw [this]
   have n1:¬ E*2^52+c<2047*2^52:=by rw [e];exact Nat.not_lt.2 (Nat.le_add_right _ _)
   rw [oh n1,oh g2]
   by_cases g3:c=0
   ·have n2:E*2^52+c=2047*2^52:=by rw [e,g3,jf]
    rw [og n2,og g3]
   ·have n2:¬ E*2^52+c=2047*2^52:=fun h=>g3 (by rw [e]at h;exact Nat.add_left_cancel (h.trans (jf _).symm));rw [oh n2,oh g3];have n3:E*2^52+c-2047*2^52=c:=by rw [e,Nat.add_sub_cancel_left]
    rw [n3]
theorem uU {w:Nat}(h:w<2^64) (hE:cX w<2047) (hm:kT w≠0):w=double.nearest (eT w) (kT w) (vZ w)∧Has double (kT w) (vZ w):=by
 have hc:=aDf w;have hw:=nK h;rw [mY]at hw;unfold kT vZ at *
 generalize dF w=c at *
 generalize cX w=E at *
 generalize eT w=s at *
 have eb:double.binade=2^52:=rfl;have ei:double.infRung=2047*2^52:=rfl;have el:double.leastPlace=-1074:=rfl
 by_cases g:E=0
 ·subst g;rw [og rfl]at hm ⊢;have hl:c.log2<52:=(zz hm).2 hc;have hlast:last double c (((max 0 1:Nat):Int)-1075)=-1074:=by
   unfold last;show max (_-((52:Nat):Int)) (-1074)=_;omega
  refine⟨?_,hm,xm hc oz,by show (-1074:Int)≤_;omega,by show _+_-52 - -1074+3≤2048;omega⟩;rw [cQ hm,hlast,el,eb,ei];rw [show (((max 0 1:Nat):Int)-1075 - -1074).toNat=0 by omega,show (-1074-(((max 0 1:Nat):Int)-1075)).toNat=0 by omega,show ((-1074:Int) - -1074).toNat=0 by omega,vu,xq,fH,kj oq]
  rwa [vu]at hw
 ·rw [oh g]at hm ⊢;have hl:(2^52+c).log2=52:=by
   have a:(2^52+c).log2<53:=(zz hm).2 oq;have b:52≤(2^52+c).log2:=(Nat.le_log2 hm).2 oq;omega
  have hlast:last double (2^52+c) (((max E 1:Nat):Int)-1075)=(E:Int)-1075:=by
   unfold last;rw [hl];show max (_-((52:Nat):Int)) (-1074)=_;omega
  refine⟨?_,hm,by show 2^52+c<2^53;omega,by show (-1074:Int)≤_;omega,by rw [hl];show _+_-52 - -1074+3≤2048;omega⟩;rw [cQ hm,hlast,el,eb,ei];rw [show (((max E 1:Nat):Int)-1075-((E:Int)-1075)).toNat=0 by omega,show ((E:Int)-1075-(((max E 1:Nat):Int)-1075)).toNat=0 by omega,show ((E:Int)-1075 - -1074).toNat=E-1 by omega,xq,fH,kj oq];rw [show (E-1)*2^52+(2^52+c)=E*2^52+c by omega];exact hw
def cO (w:Nat):Nat:=w/2^23 % 256
def gG (w:Nat):Nat:=w % 2^23
def fT (w:Nat):Bool:=w/2^31 == 1
def mQ (w:Nat):Nat:=if cO w=0 then gG w else 2^23+gG w
def sW (w:Nat):Int:=(max (cO w) 1:Nat)-150
theorem iH (w:Nat):w % 2^31=cO w*2^23+gG w:=by
 unfold cO gG;omega
theorem iK {w:Nat}(h:w<2^32):w=single.word (fT w) (w % 2^31):=by
 unfold Format.word fT;have es:single.signWeight=2^31:=rfl;have hd:w/2^31<2:=Nat.div_lt_of_lt_mul h;have hw:=jx w (2^31);rw [es];rcases zk (w/2^31) 1 with g|g
 ·have e:w/2^31=0:=oq
  rw [e]at hw ⊢;rw [show ((0:Nat) == 1)=false from rfl,oh oz];omega
 ·have e:w/2^31=1:=oq
  rw [e]at hw ⊢;rw [show ((1:Nat) == 1)=true from rfl,og rfl];omega
theorem tN (w:Nat):gG w<2^23:=qp _ (qy 23)
theorem rE (w:Nat):cO w<256:=qp _ oz
theorem aGx (w:Nat):w % 2^31<single.signWeight:=qp _ (qy 31)
theorem iW {w:Nat}(h:w<2^32):single.read w=if cO w<255 then .number (fT w) (mQ w) (sW w) else if gG w=0 then .infinity (fT w) else .nan (fT w) (gG w):=by
 have hc:=tN w;have he:=rE w;have key:single.read (single.word (fT w) (w % 2^31))=_:=oC (aGx w);rw [←iK h]at key;rw [key,iH];have eb:single.binade=2^23:=rfl;have ei:single.infRung=255*2^23:=rfl;have el:single.leastPlace=-149:=rfl;rw [eb,ei,el];unfold mQ sW;generalize gG w=c at *
 generalize cO w=E at *
 generalize fT w=s
 by_cases g:E=0
 ·subst g;rw [og oq,og oz,og rfl]
  congr 1
  omega
 ·have d1:(E*2^23+c) / 2^23=E:=by
   rw [jn,yv _ _ (qy 23),qs hc,qe]
  have d2:(E*2^23+c) % 2^23=c:=by
   rw [jn,xx,qh hc]
  rw [oh oq]
  by_cases g2:E<255
  ·rw [og oq,og g2,oh g,d1,d2]
   congr 1
   omega
  ·have e:E*2^23=255*2^23:=by
    have:E=255:=oq
    rw [this]
   have n1:¬ E*2^23+c<255*2^23:=by rw [e];exact Nat.not_lt.2 (Nat.le_add_right _ _)
   rw [oh n1,oh g2]
   by_cases g3:c=0
   ·have n2:E*2^23+c=255*2^23:=by rw [e,g3,jf]
    rw [og n2,og g3]
   ·have n2:¬ E*2^23+c=255*2^23:=fun h=>g3 (by rw [e]at h;exact Nat.add_left_cancel (h.trans (jf _).symm));rw [oh n2,oh g3];have n3:E*2^23+c-255*2^23=c:=by rw [e,Nat.add_sub_cancel_left]
    rw [n3]
theorem zR {w:Nat}(h:w<2^32) (hE:cO w<255) (hm:mQ w≠0):w=single.nearest (fT w) (mQ w) (sW w)∧Has single (mQ w) (sW w):=by
 have hc:=tN w;have hw:=iK h;rw [iH]at hw;unfold mQ sW at *
 generalize gG w=c at *
 generalize cO w=E at *
 generalize fT w=s at *
 have eb:single.binade=2^23:=rfl;have ei:single.infRung=255*2^23:=rfl;have el:single.leastPlace=-149:=rfl
 by_cases g:E=0
 ·subst g;rw [og rfl]at hm ⊢;have hl:c.log2<23:=(zz hm).2 hc;have hlast:last single c (((max 0 1:Nat):Int)-150)=-149:=by
   unfold last;show max (_-((23:Nat):Int)) (-149)=_;omega
  refine⟨?_,hm,xm hc oz,by show (-149:Int)≤_;omega,by show _+_-23 - -149+3≤256;omega⟩;rw [cQ hm,hlast,el,eb,ei];rw [show (((max 0 1:Nat):Int)-150 - -149).toNat=0 by omega,show (-149-(((max 0 1:Nat):Int)-150)).toNat=0 by omega,show ((-149:Int) - -149).toNat=0 by omega,vu,xq,fH,kj oq]
  rwa [vu]at hw
 ·rw [oh g]at hm ⊢;have hl:(2^23+c).log2=23:=by
   have a:(2^23+c).log2<24:=(zz hm).2 oq;have b:23≤(2^23+c).log2:=(Nat.le_log2 hm).2 oq;omega
  have hlast:last single (2^23+c) (((max E 1:Nat):Int)-150)=(E:Int)-150:=by
   unfold last;rw [hl];show max (_-((23:Nat):Int)) (-149)=_;omega
  refine⟨?_,hm,by show 2^23+c<2^24;omega,by show (-149:Int)≤_;omega,by rw [hl];show _+_-23 - -149+3≤256;omega⟩;rw [cQ hm,hlast,el,eb,ei];rw [show (((max E 1:Nat):Int)-150-((E:Int)-150)).toNat=0 by omega,show ((E:Int)-150-(((max E 1:Nat):Int)-150)).toNat=0 by omega,show ((E:Int)-150 - -149).toNat=E-1 by omega,xq,fH,kj oq];rw [show (E-1)*2^23+(2^23+c)=E*2^23+c by omega];exact hw
namespace FT
theorem uD {x y:Nat}{s:Bool}{t:Nat}(hx:double.read x=.nan s t):double.order x y=none:=by
 unfold Format.order;rw [hx];unfold Datum.order;rfl
theorem fdiv52 {w:Nat}:Int.fdiv ((w:Nat):Int) (2^(min (Int.toNat 52) (IntKind.bits .u64)))=((w/2^52:Nat):Int):=by
 rw [pow52,Int.fdiv_eq_ediv_of_nonneg _ oz];rfl
theorem aOw {w:Nat}(h:w<2^64):wrap .i64 (wrap .u64 (BitVec.toNat (BitVec.ofInt (IntKind.bits .u64) (Int.fdiv ((w:Nat):Int) (2^(min (Int.toNat 52) (IntKind.bits .u64)))) &&& BitVec.ofInt (IntKind.bits .u64) 2047)))=(cX w:Int):=by
 have hE:=rD w;rw [fdiv52,show IntKind.bits .u64=64 from rfl,field h,show w/2^52 % 2048=cX w from rfl,wrap64 (xm hE oz),jv];omega
end FT
open FT
def pU (w:Nat):Rat:=if cX w<2047 then eG (eT w) (kT w) (vZ w) else 0
theorem yH {w:Nat}(h:cX w<2047) (hm:kT w=0):pU w=0:=by
 unfold pU eG;rw [og h,hm,vu,show sgn (eT w) 0=0 from by unfold sgn;cases eT w <;> rfl,ka]
namespace W32
section
variable {k:World}{R:World→Value→Prop}{w:Nat}
end
end W32
namespace FT
theorem lt_of {x y:Int}(h:x<y):(some (compare x y) == some Ordering.lt)=true:=by
 simp only [compare,compareOfLessAndEq];rw [og h];rfl
theorem aCd {s:Bool}{n:Nat}:(Datum.number s n 0).toInt .zero=some (sgn s n):=by
 unfold Datum.toInt Datum.integral;simp only [];have e:Toward.zero.cut s (n <<< (0:Int).toNat) (-(0:Int)).toNat=n:=by
  unfold Toward.cut;simp
 rw [e];unfold signed sgn;rw [xq]
end FT
open FT
section
variable {k:World}{R:World→Value→Prop}{s:Bool}{m:Nat}{p q e:Int}{w:Nat}
theorem aFe (h:Has double m p) (hn:p+m.log2 < -1022) (C:∀k',Up k k'→R k' (.tuple #[.float .f64 (double.nearest s m (p+52)),.int .i64 (-52)])):Cl k 328 #[.float .f64 (double.nearest s m p)] R:=by
 intro k0 u0;refine xT (lK fun k1 u1=>⟨_,rfl,fun _=>?_,fun f=>?_⟩)
 ·have hm:=nZ (s:=s) (t:=false) bF h (Has.one (p:=52) oz oz);have h1:(4841369599423283200:Nat)=double.nearest false 1 52:=by decide +kernel
  rw [zr,Bool.xor_false,←h1]at hm;have hm':Sy.fltR .f64 .mul (double.nearest s m p) 4841369599423283200=some (double.nearest s m (p+52)):=hm;rw [hm'];exact⟨rfl,fun k2 u2=>C k2 (u0.trans (u1.trans u2))⟩
 ·exfalso;have hr:=h.read (neg:=false) bF;have hl:m.log2<53:=(zz h.ne).2 h.bits;have hlow:(-1074:Int)≤p:=h.low;have elast:last double m p=-1074:=by
   unfold last;show max (p+m.log2-((52:Nat):Int)) (-1074)=_;omega
  have hlog:(m*2^(p-last double m p).toNat).log2=m.log2+(p-last double m p).toNat:=dJ h.ne;have hne:m*2^(p-last double m p).toNat≠0:=zy h.ne (Nat.ne_of_gt (qy _));generalize last double m p=i at *
  subst elast;have hM:m*2^(p - -1074).toNat<2^52:=(zz hne).1 oq;generalize m*2^(p - -1074).toNat=M at *
  have hx:double.read 4503599627370496=.number false (2^52) (-1074):=by decide +kernel
  rw [show FloatKind.format .f64=double from rfl,gD hr hx]at f;rw [show min (-1074:Int) (-1074)=-1074 by omega,show ((-1074:Int) - -1074).toNat=0 by omega]at f;unfold signed at f;simp only [ji,if_false,xq]at f;rw [lt_of (by exact_mod_cast hM)]at f;cases f
theorem xV (h:Has double m q) (hn:-1022≤q+m.log2):Int.toNat (wrap .u64 (BitVec.toNat (BitVec.ofInt (IntKind.bits .u64) (wrap .u64 (BitVec.toNat (BitVec.ofInt (IntKind.bits .u64) ((double.nearest s m q:Nat):Int) &&& ~~~(BitVec.ofInt (IntKind.bits .u64) 9218868437227405312)))) ||| BitVec.ofInt (IntKind.bits .u64) 4602678819172646912)))=double.nearest s m (-((m.log2+1:Nat):Int)):=by
 obtain⟨c,hc,hall,g1,g2,g3,g4⟩:=parts (s:=s) h hn;have hw:=(near64 s m q).1;have hl:m.log2<53:=(zz h.ne).2 h.bits;have hq:Has double m (-((m.log2+1:Nat):Int)):=⟨h.ne,h.bits,by show (-1074:Int)≤_;omega,by show -((m.log2+1:Nat):Int)+m.log2-52+1074+3≤2048;omega⟩;have:=aCw (F:=1022) hw (by cases s <;> decide) hc oz g1 g2;rw [show wrap .u64 (((1022:Nat):Int)*2^(min (Int.toNat 52) (IntKind.bits .u64)))=4602678819172646912 from by decide]at this;rw [this,hall _ hq oq,show (-((m.log2+1:Nat):Int)+m.log2+1023).toNat=1022 by omega]
theorem aDg {e0:Int}(h:Has double m q) (hn:-1022≤q+m.log2) (he:-1000≤e0∧e0≤1000):wrap .i64 (e0+(wrap .i64 ((wrap .i64 ((wrap .i64 (wrap .u64 (BitVec.toNat (BitVec.ofInt (IntKind.bits .u64) (Int.fdiv ((double.nearest s m q:Nat):Int) (2^(min (Int.toNat 52) (IntKind.bits .u64)))) &&& BitVec.ofInt (IntKind.bits .u64) 2047))))-1023))+1)))=e0+q+m.log2+1:=by
 obtain⟨c,hc,hall,g1,g2,g3,g4⟩:=parts (s:=s) h hn;have hw:=(near64 s m q).1;have g5:cX (double.nearest s m q)=(q+m.log2+1023).toNat:=g3;have g6:(q+m.log2+1023).toNat<2048:=g4;rw [aOw hw,g5,jv,jv,jv];omega
theorem nonzero {x:Nat}(h:Has double m p) (hx:double.read x=.number false 0 (-1074)):(double.order (double.nearest s m p) x == some Ordering.eq)=false:=by
 have hr:=h.read (neg:=s) bF;have hne:m*2^(p-last double m p).toNat≠0:=zy h.ne (Nat.ne_of_gt (qy _));rw [gD hr hx];generalize m*2^(p-last double m p).toNat=M at *
 generalize last double m p=i at *
 have hz:signed s M (i-min i (-1074)).toNat≠0:=by
  unfold signed;rw [vg];have:=zy hne (Nat.ne_of_gt (qy (i-min i (-1074)).toNat));generalize M*2^(i-min i (-1074)).toNat=z at this;cases s <;> simp <;> omega
 have hz2:signed false 0 (-1074-min i (-1074)).toNat=0:=by unfold signed;simp
 rw [hz2];refine Bool.eq_false_iff.2 fun o=>hz (aAe o)
theorem aTe (h:Has double m p) (C:∀k',Up k k'→R k' (.tuple #[.float .f64 (double.nearest s m (-((m.log2+1:Nat):Int))),.int .i64 (p+m.log2+1)])) :
 Cl k 235 #[.float .f64 (double.nearest s m p)] R:=by
 intro k0 u0;have h0:double.read 0=.number false 0 (-1074):=aGu;have hl:m.log2<53:=(zz h.ne).2 h.bits;have hlow:(-1074:Int)≤p:=h.low;refine aCz fun k1 u1=>aDc ⟨fun f=>?_,fun _=>mK h fun k2 u2=>⟨_,rfl,(fun f=>by cases f),fun _=>rF h fun k5 u5=>⟨_,rfl,(fun f=>by cases f),fun _=>?_⟩⟩⟩
 ·have:=nonzero (s:=s) h h0;rw [show FloatKind.format .f64=double from rfl,this]at f;cases f
 by_cases hn:-1022≤p+m.log2
 ·refine aDe h hn fun k8 u8=>⟨_,_,rfl,fun k9 u9=>⟨_,_,rfl,fun k10 u10=>?_⟩⟩;have:=C k10 (u0.trans (u1.trans (u2.trans (u5.trans (u8.trans (u9.trans u10))))));rw [xV h hn,aDg h hn oz,Int.zero_add];exact this
 ·have h':Has double m (p+52):=⟨h.ne,h.bits,by show (-1074:Int)≤_;omega,by show p+52+m.log2-52+1074+3≤2048;omega⟩;refine aFe h oq fun k8 u8=>⟨_,_,rfl,fun k9 u9=>⟨_,_,rfl,fun k10 u10=>?_⟩⟩;have:=C k10 (u0.trans (u1.trans (u2.trans (u5.trans (u8.trans (u9.trans u10))))));rw [xV h' oq,aDg h' oq oz,show (-52:Int)+(p+52)+m.log2+1=p+m.log2+1 by omega];exact this
theorem aCh (h:Has double m p) (hp:p+m.log2=52):Sy.f2iOk .f64 .i64 (double.nearest s m p)=true∧Sy.f2i .f64 (double.nearest s m p)=sgn s (m*2^p.toNat)∧m*2^p.toNat<2^53:=by
 have hl:m.log2<53:=(zz h.ne).2 h.bits;have elast:last double m p=0:=by
  unfold last;show max (p+m.log2-((52:Nat):Int)) (-1074)=_;omega
 have hr:=h.read (neg:=s) bF;rw [elast,Int.sub_zero]at hr;have hne:m*2^p.toNat≠0:=zy h.ne (Nat.ne_of_gt (qy _));have hM:m*2^p.toNat<2^53:=(zz hne).1 (by rw [dJ h.ne];omega);have hd:(FloatKind.decode .f64 (double.nearest s m p)).toInt .zero=some (sgn s (m*2^p.toNat)):=by
  rw [aVk];show (double.read _).toInt .zero=_;rw [hr,aCd]
 refine⟨?_,?_,hM⟩
 ·unfold Sy.f2iOk;rw [hd];refine decide_eq_true ?_;have e1:IntKind.i64.min=-9223372036854775808:=rfl;have e2:IntKind.i64.max=9223372036854775807:=rfl;rw [e1,e2];have e3:(2:Nat)^53=9007199254740992:=rfl;unfold sgn;split <;> omega
 ·unfold Sy.f2i;rw [hd];rfl
theorem aGt {k:World}{A:Option Addr}{n c:Nat}{b:Bool}{z:Int}{K:Nat}(h:IntV k #[.bool b,.slice A n c] z K):RatV k #[.bool b,.slice A n c,.slice none 0 0] (z:Rat) K:=by
 obtain⟨b',A',n',c',e,hi,hn⟩:=h;injection e with e;injection e with e1 e;injection e1 with e1;injection e with e2 e;injection e2 with e2 e3 e4;subst e1 e2 e3 e4;exact⟨_,_,_,_,none,0,0,rfl,⟨by rw [Rat.num_intCast];exact hi,by rw [Rat.den_intCast,og rfl];exact LimR.nil⟩,hn,jw _⟩
theorem aDu {k:World}{K:Nat}:RatV k #[.bool false,.slice none 0 0,.slice none 0 0] 0 K:=
 ⟨_,_,_,_,none,0,0,rfl,⟨⟨rfl,LimR.nil⟩,LimR.nil⟩,jw _,jw _⟩
theorem aLn (s:Bool) (a b:Nat):sgn s (a*b)=sgn s a*(b:Int):=by
 unfold sgn;cases s <;> simp [Int.neg_mul]
theorem lL {s:Bool}{m j d:Nat}{p:Int}(h:p+d=j):mkRat (sgn s (m*2^j)) (1*2^d)=eG s m p:=by
 unfold eG;rw [vq];have e1:m*2^j=m*2^p.toNat*2^(j-p.toNat):=by rw [qt,←qa];congr 2;omega
 have e2:2^d=2^(-p).toNat*2^(j-p.toNat):=by rw [←qa];congr 1;omega
 rw [e1,e2,aLn,Rat.mkRat_mul_right (Nat.ne_of_gt (qy _))]
theorem aCj (h:Has double m p) (C:∀k' ds,Up k k'→RatV k' ds (eG s m p) 1200→R k' (.tuple #[.agg ds,.int .i64 0])) :
 Cl k 149 #[.float .f64 (double.nearest s m p)] R:=by
 intro k0 u0;have hl:m.log2<53:=(zz h.ne).2 h.bits;have hlow:(-1074:Int)≤p:=h.low;have htop:p+m.log2-52+1074+3≤2048:=h.top;refine kR (rF h fun k1 u1=>⟨_,rfl,(fun f=>by cases f),fun _=>mK h fun k4 u4=>⟨_,rfl,(fun f=>by cases f),fun _=>?_⟩⟩);refine aTe h fun k7 u7=>⟨_,_,rfl,?_⟩;have hq:Has double m (-((m.log2+1:Nat):Int)):=⟨h.ne,h.bits,by show (-1074:Int)≤_;omega,by show -((m.log2+1:Nat):Int)+m.log2-52+1074+3≤2048;omega⟩;have hq':Has double m (-((m.log2+1:Nat):Int)+53):=⟨h.ne,h.bits,by show (-1074:Int)≤_;omega,by show -((m.log2+1:Nat):Int)+53+m.log2-52+1074+3≤2048;omega⟩;refine aTd hq oq hq' oz fun k9 u9=>⟨_,rfl,?_⟩;obtain⟨w1,w2,w3⟩:=aCh (s:=s) hq' oq;rw [w2];refine⟨w1,?_⟩;have e3:(2:Nat)^53=9007199254740992:=rfl;have ej:(-((m.log2+1:Nat):Int)+53).toNat=52-m.log2:=oq
 rw [ej]at w3 ⊢;have v9:=u0.trans (u1.trans (u4.trans (u7.trans u9)));have wE:wrap .i64 (p+m.log2+1-53)=p+m.log2-52:=by rw [jv];omega
 refine yL (z:=sgn s (m*2^(52-m.log2))) (by unfold sgn;split <;> omega) (by unfold sgn;split <;> omega) fun k11 ds u11 hI=>?_;have hI':=hI;obtain⟨b,A,n,c,rfl,hr,hn⟩:=hI';refine⟨_,_,_,_,rfl,?_⟩
 try dsimp only
 rw [wE];have hz:(sgn s (m*2^(52-m.log2))).natAbs=m*2^(52-m.log2):=aDx _ _;have hne:m*2^(52-m.log2)≠0:=zy h.ne (Nat.ne_of_gt (qy _));have hb:b=s:=by rw [hr.neg];exact aHh hne
 have hlim:=hr.lim;rw [hz]at hlim;refine⟨fun f=>?_,fun f=>?_⟩
 ·have f:=ow f;have es:p+m.log2-52=(((p+m.log2-52).toNat:Nat):Int):=oq
  rw [es];refine aAq hlim oq oq fun k13 B j d u13 h13 l13=>⟨_,_,_,rfl,?_⟩;refine aRb (K:=1200) h13 oq oq fun k15 ds u15 h15=>?_;have h15':=h15;obtain⟨b9,A10,l10,c10,rfl,_⟩:=h15';refine⟨_,_,_,_,rfl,fun k16 u16=>C k16 _ (v9.trans (u11.trans (u13.trans (u15.trans u16)))) ?_⟩;have:=(aGt h15).up u16;rw [hb]at this;have e:((sgn s (m*2^(52-m.log2)*2^(p+m.log2-52).toNat):Int):Rat)=eG s m p:=by
   rw [qt,←qa,←lL (j:=52-m.log2+(p+m.log2-52).toNat) (d:=0) oq];exact (Rat.mkRat_one _).symm
  rwa [e]at this
 ·have f:=ov f;have es:wrap .i64 (0-(p+m.log2-52))=(((52-p-m.log2).toNat:Nat):Int):=by rw [jv];omega
  rw [es];refine lW (x:=1) oz fun k13 B j d u13 h13 l13=>⟨_,_,_,rfl,?_⟩;refine aAq h13 oq oq fun k15 B j d u15 h15 l15=>⟨_,_,_,rfl,?_⟩;refine oA (K:=1200) ((hI.up (u13.trans u15)).mono oz) h15 (by have:=qy (52-p-m.log2).toNat;omega) oz oq fun k17 ds u17 h17=>?_;have h17':=h17;obtain⟨g,A,n,c,D,d,e,rfl,_⟩:=h17';refine⟨_,_,_,_,_,_,_,rfl,fun k18 u18=>C k18 _ (v9.trans (u11.trans (u13.trans (u15.trans (u17.trans u18))))) ?_⟩;have:=h17.up u18
  rwa [lL (p:=p) oq]at this
theorem zX {s:Bool}(C:∀k' ds,Up k k'→RatV k' ds 0 1200→R k' (.tuple #[.agg ds,.int .i64 0])) :
 Cl k 149 #[.float .f64 (double.nearest s 0 0)] R:=by
 intro k0 u0;have f1:∀s,(Format.order double (double.nearest s 0 0) (double.nearest s 0 0) != some Ordering.eq)=false:=by decide +kernel
 have f2:(Format.order double (double.nearest false 0 0) 9218868437227405311 == some Ordering.gt)=false:=by decide +kernel
 have f3:∀s,(Format.order double (double.nearest s 0 0) 0 == some Ordering.eq)=true:=by decide +kernel
 have f4:∀s,Sy.f2iOk .f64 .i64 (double.nearest s 0 0)=true∧Sy.f2i .f64 (double.nearest s 0 0)=0:=by decide +kernel
 refine kR fun k1 u1=>iD fun k2 u2=>⟨_,rfl,fun f=>?_,fun _ k3 u3=>fY ⟨fun _=>lK fun k4 u4=>⟨_,rfl,fun k5 u5=>⟨_,rfl,fun f=>?_,fun _ k6 u6=>?_⟩⟩,fun f=>by cases f⟩⟩
 ·rw [show FloatKind.format .f64=double from rfl,f1 s]at f;cases f
 ·rw [show FloatKind.format .f64=double from rfl,f2]at f;cases f
 refine aCz fun k7 u7=>aDc ⟨fun _ k8 u8=>⟨_,_,rfl,fun k9 u9=>⟨_,_,rfl,?_⟩⟩,fun f=>by rw [show FloatKind.format .f64=double from rfl,f3 s]at f;cases f⟩;refine fun k10 u10=>aDa fun k11 u11=>aDd ⟨fun _ k12 u12=>⟨_,rfl,fun k13 u13=>⟨_,rfl,(f4 s).1,?_⟩⟩,fun f=>by rw [show FloatKind.format .f64=double from rfl,f3 s]at f;cases f⟩;rw [(f4 s).2];have v13:=u0.trans (u1.trans (u2.trans (u3.trans (u4.trans (u5.trans (u6.trans (u7.trans (u8.trans (u9.trans (u10.trans (u11.trans (u12.trans u13))))))))))));refine yL (z:=0) oz oz fun k14 ds u14 hI=>?_;have hI':=hI;obtain⟨b,A,n,c,rfl,hr,hn⟩:=hI';refine⟨_,_,_,_,rfl,?_⟩
 try dsimp only
 rw [show wrap .i64 ((0:Int)-53)=-53 from by decide];refine⟨fun f=>absurd f oz,fun _=>?_⟩;rw [show wrap .i64 ((0:Int) - -53)=((53:Nat):Int) from by decide];refine lW (x:=1) oz fun k15 B j d u15 h15 l15=>⟨_,_,_,rfl,?_⟩;refine aAq h15 oq oz fun k16 B j d u16 h16 l16=>⟨_,_,_,rfl,?_⟩;refine oA (K:=1200) ((hI.up (u15.trans u16)).mono oz) h16 oz oz oq fun k17 ds u17 h17=>?_;have h17':=h17;obtain⟨g,A,n,c,D,d,e,rfl,_⟩:=h17';refine⟨_,_,_,_,_,_,_,rfl,fun k18 u18=>C k18 _ (v13.trans (u14.trans (u15.trans (u16.trans (u17.trans u18))))) ?_⟩;have:=h17.up u18
 rwa [ka]at this
theorem rM {w:Nat}(h:w<2^64) (hE:cX w=2047) (hf:dF w=0):w=double.nearest (eT w) 1 5000:=by
 have e:=nK h;rw [mY,hE,hf]at e;rw [e];generalize eT w=s;have key:∀s,double.word s (2047*2^52+0)=double.nearest s 1 5000:=by decide +kernel
 have k2:∀s,eT (double.word s (2047*2^52+0))=s:=by decide +kernel
 rw [k2,key]
theorem aMt (h:w<2^64) (C:∀k' ds,Up k k'→RatV k' ds (pU w) 1200→R k' (.tuple #[.agg ds,.int .i64 (if cX w<2047 then 0 else 1)])) :
 Cl k 149 #[.float .f64 w] R:=by
 by_cases hE:cX w<2047
 ·rw [og hE]at C
  by_cases hm:kT w=0
  ·rw [yH hE hm]at C;have e:w=double.nearest (eT w) 0 0:=by
    have hr:w % 2^63=0:=by
     rw [mY];unfold kT at hm;split at hm
     ·rename_i g;rw [g,hm]
     ·have:=qy 52;omega
    have:=nK h;rw [hr]at this;rw [this];generalize eT w=s;have k2:∀s,eT (double.word s 0)=s:=by decide +kernel
    rw [k2];unfold Format.nearest;rw [og rfl]
   rw [e];exact zX C
  ·obtain⟨e,hh⟩:=uU h hE hm;have hn:pU w=eG (eT w) (kT w) (vZ w):=by unfold pU;rw [og hE]
   rw [hn]at C;rw [e];generalize eT w=s at *
   generalize kT w=m at *
   generalize vZ w=p at *
   exact aCj hh C
 ·have hE2:cX w=2047:=by have:=rD w;omega
  have hn:pU w=0:=by unfold pU;rw [oh hE]
  rw [oh hE,hn]at C;intro k0 u0;have hr:=lT h;rw [oh hE]at hr
  by_cases hf:dF w=0
  ·have e:=rM h hE2 hf;rw [e];generalize eT w=s;have f1:∀s,(Format.order double (double.nearest s 1 5000) (double.nearest s 1 5000) != some Ordering.eq)=false:=by decide +kernel
   have f2:(Format.order double (double.nearest false 1 5000) 9218868437227405311 == some Ordering.gt)=true:=by decide +kernel
   refine kR fun k1 u1=>iD fun k2 u2=>⟨_,rfl,fun f=>?_,fun _ k3 u3=>fY ⟨fun _=>lK fun k4 u4=>⟨_,rfl,fun k5 u5=>⟨_,rfl,fun _ k6 u6=>?_,fun f=>?_⟩⟩,fun f=>by cases f⟩⟩
   ·rw [show FloatKind.format .f64=double from rfl,f1 s]at f;cases f
   ·exact C k6 _ (u0.trans (u1.trans (u2.trans (u3.trans (u4.trans (u5.trans u6)))))) aDu
   ·rw [show FloatKind.format .f64=double from rfl,f2]at f;cases f
  ·rw [oh hf]at hr;refine kR fun k1 u1=>iD fun k2 u2=>⟨_,rfl,fun _ k3 u3=>C k3 _ (u0.trans (u1.trans (u2.trans u3))) aDu,fun f=>?_⟩;rw [show FloatKind.format .f64=double from rfl,uD hr]at f;cases f
end
open Go.RowKit Num Ieee FT W32
namespace FT
variable {f:Ieee.Format}
theorem aBf {x y:Nat}{s t:Bool}{M N:Nat}{i j:Int}(hx:f.read x=.number s M i) (hy:f.read y=.number t N j) :
 f.order x y=some (compare (signed s M (i-min i j).toNat) (signed t N (j-min i j).toNat)):=by
 unfold Format.order;rw [hx,hy];rfl
theorem aKk {x:Nat}{s:Bool}{M:Nat}{i:Int}(hx:f.read x=.number s M i):f.order x x=some Ordering.eq:=by
 rw [aBf hx hx];simp [compare,compareOfLessAndEq]
end FT
open FT
theorem aFc {m:Nat}{p:Int}(h:Has single m p):Has double m p:=by
 have h1:m<2^24:=h.bits;have h2:(-149:Int)≤p:=h.low;have h3:p+m.log2-23+149+3≤256:=h.top;exact⟨h.ne,xm h1 oz,by show (-1074:Int)≤p;omega,by show p+m.log2-52+1074+3≤2048;omega⟩
theorem qD {s:Bool}{m:Nat}{p i:Int}(h:i≤p):eG s (m*2^(p-i).toNat) i=eG s m p:=by
 rw [←lL (s:=s) (m:=m) (p:=p) (d:=(-i).toNat) (j:=(p+(-i).toNat).toNat+0) oq];unfold eG;rw [vq,qt,←qa]
 congr 4
 omega
theorem aJx {s:Bool}{m:Nat}{p:Int}(h:Has double m p):pU (double.nearest s m p)=eG s m p∧cX (double.nearest s m p)<2047:=by
 have a:=lT (near64 s m p).1;rw [h.read bF]at a;unfold pU
 by_cases g:cX (double.nearest s m p)<2047
 ·rw [og g]at a ⊢;injection a with a1 a2 a3;rw [←a1,←a2,←a3,qD h.last_le];exact⟨rfl,g⟩
 ·rw [oh g]at a;split at a <;> cases a
def lP (w:Nat):Rat:=if cO w<255 then eG (fT w) (mQ w) (sW w) else 0
theorem zZ {w:Nat}(h:w<2^32) (hm:mQ w=0):w=single.word (fT w) 0∧cO w=0:=by
 have hE:cO w=0∧gG w=0:=by
  unfold mQ at hm;split at hm
  ·exact⟨by assumption,hm⟩
  ·have:=qy 23;omega
 have:=iK h;rw [iH,hE.1,hE.2]at this;exact⟨this,hE.1⟩
theorem vG {v n:Nat}(h:v<2^32) (hc:Sy.F2F .f32 .f64 v n):n<2^64∧(cX n<2047↔cO v<255)∧pU n=lP v:=by
 have hr:=iW h
 by_cases hE:cO v<255
 ·have hv:lP v=eG (fT v) (mQ v) (sW v):=by unfold lP;rw [og hE]
  by_cases hm:mQ v=0
  ·obtain⟨e,e0⟩:=zZ h hm;have hz:lP v=0:=by
    rw [hv,hm];unfold eG;rw [vu,show sgn (fT v) 0=0 from by unfold sgn;cases fT v <;> rfl,ka]
   rw [hz];have key:∀s,Sy.f2fOk .f32 .f64 (single.word s 0)=true∧Sy.f2f .f32 .f64 (single.word s 0)<2^64∧cX (Sy.f2f .f32 .f64 (single.word s 0))<2047∧kT (Sy.f2f .f32 .f64 (single.word s 0))=0:=by decide +kernel
   obtain⟨k1,k2,k3,k4⟩:=key (fT v);rw [←e]at k1 k2 k3 k4;rcases hc with ⟨_,rfl⟩|⟨c,_⟩
   ·exact⟨k2,⟨fun _=>hE,fun _=>k3⟩,yH k3 k4⟩
   ·rw [k1]at c;cases c
  ·obtain⟨e,hh⟩:=zR h hE hm;have hd:=aFc hh;obtain⟨c1,c2⟩:=aIl (k:=.f32) (k':=.f64) (s:=fT v) oz jO bF hh hd;have c1:Sy.f2f .f32 .f64 (single.nearest (fT v) (mQ v) (sW v))=double.nearest (fT v) (mQ v) (sW v):=c1;have c2:Sy.f2fOk .f32 .f64 (single.nearest (fT v) (mQ v) (sW v))=true:=c2;rw [←e]at c1 c2;obtain⟨d1,d2⟩:=aJx (s:=fT v) hd;rcases hc with ⟨_,rfl⟩|⟨c,_⟩
   ·rw [c1,d1,hv];exact⟨(near64 _ _ _).1,⟨fun _=>hE,fun _=>d2⟩,rfl⟩
   ·rw [c2]at c;cases c
 ·have hv:lP v=0:=by unfold lP;rw [oh hE]
  rw [hv];have hE2:cO v=255:=by have:=rE v;omega
  have bad:∀n,n<2^64→¬ cX n<2047→n<2^64∧(cX n<2047↔cO v<255)∧pU n=0:=fun n h1 h2=>⟨h1,⟨fun g=>absurd g h2,fun g=>absurd g hE⟩,by unfold pU;rw [oh h2]⟩;rw [oh hE]at hr
  by_cases hf:gG v=0
  ·have e:=iK h;rw [iH,hE2,hf]at e;have key:∀s,Sy.f2fOk .f32 .f64 (single.word s (255*2^23+0))=true∧Sy.f2f .f32 .f64 (single.word s (255*2^23+0))<2^64∧¬ cX (Sy.f2f .f32 .f64 (single.word s (255*2^23+0)))<2047:=by decide +kernel
   obtain⟨k1,k2,k3⟩:=key (fT v);rw [←e]at k1 k2 k3;rcases hc with ⟨_,rfl⟩|⟨c,_⟩
   ·exact bad _ k2 k3
   ·rw [k1]at c;cases c
  ·rw [oh hf]at hr;have hd:FloatKind.decode .f32 v=.nan (fT v) (gG v):=hr;rcases hc with ⟨c,_⟩|⟨_,t,c⟩
   ·unfold Sy.f2fOk at c;rw [hd]at c;cases c
   ·rw [hd,og (by rfl)]at c;subst c;have e:Question.cut (.nanConv .f64 v) t=(t % 2)*9223372036854775808+9218868437227405312+1+(t/2) % 4503599627370495:=rfl;rw [e];have ha:t % 2<2:=qp _ oz;have hb:t/2 % 4503599627370495<4503599627370495:=qp _ oz;generalize t % 2=a at *
    generalize t/2 % 4503599627370495=b at *
    refine bad _ ?_ ?_
    ·rw [show (2:Nat)^64=18446744073709551616 from rfl];omega
    ·unfold cX;have e3:(a*9223372036854775808+9218868437227405312+1+b) / 2^52=a*2048+2047:=by
      rw [show (2:Nat)^52=4503599627370496 from rfl];omega
     rw [e3];omega
section
variable {k:World}{R:World→Value→Prop}{w v:Nat}
theorem aCi (h:v<2^32) (C:∀k' ds,Up k k'→RatV k' ds (lP v) 1200→R k' (.tuple #[.agg ds,.int .i64 (if cO v<255 then 0 else 1)])) :
 Cl k 61 #[.float .f32 v] R:=by
 intro k0 u0;refine wQ fun n hc=>?_;obtain⟨h1,h2,h3⟩:=vG h hc;refine aMt h1 fun k1 ds u1 hd=>?_;rw [h3]at hd;have hd':=hd;obtain⟨g,A,n,c,D,d,e,rfl,_⟩:=hd';refine⟨_,_,_,_,_,_,_,_,rfl,fun k2 u2=>?_⟩;have:=C k2 _ (u0.trans (u1.trans u2)) (hd.up u2)
 by_cases g:cO v<255
 ·rw [og g]at this;rw [og (h2.2 g)];exact this
 ·rw [oh g]at this;rw [oh fun c=>g (h2.1 c)];exact this
end
structure Wrd (w:Nat) (q:Rat):Prop where
 lt:w<2^32
 fin:cO w<255
 num:lP w=q
 rd:∃s m p,single.read w=.number s m p∧eG s m p=q
theorem zW {w m:Nat}{s:Bool}{p:Int}(h:w<2^32) (hr:single.read w=.number s m p):Wrd w (eG s m p):=by
 have e:=iW h;rw [hr]at e
 by_cases g:cO w<255
 ·rw [og g]at e;injection e with e1 e2 e3;refine⟨h,g,?_,_,_,_,hr,rfl⟩;unfold lP;rw [og g,e1,e2,e3]
 ·rw [oh g]at e;split at e <;> cases e
theorem aDs (s:Bool) (m:Nat) (p:Int):single.nearest s m p<2^32:=by
 obtain⟨r,h,e⟩:=iS single s m p;rw [e];unfold Format.word;have es:single.signWeight=2^31:=rfl;have h2:r<2^31:=h;rw [es];split <;> omega
theorem nN (s:Bool) (p:Int):Wrd (single.nearest s 0 p) 0:=by
 have e:single.nearest s 0 p=single.word s 0:=by unfold Format.nearest;rw [og rfl]
 have hr:single.read (single.word s 0)=.number s 0 (-149):=by cases s <;> decide +kernel
 have h:=zW (aDs s 0 p) (e▸hr);have z:eG s 0 (-149)=0:=by cases s <;> decide +kernel
 rwa [z]at h
theorem nM {s:Bool}{m:Nat}{p:Int}(h:m<2^24) (h1:-149≤p) (h2:p≤100):Wrd (single.nearest s m p) (eG s m p):=by
 by_cases hm:m=0
 ·subst hm;have z:eG s 0 p=0:=by
   unfold eG;rw [vu,show sgn s 0=0 from by unfold sgn;cases s <;> rfl,ka]
  rw [z];exact nN s p
 ·have hl:m.log2<24:=(zz hm).2 h;have hh:Has single m p:=⟨hm,h,h1,by show p+m.log2-23-(-149)+3≤256;omega⟩;have:=zW (aDs s m p) (hh.read jO)
  rwa [qD hh.last_le]at this
theorem aIv {x y:Int}{b:Int}:mkRat (x*2^b.toNat) (2^(-b).toNat)+mkRat (y*2^b.toNat) (2^(-b).toNat)=mkRat ((x+y)*2^b.toNat) (2^(-b).toNat):=by
 have h:2^(-b).toNat≠0:=by have:=qy (-b).toNat;omega
 rw [Rat.mkRat_add_mkRat _ _ h h,←Int.add_mul,←Int.add_mul,Rat.mkRat_mul_right h]
theorem uM (s:Bool) (m c:Nat):sgn s (m*c)=sgn s m*c:=by
 unfold sgn;cases s <;> simp [Int.natCast_mul,Int.neg_mul]
theorem sI (s:Bool) (m c:Nat):signed s m c=sgn s (m*2^c):=by
 unfold signed sgn;cases s <;> simp [Nat.shiftLeft_eq]
theorem aRc {a b:Nat}{x y:Rat}{z:Int}(ha:Wrd a x) (hb:Wrd b y) (e:x+y=mkRat z 4) (hz:z.natAbs<2^24):∃r,single.add a b=some r∧Wrd r (mkRat z 4):=by
 obtain⟨s,m,i,ra,ea⟩:=ha.rd;obtain⟨t,n,j,rb,eb⟩:=hb.rd;unfold Format.add;rw [ra,rb];refine⟨_,rfl,?_⟩;show Wrd (single.nearest _ (signed s m (i-min i j).toNat+signed t n (j-min i j).toNat).natAbs (min i j)) _;rw [sI,sI];generalize hB:min i j=B;have hi:B≤i:=oq
 have hj:B≤j:=oq
 rw [←ea,←eb,←qD hi,←qD hj]at e;unfold eG at e;rw [uM s,uM t,Int.natCast_pow,show ((2:Nat):Int)=2 from rfl,aIv]at e;generalize sgn s (m*2^(i-B).toNat)+sgn t (n*2^(j-B).toNat)=T at *
 have hD:2^(-B).toNat≠0:=by have:=qy (-B).toNat;omega
 have key:T*2^B.toNat*4=z*2^(-B).toNat:=by
  have:=(Rat.mkRat_eq_iff hD oz).1 e;simpa using this
 have kabs:T.natAbs*2^B.toNat*4=z.natAbs*2^(-B).toNat:=by
  have:=congrArg Int.natAbs key;simpa [Int.natAbs_mul,Int.natAbs_pow] using this
 by_cases hT:T=0
 ·subst hT;have hz0:z=0:=by
   have:z.natAbs*2^(-B).toNat=0:=by rw [←kabs];simp
   rcases Nat.mul_eq_zero.1 this with h|h
   ·omega
   ·exact absurd h hD
  subst hz0;rw [ka];exact nN _ _
 ·rw [oh hT];have hz0:z.natAbs≠0:=by
   intro h;rw [h,vu]at kabs;have:=qy B.toNat;rcases Nat.mul_eq_zero.1 kabs with h|h
   ·rcases Nat.mul_eq_zero.1 h with h|h
    ·omega
    ·omega
   ·omega
  have hT0:T.natAbs≠0:=oq
  have en:single.nearest (decide (T<0)) T.natAbs B=single.nearest (decide (T<0)) z.natAbs (-2):=by
   rcases Int.lt_or_le B (-2) with g|g
   ·have e1:T.natAbs=z.natAbs*2^(-B-2).toNat:=by
     have:(-B).toNat=(-B-2).toNat+2:=oq
     rw [this,show B.toNat=0 by omega,qa]at kabs;generalize 2^(-B-2).toNat=c at *
     rw [wh,zr,←qt]at kabs;omega
    rw [e1,←dL (p:=-2) (k:=(-B-2).toNat) hz0]
    congr 1
    omega
   ·have e1:z.natAbs=T.natAbs*2^(B+2).toNat:=by
     rcases Int.lt_or_le B 0 with g'|g'
     ·have h:B=-2∨B=-1:=oq
      rcases h with rfl|rfl
      ·have:T.natAbs*1*4=z.natAbs*4:=kabs;show _=T.natAbs*1;omega
      ·have:T.natAbs*1*4=z.natAbs*2:=kabs;show _=T.natAbs*2;omega
     ·rw [show (-B).toNat=0 by omega]at kabs;rw [show (B+2).toNat=B.toNat+2 by omega,qa,←qt];omega
    rw [e1,←dL (p:=B) (k:=(B+2).toNat) hT0]
    congr 1
    omega
  rw [en];have hs:decide (T<0)=decide (z<0):=by
   have p1:(0:Int)<2^B.toNat*4:=Int.mul_pos (Int.pow_pos oz) oz;have p2:(0:Int)<2^(-B).toNat:=Int.pow_pos oz;rw [Int.mul_assoc]at key;apply decide_eq_decide.2;constructor
   ·intro h;have:=Int.mul_neg_of_neg_of_pos h p1;rw [key]at this;exact Int.lt_of_not_ge fun c=>absurd (Int.mul_nonneg c (Int.le_of_lt p2)) oq
   ·intro h;have:=Int.mul_neg_of_neg_of_pos h p2;rw [←key]at this;exact Int.lt_of_not_ge fun c=>absurd (Int.mul_nonneg c (Int.le_of_lt p1)) oq
  rw [hs];have hq:eG (decide (z<0)) z.natAbs (-2)=mkRat z 4:=by
   unfold eG;have:sgn (decide (z<0)) (z.natAbs*2^(-2:Int).toNat)=z:=by
    show sgn _ (z.natAbs*1)=z;unfold sgn;split <;> rename_i c <;> simp at c <;> omega
   rw [this];rfl
  rw [←hq];exact nM hz oz oz
theorem aRd {z:Int}(h:z.natAbs<2^24):Wrd (FloatKind.nearest .f32 z) (mkRat (4*z) 4):=by
 have e:FloatKind.nearest .f32 z=single.nearest (decide (z<0)) z.natAbs 0:=rfl;rw [e];have hq:eG (decide (z<0)) z.natAbs 0=mkRat (4*z) 4:=by
  unfold eG;have:sgn (decide (z<0)) (z.natAbs*2^(0:Int).toNat)=z:=by
   show sgn _ (z.natAbs*1)=z;unfold sgn;split <;> rename_i c <;> simp at c <;> omega
  rw [this];show mkRat z 1=_;rw [show (4:Nat)=4*1 from rfl,show (4:Int)*z=((4:Nat):Int)*z from rfl,Rat.mkRat_mul_left oz]
 rw [←hq];exact nM h oz oz
theorem aRe {z:Int}(h:z.natAbs<2^24):Wrd (Op.negFloat .f32 (FloatKind.nearest .f32 z)) (mkRat (4*(-z)) 4):=by
 have e:Op.negFloat .f32 (FloatKind.nearest .f32 z)=single.nearest (!decide (z<0)) z.natAbs 0:=yF (f:=single);rw [e];have hq:eG (!decide (z<0)) z.natAbs 0=mkRat (4*(-z)) 4:=by
  unfold eG;have:sgn (!decide (z<0)) (z.natAbs*2^(0:Int).toNat)=-z:=by
   show sgn _ (z.natAbs*1)=-z;unfold sgn;split <;> rename_i c <;> simp at c <;> omega
  rw [this];show mkRat (-z) 1=_;rw [show (4:Nat)=4*1 from rfl,show (4:Int)*-z=((4:Nat):Int)*-z from rfl,Rat.mkRat_mul_left oz]
 rw [←hq];exact nM h oz oz
theorem aRf {z:Int}(h:z.natAbs<2^24):∃r,Sy.fltR .f32 .quo (FloatKind.nearest .f32 z) 1082130432=some r∧Wrd r (mkRat z 4):=by
 have e:FloatKind.nearest .f32 z=single.nearest (decide (z<0)) z.natAbs 0:=rfl;have e4:(1082130432:Nat)=single.nearest false 1 2:=by decide +kernel
 have hq:eG (decide (z<0)) z.natAbs (-2)=mkRat z 4:=by
  unfold eG;have:sgn (decide (z<0)) (z.natAbs*2^(-2:Int).toNat)=z:=by
   show sgn _ (z.natAbs*1)=z;unfold sgn;split <;> rename_i c <;> simp at c <;> omega
  rw [this];rfl
 by_cases hz:z=0
 ·subst hz;exact⟨0,by decide +kernel,by have:=nN false 0;rw [ka];exact this⟩
 ·have hl:z.natAbs.log2<24:=(zz oq).2 h;have h1:Has single z.natAbs 0:=⟨oq,h,oz,by show (0:Int)+z.natAbs.log2-23-(-149)+3≤256;omega⟩;have h2:Has single 1 2:=⟨oz,oz,oz,by decide +kernel⟩;have:=aFa (s:=decide (z<0)) jO h1 h2 oz;rw [←e4,←e]at this;refine⟨_,this,?_⟩;rw [←hq];exact nM h oz oz
