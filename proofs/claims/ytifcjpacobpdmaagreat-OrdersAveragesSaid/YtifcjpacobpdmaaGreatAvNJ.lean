/- Several texts in one. (Printed by prep.py.) -/
import Ieee.Arith
import Derived.Test.YtifcjpacobpdmaaGreatAvVFU
import Derived.Test.YtifcjpacobpdmaaGreatAvFB
namespace Go.Proofs.YtifcjpacobpdmaaGreat
open Ieee
namespace FT
theorem eH {m k:Nat}(hm:m≠0):(m*2^k).log2=m.log2+k:=by
 have h1:2^m.log2≤m:=Nat.log2_self_le hm;have h2:m<2^(m.log2+1):=Nat.lt_log2_self;have hne:m*2^k≠0:=ze hm (by have:=qd k;omega);apply Nat.le_antisymm
 ·have:m*2^k<2^(m.log2+k+1):=by
   rw [show m.log2+k+1=(m.log2+1)+k by omega,qs];exact jc h2 (qd k)
  have:=(zl hne).2 this;omega
 ·have:2^(m.log2+k)≤m*2^k:=by
   rw [qs];exact ol _ h1
  exact (Nat.le_log2 hne).2 this
def half (n G:Nat):Nat:=n/G+(decide (G<2*(n % G)) || (G == 2*(n % G) && n/G % 2 == 1)).toNat
theorem oU (neg:Bool) (n drop:Nat):Toward.even.cut neg n drop=half n (2^min drop (n.log2+2)):=by
 rw [←Nat.one_shiftLeft];rfl
theorem yT {a G:Nat}(hG:0<G):half (a*G) G=a:=by
 unfold half;rw [Nat.mul_div_cancel _ hG,Nat.mul_mod_left];have h0:(G == 2*0)=false:=by
  rw [beq_eq_false_iff_ne];omega
 simp [h0]
theorem aBq {a G k:Nat}(hk:0<k):half (a*k) (G*k)=half a G:=by
 unfold half;rw [ym _ _ hk,yf];generalize a % G=r;generalize a/G=q;have e1:decide (G*k<2*(r*k))=decide (G<2*r):=by
  apply decide_eq_decide.2;rw [←jv];exact Nat.mul_lt_mul_right hk
 have e2:(G*k == 2*(r*k))=(G == 2*r):=by
  rw [←jv]
  by_cases c:G=2*r
  ·rw [c];simp
  ·have:G*k≠2*r*k:=fun h=>c (Nat.eq_of_mul_eq_mul_right hk h);rw [beq_eq_false_iff_ne.2 this,beq_eq_false_iff_ne.2 c]
 rw [e1,e2]
theorem fM (neg:Bool) (n:Nat):Toward.even.cut neg n 0=n:=by
 rw [oU,Nat.zero_min];have:=yT (a:=n) (G:=1) oz
 rwa [zz]at this
theorem aGi (neg:Bool) {m k drop:Nat}(hm:m≠0) (h:drop≤k):Toward.even.cut neg (m*2^k) drop=m*2^(k-drop):=by
 rw [oU,eH (k:=k) hm,ww oq];have e:m*2^k=m*2^(k-drop)*2^drop:=by
  rw [jv,←qs,show k-drop+drop=k by omega]
 rw [e];exact yT (qd drop)
theorem aGh (neg:Bool) {m k drop:Nat}(hm:m≠0):Toward.even.cut neg (m*2^k) (drop+k)=Toward.even.cut neg m drop:=by
 rw [oU,oU,eH (k:=k) hm,show min (drop+k) (m.log2+k+2)=min drop (m.log2+2)+k by omega,qs];exact aBq (qd k)
variable {f:Ieee.Format}
def last (f:Ieee.Format) (m:Nat) (p:Int):Int:=max (p+m.log2-f.fractionBits) f.leastPlace
theorem cX {neg:Bool}{m:Nat}{p:Int}(hm:m≠0):f.nearest neg m p =
 f.word neg (min ((last f m p-f.leastPlace).toNat*f.binade+Toward.even.cut neg (m <<< (p-last f m p).toNat) (last f m p-p).toNat) f.infRung):=by
 unfold Format.nearest last;rw [oh hm]
theorem lN {neg:Bool}{m k:Nat}{p:Int}(hm:m≠0):f.nearest neg (m*2^k) (p-k)=f.nearest neg m p:=by
 have hne:m*2^k≠0:=ze hm (by have:=qd k;omega);have hl:last f (m*2^k) (p-k)=last f m p:=by
  unfold last;rw [eH hm]
  congr 1
  omega
 rw [cX hne,cX hm,hl];generalize last f m p=q;have e:Toward.even.cut neg ((m*2^k) <<< (p-k-q).toNat) (q-(p-k)).toNat=Toward.even.cut neg (m <<< (p-q).toNat) (q-p).toNat:=by
  rw [vm,vm]
  by_cases c:p<q
  ·rw [show (p-k-q).toNat=0 by omega,show (p-q).toNat=0 by omega,show (q-(p-k)).toNat=(q-p).toNat+k by omega,xx,zz,zz];exact aGh neg hm
  ·rw [show (q-p).toNat=0 by omega,fM]
   by_cases d:p-k<q
   ·rw [show (p-k-q).toNat=0 by omega,xx,zz,aGi neg hm oq]
    congr 2
    omega
   ·rw [show (q-(p-k)).toNat=0 by omega,fM,jv,←qs]
    congr 2
    omega
 rw [e]
structure Good (f:Ieee.Format):Prop where
 frac:1≤f.fractionBits
 exp:2≤f.exponentBits
theorem bI:Good Ieee.double:=⟨oz,oz⟩
theorem yS:Good Ieee.single:=⟨oz,oz⟩
theorem aFj:f.signWeight=2^f.exponentBits*f.binade:=by
 unfold Format.signWeight Format.binade;rw [qs]
theorem lW:0<f.binade:=qd _
theorem aKq:f.infRung<f.signWeight:=by
 rw [aFj];unfold Format.infRung;have:=qd f.exponentBits;exact jc oq lW
theorem pF {neg:Bool}{r:Nat}(h:r<f.signWeight):f.read (f.word neg r) =
 if r<f.binade then .number neg r f.leastPlace
 else if r<f.infRung then .number neg (f.binade+r % f.binade) (f.leastPlace+(r/f.binade-1:Nat))
 else if r=f.infRung then .infinity neg
 else .nan neg (r-f.infRung):=by
 have e1:(f.word neg r/f.signWeight % 2 == 1)=neg:=by
  unfold Format.word;cases neg
  ·simp [Nat.div_eq_of_lt h]
  ·have:(f.signWeight+r) / f.signWeight=1:=by
    rw [ji,Nat.add_div_right _ oq,qt h]
   simp [this]
 have e2:f.word neg r % f.signWeight=r:=by
  unfold Format.word;cases neg
  ·simp [Nat.mod_eq_of_lt h]
  ·simp [Nat.mod_eq_of_lt h]
 unfold Format.read;simp only [e1,e2]
structure Has (f:Ieee.Format) (m:Nat) (p:Int):Prop where
 ne:m≠0
 bits:m<2^(f.fractionBits+1)
 low:f.leastPlace≤p
 top:p+m.log2-f.fractionBits-f.leastPlace+3≤2^f.exponentBits
theorem Has.last_le {m:Nat}{p:Int}(h:Has f m p):last f m p≤p:=by
 have hl:m.log2<f.fractionBits+1:=(zl h.ne).2 h.bits;have:=h.low;unfold last;omega
theorem Has.read {neg:Bool}{m:Nat}{p:Int}(g:Good f) (h:Has f m p):f.read (f.nearest neg m p)=.number neg (m*2^(p-last f m p).toNat) (last f m p):=by
 have hl:m.log2<f.fractionBits+1:=(zl h.ne).2 h.bits;have hle:=h.last_le;have hlow:f.leastPlace≤last f m p:=Int.le_max_right _ _;have htop:=h.top;rw [cX h.ne,show (last f m p-p).toNat=0 by omega,fM,vm];have hlog:(m*2^(p-last f m p).toNat).log2=m.log2+(p-last f m p).toNat:=eH h.ne;have hne:m*2^(p-last f m p).toNat≠0:=ze h.ne (by have:=qd (p-last f m p).toNat;omega);have hcase:(last f m p=f.leastPlace∧p+m.log2-f.fractionBits≤f.leastPlace)∨last f m p=p+m.log2-f.fractionBits:=by
  unfold last;omega
 generalize last f m p=q at *
 generalize m*2^(p-q).toNat=kept at *
 have hk2:kept<2*f.binade:=by
  have:kept<2^(f.fractionBits+1):=(zl hne).1 oq;unfold Format.binade;rw [qo]at this;omega
 have hb:=lW (f:=f);have hE:(4:Nat)≤2^f.exponentBits:=by
  have:=qh (n:=2) oz g.exp;simpa using this
 have hinf:f.infRung=(2^f.exponentBits-1)*f.binade:=rfl;have hd:∃d:Nat,q-f.leastPlace=(d:Int)∧d+3≤2^f.exponentBits:=by
  refine⟨(q-f.leastPlace).toNat,oq,?_⟩;have h4:(4:Int)≤((2^f.exponentBits:Nat):Int):=by exact_mod_cast hE
  have h5:((2^f.exponentBits:Nat):Int)=(2:Int)^f.exponentBits:=by norm_cast
  rcases hcase with ⟨c,_⟩|c <;> omega
 obtain⟨d,hd,hd3⟩:=hd;have hlt:d*f.binade+kept<f.infRung:=by
  rw [hinf];have:(d+2)*f.binade≤(2^f.exponentBits-1)*f.binade:=ol _ oq;have e:(d+2)*f.binade=d*f.binade+2*f.binade:=by rw [jn]
  omega
 rw [hd,oo,ww oq,pF (vj hlt aKq)];rcases hcase with ⟨c,_⟩|c
 ·obtain rfl:d=0:=oq
  rw [zb,qr]at hlt ⊢
  by_cases a:kept<f.binade
  ·rw [om a,c]
  ·rw [oh a,om hlt,c];have e1:kept/f.binade=1:=by
    rw [Nat.div_eq_iff hb];omega
   have e2:f.binade+kept % f.binade=kept:=by
    have:=ju kept f.binade;rw [e1]at this;omega
   rw [e1,e2];simp
 ·have hk1:f.binade≤kept:=by
   have:2^f.fractionBits≤kept:=(Nat.le_log2 hne).1 oq;exact this
  have hge:f.binade≤d*f.binade+kept:=oq
  have e0:kept/f.binade=1:=by
   rw [Nat.div_eq_iff hb];omega
  have e1:(d*f.binade+kept) / f.binade=d+1:=by
   rw [ji,qz,jd _ _ hb,e0];omega
  have e2:f.binade+(d*f.binade+kept) % f.binade=kept:=by
   rw [ji (d*f.binade),qz d,zw];have:=ju kept f.binade;rw [e0]at this;omega
  rw [oh oq,om hlt,e1,e2]
  congr 1
  omega
theorem pB {s t:Bool}{m n:Nat}{p q:Int}(g:Good f) (h:Has f m p) (h':Has f n q):f.mul (f.nearest s m p) (f.nearest t n q)=some (f.nearest (s ^^ t) (m*n) (p+q)):=by
 unfold Format.mul;rw [h.read g,h'.read g];show some (f.nearest (s ^^ t) _ _)=_;have a:=h.last_le;have b:=h'.last_le;generalize last f m p=i at *
 generalize last f n q=j at *
 have e:m*2^(p-i).toNat*(n*2^(q-j).toNat)=m*n*2^((p-i).toNat+(q-j).toNat):=by
  rw [qs]
  ac_rfl
 rw [e,show i+j=(p+q)-(((p-i).toNat+(q-j).toNat:Nat):Int) by omega,lN (ze h.ne h'.ne)]
theorem wD (f:Ieee.Format) (neg:Bool) (m:Nat) (p:Int):∃r,r<f.signWeight∧∀s,f.nearest s m p=f.word s r:=by
 by_cases hm:m=0
 ·exact⟨0,by rw [aFj];exact zn (qd _) lW,fun s=>by unfold Format.nearest;rw [om hm]⟩
 ·refine⟨min ((last f m p-f.leastPlace).toNat*f.binade+Toward.even.cut neg (m <<< (p-last f m p).toNat) (last f m p-p).toNat) f.infRung,jy (Nat.min_le_right _ _) aKq,fun s=>?_⟩;rw [cX hm,oU,oU]
end FT
namespace FT
theorem oP (w:Nat) (h:w<2^64):(BitVec.ofInt 64 (w:Int)).toNat=w:=by
 rw [BitVec.toNat_ofInt];have:(w:Int) % ((2^64:Nat):Int)=(w:Int):=Int.emod_eq_of_lt oq (by exact_mod_cast h);rw [this,oo]
theorem struck {w:Nat}(h:w<2^64):(BitVec.ofInt 64 (w:Int) &&& ~~~(BitVec.ofInt 64 9218868437227405312)).toNat=w/2^63*2^63+w % 2^52:=by
 have hm:∀i:Fin 64,(BitVec.ofInt 64 9218868437227405312).getLsbD i.val=(decide (52≤i.val) && decide (i.val<63)):=oz
 apply Nat.eq_of_testBit_eq;intro i;rw [←BitVec.getLsbD,BitVec.getLsbD_and,BitVec.getLsbD_not];have hw:(BitVec.ofInt 64 (w:Int)).getLsbD i=w.testBit i:=by rw [BitVec.getLsbD,oP w h]
 have hlt:w % 2^52<2^63:=oa (qp _ oz) oz;rw [hw,qz,Nat.testBit_two_pow_mul_add _ hlt,Nat.testBit_mod_two_pow,Nat.testBit_div_two_pow]
 by_cases c:i<64
 ·rw [hm ⟨i,c⟩]
  by_cases c1:i<52
  ·have c2:i<63:=oq
   have c3:¬ 52≤i:=oq
   simp [c,c1,c2,c3]
  ·by_cases c2:i<63
   ·have c3:52≤i:=oq
    simp [c,c1,c2,c3]
   ·have e:i=63:=oq
    subst e;simp
 ·have hz:w.testBit i=false:=Nat.testBit_lt_two_pow (oa h (qh oz oq));have c2:¬ i<63:=oq
  rw [hz,Bool.false_and,oh c2]
  first
   | (rw [show 63+(i-63)=i by omega,hz])
   | (rw [show i-63+63=i by omega,hz])
theorem put {a E c:Nat}(ha:a≤1) (hE:E<2^11) (hc:c<2^52):(BitVec.ofInt 64 ((a*2^63+c:Nat):Int) ||| BitVec.ofInt 64 ((E*2^52:Nat):Int)).toNat=a*2^63+(E*2^52+c):=by
 have h0:c<2^63:=oa hc (qh oz oz);have h1:a*2^63+c<2^64:=by
  have:=Nat.add_lt_add_of_le_of_lt (ol (2^63) ha) h0
  rwa [zr,show (2:Nat)^63+2^63=2^64 from rfl]at this
 have h3:E*2^52+c<2^63:=by
  have g1:E*2^52+c<(E+1)*2^52:=by
   rw [jn,zr];exact Nat.add_lt_add_left hc _
  have g2:(E+1)*2^52≤2^11*2^52:=ol _ hE;rw [←qs]at g2;exact oa g1 g2
 have h2:E*2^52<2^64:=jy (Nat.le_add_right _ c) (vj h3 (xg oz oz));rw [BitVec.toNat_or,oP _ h1,oP _ h2];have e1:a*2^63+c=2^63*a ||| c:=by
  rw [qz];exact vr (oa hc oz) a
 have e2:E*2^52+c=2^52*E ||| c:=by
  rw [qz];exact vr hc E
 have e3:a*2^63+(E*2^52+c)=2^63*a ||| (E*2^52+c):=by
  rw [qz a];exact vr h3 a
 rw [e1,e3,e2,qz E,Nat.or_assoc,Nat.or_comm c]
theorem field {w:Nat}(h:w<2^64):(BitVec.ofInt 64 ((w/2^52:Nat):Int) &&& BitVec.ofInt 64 2047).toNat=w/2^52 % 2048:=by
 rw [BitVec.toNat_and,oP _ (jy (vf _ _) h),show (BitVec.ofInt 64 2047).toNat=2^11-1 from by decide,yx]
theorem qB {s:Bool}{m:Nat}{p:Int}(h:Has double m p) (hn:-1022≤p+m.log2) :
 double.nearest s m p=(if s then 1 else 0)*2^63+((p+m.log2+1023).toNat*2^52+(m*2^(52-m.log2)-2^52))∧2^52≤m*2^(52-m.log2)∧m*2^(52-m.log2)<2^53:=by
 have hl:m.log2<53:=(zl h.ne).2 h.bits;have htop:p+m.log2-52+1074+3≤2048:=h.top;have hlow:(-1074:Int)≤p:=h.low;have elast:last double m p=p+m.log2-52:=by
  unfold last;show max (p+m.log2-((52:Nat):Int)) (-1074)=_;omega
 have hlog:(m*2^(52-m.log2)).log2=52:=by
  rw [eH h.ne];omega
 have hne:m*2^(52-m.log2)≠0:=ze h.ne (by have:=qd (52-m.log2);omega);have h1:2^52≤m*2^(52-m.log2):=(Nat.le_log2 hne).1 oq;have h2:m*2^(52-m.log2)<2^53:=(zl hne).1 oq;refine⟨?_,h1,h2⟩;rw [cX h.ne,elast,show (p+m.log2-52-p).toNat=0 by omega,fM,vm,show (p-(p+m.log2-52)).toNat=52-m.log2 by omega];generalize m*2^(52-m.log2)=kept at *
 have eb:double.binade=2^52:=rfl;have ei:double.infRung=2047*2^52:=rfl;have el:double.leastPlace=-1074:=rfl;have es:double.signWeight=2^63:=rfl;rw [eb,ei,el];have e:(p+m.log2-52 - -1074).toNat+1=(p+m.log2+1023).toNat:=oq
 generalize (p+m.log2-52 - -1074).toNat=d at e;rw [←e];have hd:d+1≤2046:=oq
 have hr:d*2^52+kept<2047*2^52:=oq
 rw [ww oq];unfold Format.word;rw [es];cases s
 ·show d*2^52+kept=0*2^63+((d+1)*2^52+(kept-2^52));omega
 ·show 2^63+(d*2^52+kept)=1*2^63+((d+1)*2^52+(kept-2^52));omega
end FT
open IntKind (wrap)
open Go.RowKit Ieee
open Sy (Up CallsG)
namespace FT
theorem nosign {w:Nat}(h:w<2^64):(BitVec.ofInt 64 (w:Int) &&& ~~~(BitVec.ofInt 64 9223372036854775808)).toNat=w % 2^63:=by
 have hm:∀i:Fin 64,(BitVec.ofInt 64 9223372036854775808).getLsbD i.val=decide (i.val=63):=oz
 apply Nat.eq_of_testBit_eq;intro i;rw [←BitVec.getLsbD,BitVec.getLsbD_and,BitVec.getLsbD_not];have hw:(BitVec.ofInt 64 (w:Int)).getLsbD i=w.testBit i:=by rw [BitVec.getLsbD,oP w h]
 rw [hw,Nat.testBit_mod_two_pow]
 by_cases c:i<64
 ·rw [hm ⟨i,c⟩]
  by_cases c2:i<63
  ·have c3:i≠63:=oq
   simp [c,c2,c3]
  ·have e:i=63:=oq
   subst e;simp
 ·have hz:w.testBit i=false:=Nat.testBit_lt_two_pow (oa h (qh oz oq));rw [hz,Bool.false_and,Bool.and_false]
theorem word64 {s:Bool}{r:Nat}(h:r<2^63):double.word s r<2^64∧double.word s r % 2^63=r∧double.word s r/2^63=if s then 1 else 0:=by
 have es:double.signWeight=2^63:=rfl;have hp:(2:Nat)^63+2^63=2^64:=rfl;unfold Format.word;rw [es];cases s
 ·exact⟨oa h (qh oz oz),oi h,qt h⟩
 ·refine⟨by rw [←hp];exact Nat.add_lt_add_left h _,?_,?_⟩
  ·show (2^63+r) % 2^63=r;rw [Nat.add_mod_left,oi h]
  ·show (2^63+r) / 2^63=1;rw [ji,Nat.add_div_right _ (qd 63),qt h]
theorem near64 (s:Bool) (m:Nat) (p:Int):double.nearest s m p<2^64∧double.nearest s m p % 2^63=double.nearest false m p:=by
 obtain⟨r,h,e⟩:=wD double s m p;have:=word64 (s:=s) (r:=r) h;rw [e,e];exact⟨this.1,this.2.1⟩
theorem wrap64 {n:Nat}(h:n<2^64):wrap .u64 (n:Int)=(n:Int):=by
 unfold wrap;have e:(IntKind.bits .u64)=64:=rfl;have e2:(IntKind.signed .u64)=false:=rfl;rw [e];have:(n:Int) % 18446744073709551616=(n:Int):=Int.emod_eq_of_lt oq (by have h:n<18446744073709551616:=h;omega);simp [e2,this]
theorem gJ {x y:Nat}{s t:Bool}{M N:Nat}{i j:Int}(hx:double.read x=.number s M i) (hy:double.read y=.number t N j) :
 double.order x y=some (compare (signed s M (i-min i j).toNat) (signed t N (j-min i j).toNat)):=by
 unfold Format.order;rw [hx,hy];rfl
end FT
open FT
section
variable {k:World}{R:World→Value→Prop}{s:Bool}{m:Nat}{p:Int}
theorem mA (C:∀k',Up k k'→R k' (.float .f64 (double.nearest false m p))):Cl k 215 #[.float .f64 (double.nearest s m p)] R:=by
 intro k0 u0;obtain⟨h1,h2⟩:=near64 s m p;refine aEg fun k1 u1=>?_;have:=C k1 (u0.trans u1);rw [show IntKind.bits .u64=64 from rfl,nosign h1,h2,wrap64 (near64 false m p).1,oo];exact this
theorem sD (h:Has double m p) (C:∀k',Up k k'→R k' (.bool false)):Cl k 128 #[.float .f64 (double.nearest s m p)] R:=by
 intro k0 u0;refine iI fun k1 u1=>?_;have:=C k1 (u0.trans u1);have hr:=h.read (neg:=s) bI;rw [show FloatKind.format .f64=double from rfl,gJ hr hr];have e:∀z:Int,(some (compare z z) != some Ordering.eq)=false:=fun z=>by rw [show compare z z=Ordering.eq from by simp [compare,compareOfLessAndEq]];rfl
 rwa [e]
theorem nH (h:Has double m p) (C:∀k',Up k k'→R k' (.bool false)):Cl k 127 #[.float .f64 (double.nearest s m p),.int .i64 0] R:=by
 intro k0 u0;refine gD ⟨fun _=>mA fun k1 u1=>⟨_,rfl,fun k2 u2=>?_⟩,fun f=>by cases f⟩;have:=C k2 (u0.trans (u1.trans u2));have hr:=h.read (neg:=false) bI;have hl:m.log2<53:=(zl h.ne).2 h.bits;have hle:=h.last_le;have hlog:(m*2^(p-last double m p).toNat).log2=m.log2+(p-last double m p).toNat:=eH h.ne;have hne:m*2^(p-last double m p).toNat≠0:=ze h.ne (by have:=qd (p-last double m p).toNat;omega);have h971:last double m p≤971:=by
  have htop:p+m.log2-52+1074+3≤2048:=h.top;unfold last;show max (p+m.log2-((52:Nat):Int)) (-1074)≤971;omega
 have hge:p+m.log2-52≤last double m p:=Int.le_max_left _ _;generalize last double m p=i at *
 have hM:m*2^(p-i).toNat<2^53:=(zl hne).1 oq;generalize m*2^(p-i).toNat=M at *
 have hx:double.read 9218868437227405311=.number false (2^53-1) 971:=by decide +kernel
 rw [show FloatKind.format .f64=double from rfl,gJ hr hx];rw [show min i 971=i by omega,show (i-i).toNat=0 by omega];have hc:¬ ((M:Int) > (((2^53-1) <<< (971-i).toNat:Nat):Int)):=by
  rw [vm];have:=zu (2^53-1) (qd (971-i).toNat);omega
 have e:(some (compare (signed false M 0) (signed false (2^53-1) (971-i).toNat)) == some Ordering.gt)=false:=by
  unfold signed;simp only [zj,if_false,vo];generalize (((2^53-1) <<< (971-i).toNat:Nat):Int)=z at hc;simp only [compare,compareOfLessAndEq]
  by_cases a:(M:Int)<z
  ·rw [om a];rfl
  ·rw [oh a,om oq];rfl
 rwa [e]
theorem aEk (h:Has double m p) (hn:-1022≤p+m.log2) (C:∀k',Up k k'→R k' (.tuple #[.float .f64 (double.nearest s m p),.int .i64 0])):Cl k 328 #[.float .f64 (double.nearest s m p)] R:=by
 intro k0 u0;refine yM (mA fun k1 u1=>⟨_,rfl,fun f=>?_,fun _ k3 u3=>C k3 (u0.trans (u1.trans u3))⟩);exfalso;have hr:=h.read (neg:=false) bI;have hl:m.log2<53:=(zl h.ne).2 h.bits;have hle:=h.last_le;have hlow:(-1074:Int)≤last double m p:=Int.le_max_right _ _;have elast:last double m p=p+m.log2-52:=by
  unfold last;show max (p+m.log2-((52:Nat):Int)) (-1074)=_;omega
 have hlog:(m*2^(p-last double m p).toNat).log2=m.log2+(p-last double m p).toNat:=eH h.ne;have hne:m*2^(p-last double m p).toNat≠0:=ze h.ne (by have:=qd (p-last double m p).toNat;omega);generalize last double m p=i at *
 have hM:2^52≤m*2^(p-i).toNat:=(Nat.le_log2 hne).1 oq;generalize m*2^(p-i).toNat=M at *
 have hx:double.read 4503599627370496=.number false (2^52) (-1074):=by decide +kernel
 rw [show FloatKind.format .f64=double from rfl,gJ hr hx]at f;rw [show min i (-1074)=-1074 by omega,show ((-1074:Int) - -1074).toNat=0 by omega]at f;have hc:¬ ((M <<< (i - -1074).toNat:Nat):Int)<((2^52:Nat):Int):=by
  rw [vm];have:=zu M (qd (i - -1074).toNat);omega
 unfold signed at f;simp only [zj,if_false,vo]at f;generalize ((M <<< (i - -1074).toNat:Nat):Int)=z at hc f;generalize ((2^52:Nat):Int)=y at hc f;simp only [compare,compareOfLessAndEq]at f;rw [oh hc]at f;split at f <;> cases f
end
namespace FT
theorem pow52:(2:Int)^(min (Int.toNat 52) (IntKind.bits .u64))=4503599627370496:=oz
theorem aUq {w F:Nat}{e:Int}(hw:w<2^64) (hF:w/2^52 % 2048=F) (he:-100000≤e∧e≤100000) :
 wrap .i64 ((wrap .i64 (e+0))+(wrap .i64 ((wrap .i64 (BitVec.toNat (BitVec.ofInt (IntKind.bits .i64) (wrap .i64 (Int.fdiv ((w:Nat):Int) (2^(min (Int.toNat 52) (IntKind.bits .u64))))) &&& BitVec.ofInt (IntKind.bits .i64) 2047)))-1023)))=e+F-1023:=by
 have hd:w/2^52<4096:=by
  have:w/2^52<2^12:=Nat.div_lt_of_lt_mul (by rw [←qs];exact hw);exact this
 have e1:Int.fdiv ((w:Nat):Int) 4503599627370496=((w/2^52:Nat):Int):=by
  rw [zf _ oz];rfl
 have e2:wrap .i64 ((w/2^52:Nat):Int)=((w/2^52:Nat):Int):=by
  generalize w/2^52=z at hd;rw [jh];omega
 rw [pow52,e1,e2,show IntKind.bits .i64=64 from rfl,field hw,hF];have hF2:F<2048:=by rw [←hF];exact qp _ oz
 rw [jh,jh,jh,jh];omega
theorem aEb {w a c F:Nat}(hw:w<2^64) (ha:a≤1) (hc:c<2^52) (hF:F<2^11) (h1:w/2^63=a) (h2:w % 2^52=c) :
 Int.toNat (wrap .u64 (BitVec.toNat (BitVec.ofInt (IntKind.bits .u64) (wrap .u64 (BitVec.toNat (BitVec.ofInt (IntKind.bits .u64) ((w:Nat):Int) &&& ~~~(BitVec.ofInt (IntKind.bits .u64) 9218868437227405312)))) ||| BitVec.ofInt (IntKind.bits .u64) (wrap .u64 ((F:Int)*2^(min (Int.toNat 52) (IntKind.bits .u64)))))))=a*2^63+(F*2^52+c):=by
 have h0:c<2^63:=oa hc (qh oz oz);have h3:a*2^63+c<2^64:=by
  have:=Nat.add_lt_add_of_le_of_lt (ol (2^63) ha) h0
  rwa [zr,show (2:Nat)^63+2^63=2^64 from rfl]at this
 have h4:F*2^52+c<2^63:=by
  have g1:F*2^52+c<(F+1)*2^52:=by
   rw [jn,zr];exact Nat.add_lt_add_left hc _
  have g2:(F+1)*2^52≤2^11*2^52:=ol _ hF;rw [←qs]at g2;exact oa g1 g2
 have h5:F*2^52<2^64:=jy (Nat.le_add_right _ c) (vj h4 (xg oz oz));have h6:a*2^63+(F*2^52+c)<2^64:=by
  have:=Nat.add_lt_add_of_le_of_lt (ol (2^63) ha) h4
  rwa [zr,show (2:Nat)^63+2^63=2^64 from rfl]at this
 have e1:((F:Int)*2^(min (Int.toNat 52) (IntKind.bits .u64)))=((F*2^52:Nat):Int):=by
  rw [pow52];rfl
 rw [e1,wrap64 h5,show IntKind.bits .u64=64 from rfl,struck hw,h1,h2,wrap64 h3,put ha hF hc,wrap64 h6,oo]
theorem parts {s:Bool}{m:Nat}{p:Int}(h:Has double m p) (hn:-1022≤p+m.log2):∃c,c<2^52∧(∀q,Has double m q→-1022≤q+m.log2→double.nearest s m q=(if s then 1 else 0)*2^63+((q+m.log2+1023).toNat*2^52+c))∧
 double.nearest s m p/2^63=(if s then 1 else 0)∧double.nearest s m p % 2^52=c∧double.nearest s m p/2^52 % 2048=(p+m.log2+1023).toNat∧(p+m.log2+1023).toNat<2^11:=by
 have htop:p+m.log2-52+1074+3≤2048:=h.top;obtain⟨e,h1,h2⟩:=qB (s:=s) h hn;have hc:m*2^(52-m.log2)-2^52<2^52:=by
  rw [show (2:Nat)^53=2^52+2^52 from rfl]at h2;omega
 have hF:(p+m.log2+1023).toNat<2^11:=by
  rw [show (2:Nat)^11=2048 from rfl];omega
 refine⟨_,hc,fun q hq hqn=>(qB (s:=s) hq hqn).1,?_⟩;rw [e];generalize m*2^(52-m.log2)-2^52=c at hc;generalize (p+m.log2+1023).toNat=F at hF;have h4:F*2^52+c<2^63:=by
  have g1:F*2^52+c<(F+1)*2^52:=by
   rw [jn,zr];exact Nat.add_lt_add_left hc _
  have g2:(F+1)*2^52≤2^11*2^52:=ol _ hF;rw [←qs]at g2;exact oa g1 g2
 generalize ha:(if s then 1 else 0:Nat)=a;refine⟨?_,?_,?_,hF⟩
 ·rw [ji,yg _ _ (qd 63),qt h4,qr]
 ·rw [show (2:Nat)^63=2^11*2^52 from rfl,←jv,←xq,←jn,ji,xf,oi hc]
 ·rw [show (2:Nat)^63=2^11*2^52 from rfl,←jv,←xq,←jn,ji,yg _ _ (qd 52),qt hc,qr,show (2048:Nat)=2^11 from rfl,ji,xf,oi hF]
theorem aSb {z:Int}(h:-3000≤z∧z≤3000):wrap .i64 z=z:=by
 rw [jh];omega
theorem aFl {z:Int}(h:-1023≤z∧z≤3000):wrap .u64 (wrap .i64 (z+1023))=((z+1023).toNat:Int):=by
 have e:z+1023=((z+1023).toNat:Int):=oq
 have e1:wrap .i64 (z+1023)=z+1023:=by
  rw [jh];omega
 rw [e1,e,oo];exact wrap64 (by rw [show (2:Nat)^64=18446744073709551616 from rfl];omega)
theorem Has.one {p:Int}(h1:-1074≤p) (h2:p≤1023):Has double 1 p:=⟨oz,oz,h1,by show p+((1:Nat).log2:Nat)-52 - -1074+3≤2048;rw [show (1:Nat).log2=0 from rfl];omega⟩
end FT
open FT
section
variable {k:World}{R:World→Value→Prop}{s:Bool}{m:Nat}{p e:Int}
theorem aUu (h:Has double m p) (hn:-1022≤p+m.log2) (h':Has double m (p+e)) (he:-100000≤e∧e≤100000) (C:∀k',Up k k'→R k' (.float .f64 (double.nearest s m (p+e)))) :
 Cl k 300 #[.float .f64 (double.nearest s m p),.int .i64 e] R:=by
 intro k0 u0;have hr:=h.read (neg:=s) bI;have hne:m*2^(p-last double m p).toNat≠0:=ze h.ne (by have:=qd (p-last double m p).toNat;omega);have h0:double.read 0=.number false 0 (-1074):=by decide +kernel
 obtain⟨c,hc,hall,g1,g2,g3,g4⟩:=parts (s:=s) h hn;have hw:=(near64 s m p).1;have htop:(p+e)+m.log2-52+1074+3≤2048:=h'.top;have hlow:(-1074:Int)≤p+e:=h'.low;refine aEj ⟨fun f=>?_,fun _=>nH h fun k2 u2=>⟨_,rfl,(fun f=>by cases f),fun _=>sD h fun k5 u5=>⟨_,rfl,(fun f=>by cases f),fun _=>aEk h hn fun k8 u8=>⟨_,_,rfl,?_⟩⟩⟩⟩
 ·exfalso;rw [show FloatKind.format .f64=double from rfl,gJ hr h0]at f;generalize m*2^(p-last double m p).toNat=M at *
  generalize last double m p=i at *
  have hz:signed s M (i-min i (-1074)).toNat≠0:=by
   unfold signed;rw [vm];have:=ze hne (show 2^(i-min i (-1074)).toNat≠0 by have:=qd (i-min i (-1074)).toNat;omega);generalize M*2^(i-min i (-1074)).toNat=z at this;cases s <;> simp <;> omega
  have hz2:signed false 0 (-1074-min i (-1074)).toNat=0:=by unfold signed;simp
  rw [hz2]at f;generalize signed s M (i-min i (-1074)).toNat=z at hz f;simp only [compare,compareOfLessAndEq]at f;rw [oh hz]at f;split at f <;> cases f
 have hput:∀q,Has double m q→-1022≤q+m.log2→Int.toNat (wrap .u64 (BitVec.toNat (BitVec.ofInt (IntKind.bits .u64) (wrap .u64 (BitVec.toNat (BitVec.ofInt (IntKind.bits .u64) ((double.nearest s m p:Nat):Int) &&& ~~~(BitVec.ofInt (IntKind.bits .u64) 9218868437227405312)))) ||| BitVec.ofInt (IntKind.bits .u64) (wrap .u64 (((q+m.log2+1023).toNat:Int)*2^(min (Int.toNat 52) (IntKind.bits .u64)))))))=double.nearest s m q:=fun q hq hqn=>by
  have hF:(q+m.log2+1023).toNat<2^11:=by
   have:q+m.log2-52+1074+3≤2048:=hq.top;rw [show (2:Nat)^11=2048 from rfl];omega
  rw [aEb hw (by cases s <;> decide) hc hF g1 g2,hall q hq hqn]
 rw [aUq hw g3 he];have v8:=u0.trans (u2.trans (u5.trans u8));refine⟨fun f=>?_,fun _=>⟨fun f=>?_,fun _=>⟨fun f=>?_,fun f=>?_⟩⟩⟩
 ·have:=ow f;omega
 ·have:=ow f;omega
 ·have f:=ow f;have hs:Has double m (p+e+53):=⟨h.ne,h.bits,by show (-1074:Int)≤_;omega,by show (p+e+53)+m.log2-52+1074+3≤2048;omega⟩;have e1:e+((p+m.log2+1023).toNat:Nat)-1023+53=(p+e+53)+m.log2:=oq
  rw [e1,aSb (z:=p+e+53+m.log2) oq,aFl (z:=p+e+53+m.log2) oq,hput _ hs oq];have hm:Sy.fltR .f64 .mul 4368491638549381120 (double.nearest s m (p+e+53))=some (double.nearest s m (p+e)):=by
   have h1:(4368491638549381120:Nat)=double.nearest false 1 (-53):=by decide +kernel
   have:=pB (s:=false) (t:=s) bI (Has.one (p:=-53) oz oz) hs;rw [zr,Bool.false_xor,show (-53+(p+e+53):Int)=p+e by omega,←h1]at this;exact this
  rw [hm];exact⟨rfl,fun k9 u9=>C k9 (v8.trans u9)⟩
 ·have f:=ov f;have e1:e+((p+m.log2+1023).toNat:Nat)-1023=(p+e)+m.log2:=oq
  rw [e1,aFl (z:=p+e+m.log2) oq,hput _ h' oq];have hm:Sy.fltR .f64 .mul 4607182418800017408 (double.nearest s m (p+e))=some (double.nearest s m (p+e)):=by
   have h1:(4607182418800017408:Nat)=double.nearest false 1 0:=by decide +kernel
   have:=pB (s:=false) (t:=s) bI (Has.one (p:=0) oz oz) h';rw [zr,Bool.false_xor,Int.zero_add,←h1]at this;exact this
  rw [hm];exact⟨rfl,fun k9 u9=>C k9 (v8.trans u9)⟩
theorem aUs (h:Has double m p) (hn:-1022≤p+m.log2) (h':Has double m (p+e)) (he:-100000≤e∧e≤100000) (C:∀k',Up k k'→R k' (.float .f64 (double.nearest s m (p+e)))) :
 Cl k 234 #[.float .f64 (double.nearest s m p),.int .i64 e] R:=fun _ u0=>
 aEf (aUu h hn h' he fun _ u1=>⟨_,rfl,fun k2 u2=>C k2 (u0.trans (u1.trans u2))⟩)
end
open Go.RowKit Num Ieee
open Sy (Up Sees CallsG Seg)
section
variable {k:World}{A A':Option Addr}{n n' c c' a b:Nat}{R:World→Value→Prop}
def aYp (a b:Nat) (e:Int):Nat:=FT.half (a*2^(-e).toNat) (b*2^e.toNat)
end
def aUw (a d bits:Nat) (least:Int):Int:=max ((bl a:Int)-bl d-bits) least
def aYm (a d:Nat) (e:Int):Nat:=(a*2^(-e).toNat) / (d*2^e.toNat)
def aVd (a d bits:Nat) (least:Int):Int:=if bits<bl (aYm a d (aUw a d bits least)) then aUw a d bits least+1 else aUw a d bits least
def aVe (a d bits:Nat) (least:Int):Nat:=aYp a d (aVd a d bits least)
def aXq (s:Bool) (a d bits:Nat) (least beyond:Int):Nat:=
 if a=0 then 0 else if beyond<bl (aVe a d bits least)+aVd a d bits least then double.nearest s 1 5000
 else if aVe a d bits least=0 then 0 else double.nearest s (aVe a d bits least) (aVd a d bits least)
section
variable {k:World}{A D:Option Addr}{n c d e:Nat}{R:World→Value→Prop}{cs:Array Value}{q:Rat}{K:Nat}
end
def below2 (a d:Nat) (e:Int):Prop:=a*2^(-e).toNat<d*2^e.toNat
instance (a d:Nat) (e:Int):Decidable (below2 a d e):=by unfold below2;exact inferInstance
def aZc (a d:Nat):Int:=if below2 a d ((bl a:Int)-bl d) then (bl a:Int)-bl d-1 else (bl a:Int)-bl d
open Num Ieee FT
def aWv (G a d:Nat):Nat:=2*(a*2^G/d)+(if a*2^G % d=0 then 0 else 1)
def aYo (bits t c:Nat):Nat:=half c (2^max (bl c-bits) t)*2^max (bl c-bits) t
def aZb (s:Bool) (beyond:Int) (G u:Nat):Nat:=
 if u=0 then 0 else if beyond+(G+1)<bl u then double.nearest s 1 5000 else double.nearest s u (-((G+1:Nat):Int))
namespace FT
theorem aXb (k:FloatKind) (x:Nat):FloatKind.decode k x=k.format.read x:=rfl
theorem aJz {k k':FloatKind}{s:Bool}{m:Nat}{p:Int}(hk:k≠k') (g:Good k.format) (g':Good k'.format) (h:Has k.format m p) (h':Has k'.format m p) :
 Sy.f2f k k' (k.format.nearest s m p)=k'.format.nearest s m p∧Sy.f2fOk k k' (k.format.nearest s m p)=true:=by
 have e:FloatKind.decode k (k.format.nearest s m p)=.number s (m*2^(p-last k.format m p).toNat) (last k.format m p):=h.read g;have e2:FloatKind.encode k' (.number s (m*2^(p-last k.format m p).toNat) (last k.format m p))=k'.format.nearest s m p:=by
  show k'.format.nearest s _ _=_;have:=h.last_le;generalize last k.format m p=i at *
  rw [show i=p-((p-i).toNat:Nat) by omega];rw [show (p-(p-(((p-i).toNat:Nat):Int))).toNat=(p-i).toNat by omega];exact lN h.ne
 unfold Sy.f2f Sy.f2fOk;rw [e,oh hk,e2];refine⟨rfl,?_⟩;simp only [];rw [e2,aXb,h'.read g'];simp [Datum.isInfinity]
end FT
open FT
section
variable {k:World}{R:World→Value→Prop}{cs:Array Value}{q:Rat}{K:Nat}
end
open Num Ieee FT Plain
theorem aDw:bl 0=0:=rfl
def InF (G u:Nat):Prop:=∃m p,Has double m p∧-((G+1:Nat):Int)≤p∧u=m*2^(p+(G+1:Nat)).toNat
def Img (b:Int) (G u:Nat):Prop:=u=0∨(u≠0∧b+(G+1)<bl u)∨(u≠0∧¬ b+(G+1)<bl u∧InF G u)
theorem aIl:double.read 0=.number false 0 (-1074):=by decide +kernel
theorem vQ {x y:Int}(h:(some (compare x y) == some Ordering.eq)=true):x=y:=by
 simp only [compare,compareOfLessAndEq]at h
 by_cases a:x<y
 ·rw [om a]at h;cases h
 ·rw [oh a]at h
  by_cases c:x=y
  ·exact c
  ·rw [oh c]at h;cases h
def aYy (q:Rat) (bits:Nat) (least beyond:Int):Nat:=aXq (decide (q.num<0)) q.num.natAbs q.den bits least beyond
section
variable {lo hi x:Rat}{bits:Nat}{least beyond:Int}
structure Fmt (bits:Nat) (least beyond:Int):Prop where
 one:1≤bits
 bits:bits≤53
 low:-1074≤least
 top:beyond≤1024
 mid:least≤beyond
def uQ (q:Rat) (bits:Nat) (least:Int):Nat:=aYo bits (least+(1075:Nat)+1).toNat (aWv 1075 q.num.natAbs q.den)
end
def iB (s:Bool) (m:Nat) (p:Int):Rat:=mkRat (sgn s (m*2^p.toNat)) (2^(-p).toNat)
theorem aJa {s:Bool}{M:Nat}(h:M≠0):decide (sgn s M<0)=s:=by
 unfold sgn;cases s <;> simp <;> omega
def bM (w:Nat):Nat:=w/2^52 % 2048
def cI (w:Nat):Nat:=w % 2^52
def dQ (w:Nat):Bool:=w/2^63 == 1
def eC (w:Nat):Nat:=if bM w=0 then cI w else 2^52+cI w
def kE (w:Nat):Int:=(max (bM w) 1:Nat)-1075
theorem nY (w:Nat):w % 2^63=bM w*2^52+cI w:=by
 unfold bM cI;omega
theorem oK {w:Nat}(h:w<2^64):w=double.word (dQ w) (w % 2^63):=by
 unfold Format.word dQ;have es:double.signWeight=2^63:=rfl;have hd:w/2^63<2:=Nat.div_lt_of_lt_mul h;have hw:=ju w (2^63);rw [es];rcases zh (w/2^63) 1 with g|g
 ·have e:w/2^63=0:=oq
  rw [e]at hw ⊢;rw [show ((0:Nat) == 1)=false from rfl,oh oz];omega
 ·have e:w/2^63=1:=oq
  rw [e]at hw ⊢;rw [show ((1:Nat) == 1)=true from rfl,om rfl];omega
theorem nI (w:Nat):cI w<2^52:=qp _ (qd 52)
theorem oX (w:Nat):bM w<2048:=qp _ oz
theorem aRp (w:Nat):w % 2^63<double.signWeight:=qp _ (qd 63)
theorem mN {w:Nat}(h:w<2^64):double.read w=if bM w<2047 then .number (dQ w) (eC w) (kE w) else if cI w=0 then .infinity (dQ w) else .nan (dQ w) (cI w):=by
 have hc:=nI w;have he:=oX w;have key:double.read (double.word (dQ w) (w % 2^63))=_:=pF (aRp w);rw [←oK h]at key;rw [key,nY];have eb:double.binade=2^52:=rfl;have ei:double.infRung=2047*2^52:=rfl;have el:double.leastPlace=-1074:=rfl;rw [eb,ei,el];unfold eC kE;generalize cI w=c at *
 generalize bM w=E at *
 generalize dQ w=s
 by_cases g:E=0
 ·subst g;rw [om oq,om oz,om rfl]
  congr 1
  omega
 ·have d1:(E*2^52+c) / 2^52=E:=by
   rw [ji,yg _ _ (qd 52),qt hc,qr]
  have d2:(E*2^52+c) % 2^52=c:=by
   rw [ji,xf,oi hc]
  rw [oh oq]
  by_cases g2:E<2047
  ·rw [om oq,om g2,oh g,d1,d2]
   congr 1
   omega
  ·have e:E*2^52=2047*2^52:=by
    have:E=2047:=oq
    rw [this]
   have n1:¬ E*2^52+c<2047*2^52:=by rw [e];exact Nat.not_lt.2 (Nat.le_add_right _ _)
   rw [oh n1,oh g2]
   by_cases g3:c=0
   ·have n2:E*2^52+c=2047*2^52:=by rw [e,g3,jw]
    rw [om n2,om g3]
   ·have n2:¬ E*2^52+c=2047*2^52:=fun h=>g3 (by rw [e]at h;exact Nat.add_left_cancel (h.trans (jw _).symm));rw [oh n2,oh g3];have n3:E*2^52+c-2047*2^52=c:=by rw [e,Nat.add_sub_cancel_left]
    rw [n3]
theorem vJ {w:Nat}(h:w<2^64) (hE:bM w<2047) (hm:eC w≠0):w=double.nearest (dQ w) (eC w) (kE w)∧Has double (eC w) (kE w):=by
 have hc:=nI w;have hw:=oK h;rw [nY]at hw;unfold eC kE at *
 generalize cI w=c at *
 generalize bM w=E at *
 generalize dQ w=s at *
 have eb:double.binade=2^52:=rfl;have ei:double.infRung=2047*2^52:=rfl;have el:double.leastPlace=-1074:=rfl
 by_cases g:E=0
 ·subst g;rw [om rfl]at hm ⊢;have hl:c.log2<52:=(zl hm).2 hc;have hlast:last double c (((max 0 1:Nat):Int)-1075)=-1074:=by
   unfold last;show max (_-((52:Nat):Int)) (-1074)=_;omega
  refine⟨?_,hm,vj hc oz,by show (-1074:Int)≤_;omega,by show _+_-52 - -1074+3≤2048;omega⟩;rw [cX hm,hlast,el,eb,ei];rw [show (((max 0 1:Nat):Int)-1075 - -1074).toNat=0 by omega,show (-1074-(((max 0 1:Nat):Int)-1075)).toNat=0 by omega,show ((-1074:Int) - -1074).toNat=0 by omega,zb,vo,fM,ww oq]
  rwa [zb]at hw
 ·rw [oh g]at hm ⊢;have hl:(2^52+c).log2=52:=by
   have a:(2^52+c).log2<53:=(zl hm).2 oq;have b:52≤(2^52+c).log2:=(Nat.le_log2 hm).2 oq;omega
  have hlast:last double (2^52+c) (((max E 1:Nat):Int)-1075)=(E:Int)-1075:=by
   unfold last;rw [hl];show max (_-((52:Nat):Int)) (-1074)=_;omega
  refine⟨?_,hm,by show 2^52+c<2^53;omega,by show (-1074:Int)≤_;omega,by rw [hl];show _+_-52 - -1074+3≤2048;omega⟩;rw [cX hm,hlast,el,eb,ei];rw [show (((max E 1:Nat):Int)-1075-((E:Int)-1075)).toNat=0 by omega,show ((E:Int)-1075-(((max E 1:Nat):Int)-1075)).toNat=0 by omega,show ((E:Int)-1075 - -1074).toNat=E-1 by omega,vo,fM,ww oq];rw [show (E-1)*2^52+(2^52+c)=E*2^52+c by omega];exact hw
def cS (w:Nat):Nat:=w/2^23 % 256
def fT (w:Nat):Nat:=w % 2^23
def fC (w:Nat):Bool:=w/2^31 == 1
def iL (w:Nat):Nat:=if cS w=0 then fT w else 2^23+fT w
def jM (w:Nat):Int:=(max (cS w) 1:Nat)-150
theorem gL (w:Nat):w % 2^31=cS w*2^23+fT w:=by
 unfold cS fT;omega
theorem gM {w:Nat}(h:w<2^32):w=single.word (fC w) (w % 2^31):=by
 unfold Format.word fC;have es:single.signWeight=2^31:=rfl;have hd:w/2^31<2:=Nat.div_lt_of_lt_mul h;have hw:=ju w (2^31);rw [es];rcases zh (w/2^31) 1 with g|g
 ·have e:w/2^31=0:=oq
  rw [e]at hw ⊢;rw [show ((0:Nat) == 1)=false from rfl,oh oz];omega
 ·have e:w/2^31=1:=oq
  rw [e]at hw ⊢;rw [show ((1:Nat) == 1)=true from rfl,om rfl];omega
theorem oY (w:Nat):fT w<2^23:=qp _ (qd 23)
theorem nF (w:Nat):cS w<256:=qp _ oz
theorem aIn (w:Nat):w % 2^31<single.signWeight:=qp _ (qd 31)
theorem iZ {w:Nat}(h:w<2^32):single.read w=if cS w<255 then .number (fC w) (iL w) (jM w) else if fT w=0 then .infinity (fC w) else .nan (fC w) (fT w):=by
 have hc:=oY w;have he:=nF w;have key:single.read (single.word (fC w) (w % 2^31))=_:=pF (aIn w);rw [←gM h]at key;rw [key,gL];have eb:single.binade=2^23:=rfl;have ei:single.infRung=255*2^23:=rfl;have el:single.leastPlace=-149:=rfl;rw [eb,ei,el];unfold iL jM;generalize fT w=c at *
 generalize cS w=E at *
 generalize fC w=s
 by_cases g:E=0
 ·subst g;rw [om oq,om oz,om rfl]
  congr 1
  omega
 ·have d1:(E*2^23+c) / 2^23=E:=by
   rw [ji,yg _ _ (qd 23),qt hc,qr]
  have d2:(E*2^23+c) % 2^23=c:=by
   rw [ji,xf,oi hc]
  rw [oh oq]
  by_cases g2:E<255
  ·rw [om oq,om g2,oh g,d1,d2]
   congr 1
   omega
  ·have e:E*2^23=255*2^23:=by
    have:E=255:=oq
    rw [this]
   have n1:¬ E*2^23+c<255*2^23:=by rw [e];exact Nat.not_lt.2 (Nat.le_add_right _ _)
   rw [oh n1,oh g2]
   by_cases g3:c=0
   ·have n2:E*2^23+c=255*2^23:=by rw [e,g3,jw]
    rw [om n2,om g3]
   ·have n2:¬ E*2^23+c=255*2^23:=fun h=>g3 (by rw [e]at h;exact Nat.add_left_cancel (h.trans (jw _).symm));rw [oh n2,oh g3];have n3:E*2^23+c-255*2^23=c:=by rw [e,Nat.add_sub_cancel_left]
    rw [n3]
theorem aAw {w:Nat}(h:w<2^32) (hE:cS w<255) (hm:iL w≠0):w=single.nearest (fC w) (iL w) (jM w)∧Has single (iL w) (jM w):=by
 have hc:=oY w;have hw:=gM h;rw [gL]at hw;unfold iL jM at *
 generalize fT w=c at *
 generalize cS w=E at *
 generalize fC w=s at *
 have eb:single.binade=2^23:=rfl;have ei:single.infRung=255*2^23:=rfl;have el:single.leastPlace=-149:=rfl
 by_cases g:E=0
 ·subst g;rw [om rfl]at hm ⊢;have hl:c.log2<23:=(zl hm).2 hc;have hlast:last single c (((max 0 1:Nat):Int)-150)=-149:=by
   unfold last;show max (_-((23:Nat):Int)) (-149)=_;omega
  refine⟨?_,hm,vj hc oz,by show (-149:Int)≤_;omega,by show _+_-23 - -149+3≤256;omega⟩;rw [cX hm,hlast,el,eb,ei];rw [show (((max 0 1:Nat):Int)-150 - -149).toNat=0 by omega,show (-149-(((max 0 1:Nat):Int)-150)).toNat=0 by omega,show ((-149:Int) - -149).toNat=0 by omega,zb,vo,fM,ww oq]
  rwa [zb]at hw
 ·rw [oh g]at hm ⊢;have hl:(2^23+c).log2=23:=by
   have a:(2^23+c).log2<24:=(zl hm).2 oq;have b:23≤(2^23+c).log2:=(Nat.le_log2 hm).2 oq;omega
  have hlast:last single (2^23+c) (((max E 1:Nat):Int)-150)=(E:Int)-150:=by
   unfold last;rw [hl];show max (_-((23:Nat):Int)) (-149)=_;omega
  refine⟨?_,hm,by show 2^23+c<2^24;omega,by show (-149:Int)≤_;omega,by rw [hl];show _+_-23 - -149+3≤256;omega⟩;rw [cX hm,hlast,el,eb,ei];rw [show (((max E 1:Nat):Int)-150-((E:Int)-150)).toNat=0 by omega,show ((E:Int)-150-(((max E 1:Nat):Int)-150)).toNat=0 by omega,show ((E:Int)-150 - -149).toNat=E-1 by omega,vo,fM,ww oq];rw [show (E-1)*2^23+(2^23+c)=E*2^23+c by omega];exact hw
namespace FT
theorem uT {x y:Nat}{s:Bool}{t:Nat}(hx:double.read x=.nan s t):double.order x y=none:=by
 unfold Format.order;rw [hx];unfold Datum.order;rfl
theorem low52 {w:Nat}(h:w<2^64):(BitVec.ofInt 64 (w:Int) &&& BitVec.ofInt 64 4503599627370495).toNat=w % 2^52:=by
 rw [BitVec.toNat_and,oP _ h,show (BitVec.ofInt 64 4503599627370495).toNat=2^52-1 from by decide,yx]
theorem fdiv52 {w:Nat}:Int.fdiv ((w:Nat):Int) (2^(min (Int.toNat 52) (IntKind.bits .u64)))=((w/2^52:Nat):Int):=by
 rw [pow52,zf _ oz];rfl
theorem fdiv63 {w:Nat}:Int.fdiv ((w:Nat):Int) (2^(min (Int.toNat 63) (IntKind.bits .u64)))=((w/2^63:Nat):Int):=by
 rw [show (2:Int)^(min (Int.toNat 63) (IntKind.bits .u64))=9223372036854775808 from by decide,zf _ oz];rfl
theorem aEi {w:Nat}(h:w<2^64):wrap .i64 (wrap .u64 (BitVec.toNat (BitVec.ofInt (IntKind.bits .u64) (Int.fdiv ((w:Nat):Int) (2^(min (Int.toNat 52) (IntKind.bits .u64)))) &&& BitVec.ofInt (IntKind.bits .u64) 2047)))=(bM w:Int):=by
 have hE:=oX w;rw [fdiv52,show IntKind.bits .u64=64 from rfl,field h,show w/2^52 % 2048=bM w from rfl,wrap64 (vj hE oz),jh];omega
theorem aXp {w:Nat}(h:w<2^64):wrap .u64 (BitVec.toNat (BitVec.ofInt (IntKind.bits .u64) ((w:Nat):Int) &&& BitVec.ofInt (IntKind.bits .u64) 4503599627370495))=(cI w:Int):=by
 have hc:=nI w;rw [show IntKind.bits .u64=64 from rfl,low52 h,show w % 2^52=cI w from rfl,wrap64 (vj hc oz)]
theorem aVx {w:Nat}:((Int.fdiv ((w:Nat):Int) (2^(min (Int.toNat 63) (IntKind.bits .u64))):Int) == 1)=dQ w:=by
 rw [fdiv63];unfold dQ;rw [xy,beq_iff_eq,beq_iff_eq];omega
theorem aVf (w:Nat):eC w<2^53:=by
 have:=nI w;unfold eC;split <;> omega
end FT
open FT
def kC (w:Nat):Rat:=if bM w<2047 then iB (dQ w) (eC w) (kE w) else 0
theorem zE {w:Nat}(h:bM w<2047) (hm:eC w=0):kC w=0:=by
 unfold kC iB;rw [om h,hm,zb,show sgn (dQ w) 0=0 from by unfold sgn;cases dQ w <;> rfl,Rat.zero_mkRat]
namespace W32
section
variable {k:World}{R:World→Value→Prop}{w:Nat}
theorem aXs {j n:Nat}(h:j<32*n):2^j<B^n:=by
 rw [rR,←xm];exact xg oz h
theorem aLl (j:Nat) (h:j≤1200):nw (1*2^j)≤40:=jz (aJ (by rw [zr,rR,←xm];exact xg oz (show j<32*(j/32+1) by omega))) oq
theorem aMi (h:w<2^64) (C:∀k' ds,Up k k'→QV k' ds (kC w) 40→R k' (.tuple #[.agg ds,.int .i64 (if bM w<2047 then 0 else 1)])) :
 Cl k 138 #[.float .f64 w] R:=by
 intro k0 u0;replace C:=fun k' ds u=>C k' ds (u0.trans u);have hE:=oX w;have hc:=nI w;have hm:=aVf w;refine aIh ?_
 try dsimp only
 rw [aEi h,aXp h,aVx];have e53:(2:Nat)^53=9007199254740992:=rfl;have e52:(2:Nat)^52=4503599627370496:=rfl;have nm:nw (eC w)≤2:=aJ (vj hm (by decide +kernel));refine⟨fun f=>?_,fun f=>?_⟩
 ·have f:=eq_of_beq f;have g:¬ bM w<2047:=oq
  have hn:kC w=0:=by unfold kC;rw [oh g]
  rw [oh g,hn]at C;exact fJ (z:=0) oz oz fun k1 ds u1 h1=>⟨ds,h1.seg,rfl,fun k2 u2=>C k2 ds (u1.trans u2) ((h1.up u2).mono oz)⟩
 ·have f:¬ ((bM w:Nat):Int)=2047:=by simpa using f
  have g:bM w<2047:=oq
  have hn:kC w=iB (dQ w) (eC w) (kE w):=by unfold kC;rw [om g]
  rw [om g,hn]at C;refine⟨fun f1=>?_,fun f1=>?_⟩
  ·have f1:=ow f1;have em:eC w=2^52+cI w:=by unfold eC;rw [oh oq]
   have ep:kE w=(bM w:Int)-1075:=by unfold kE;omega
   have ew:wrap .u64 ((cI w:Int)+4503599627370496)=((eC w:Nat):Int):=by
    rw [em,show ((cI w:Int)+4503599627370496)=((2^52+cI w:Nat):Int) by omega,wrap64 oq]
   rw [ew];refine⟨fun f2=>?_,fun f2=>?_⟩
   ·have f2:=ow f2;have es:wrap .i64 ((bM w:Int)-1075)=((bM w-1075:Nat):Int):=by rw [jh];omega
    rw [es]
    have nr:nw (eC w*2^(bM w-1075))≤40:=aJ (by
     have a:eC w*2^(bM w-1075)<2^(53+(bM w-1075)):=by rw [qs];exact jc hm (qd _)
     exact vj a (aXs oq))
    refine sO oq fun k1 A c u1 h1=>⟨_,_,_,rfl,?_⟩;refine kF h1 oq oq fun k2 A c u2 h2=>⟨_,_,_,rfl,?_⟩;intro p3 k3 u3 hp3;refine jU (K:=40) (q:=iB (dQ w) (eC w) (kE w)) (h2.up u3) (pC hp3) oz nr oz oz ?_ fun k4 b A l c A' l' c' u4 hQ e1 e2=>⟨_,(QV.mk1 hQ e1 e2).seg,rfl,fun k5 u5=>C k5 _ (u1.trans (u2.trans (u3.trans (u4.trans u5)))) ((QV.mk1 hQ e1 e2).up u5)⟩;unfold iB;rw [ep,show ((bM w:Int)-1075).toNat=bM w-1075 by omega,show (-((bM w:Int)-1075)).toNat=0 by omega]
   ·have f2:=ov f2;have es:wrap .i64 (1075-(bM w:Int))=((1075-bM w:Nat):Int):=by rw [jh];omega
    rw [es];have nr:=aLl (1075-bM w) oq;refine sO oq fun k1 A c u1 h1=>⟨_,_,_,rfl,?_⟩;intro p2 k2 u2 hp2;refine kF (pC hp2) oz oq fun k3 A c u3 h3=>⟨_,_,_,rfl,?_⟩;refine jU (K:=40) (q:=iB (dQ w) (eC w) (kE w)) ((h1.up u2).up u3) h3 (zn oz (qd _)) oq nr oz ?_ fun k4 b A l c A' l' c' u4 hQ e1 e2=>⟨_,(QV.mk1 hQ e1 e2).seg,rfl,fun k5 u5=>C k5 _ (u1.trans (u2.trans (u3.trans (u4.trans u5)))) ((QV.mk1 hQ e1 e2).up u5)⟩;unfold iB;rw [ep,show ((bM w:Int)-1075).toNat=0 by omega,show (-((bM w:Int)-1075)).toNat=1075-bM w by omega,xx,zz,zr]
  ·have f1:=ov f1;have em:eC w=cI w:=by unfold eC;rw [om oq]
   obtain⟨j,hj⟩:∃j:Nat,j=1074:=⟨_,rfl⟩;have ep:kE w=-(j:Int):=by unfold kE;omega
   have nr:=aLl j oq;rw [←em,show (1074:Int)=(j:Int) by omega];refine sO oq fun k1 A c u1 h1=>⟨_,_,_,rfl,?_⟩;intro p2 k2 u2 hp2;refine kF (s:=j) (pC hp2) oz oq fun k3 A c u3 h3=>⟨_,_,_,rfl,?_⟩;refine jU (K:=40) (q:=iB (dQ w) (eC w) (kE w)) ((h1.up u2).up u3) h3 (zn oz (qd _)) oq nr oz ?_ fun k4 b A l c A' l' c' u4 hQ e1 e2=>⟨_,(QV.mk1 hQ e1 e2).seg,rfl,fun k5 u5=>C k5 _ (u1.trans (u2.trans (u3.trans (u4.trans u5)))) ((QV.mk1 hQ e1 e2).up u5)⟩;unfold iB;rw [ep,show (-(j:Int)).toNat=0 by omega,show (- -(j:Int)).toNat=j by omega,xx,zz,zr]
end
end W32
namespace FT
theorem lt_of {x y:Int}(h:x<y):(some (compare x y) == some Ordering.lt)=true:=by
 simp only [compare,compareOfLessAndEq];rw [om h];rfl
theorem aDj {s:Bool}{n:Nat}:(Datum.number s n 0).toInt .zero=some (sgn s n):=by
 unfold Datum.toInt Datum.integral;simp only [];have e:Toward.zero.cut s (n <<< (0:Int).toNat) (-(0:Int)).toNat=n:=by
  unfold Toward.cut;simp
 rw [e];unfold signed sgn;rw [vo]
end FT
open FT
section
variable {k:World}{R:World→Value→Prop}{s:Bool}{m:Nat}{p q e:Int}{w:Nat}
theorem aGt (h:Has double m p) (hn:p+m.log2 < -1022) (C:∀k',Up k k'→R k' (.tuple #[.float .f64 (double.nearest s m (p+52)),.int .i64 (-52)])):Cl k 328 #[.float .f64 (double.nearest s m p)] R:=by
 intro k0 u0;refine yM (mA fun k1 u1=>⟨_,rfl,fun _=>?_,fun f=>?_⟩)
 ·have hm:=pB (s:=s) (t:=false) bI h (Has.one (p:=52) oz oz);have h1:(4841369599423283200:Nat)=double.nearest false 1 52:=by decide +kernel
  rw [zz,Bool.xor_false,←h1]at hm;have hm':Sy.fltR .f64 .mul (double.nearest s m p) 4841369599423283200=some (double.nearest s m (p+52)):=hm;rw [hm'];exact⟨rfl,fun k2 u2=>C k2 (u0.trans (u1.trans u2))⟩
 ·exfalso;have hr:=h.read (neg:=false) bI;have hl:m.log2<53:=(zl h.ne).2 h.bits;have hlow:(-1074:Int)≤p:=h.low;have elast:last double m p=-1074:=by
   unfold last;show max (p+m.log2-((52:Nat):Int)) (-1074)=_;omega
  have hlog:(m*2^(p-last double m p).toNat).log2=m.log2+(p-last double m p).toNat:=eH h.ne;have hne:m*2^(p-last double m p).toNat≠0:=ze h.ne (Nat.ne_of_gt (qd _));generalize last double m p=i at *
  subst elast;have hM:m*2^(p - -1074).toNat<2^52:=(zl hne).1 oq;generalize m*2^(p - -1074).toNat=M at *
  have hx:double.read 4503599627370496=.number false (2^52) (-1074):=by decide +kernel
  rw [show FloatKind.format .f64=double from rfl,gJ hr hx]at f;rw [show min (-1074:Int) (-1074)=-1074 by omega,show ((-1074:Int) - -1074).toNat=0 by omega]at f;unfold signed at f;simp only [zj,if_false,vo]at f;rw [lt_of (by exact_mod_cast hM)]at f;cases f
theorem yO (h:Has double m q) (hn:-1022≤q+m.log2):Int.toNat (wrap .u64 (BitVec.toNat (BitVec.ofInt (IntKind.bits .u64) (wrap .u64 (BitVec.toNat (BitVec.ofInt (IntKind.bits .u64) ((double.nearest s m q:Nat):Int) &&& ~~~(BitVec.ofInt (IntKind.bits .u64) 9218868437227405312)))) ||| BitVec.ofInt (IntKind.bits .u64) 4602678819172646912)))=double.nearest s m (-((m.log2+1:Nat):Int)):=by
 obtain⟨c,hc,hall,g1,g2,g3,g4⟩:=parts (s:=s) h hn;have hw:=(near64 s m q).1;have hl:m.log2<53:=(zl h.ne).2 h.bits;have hq:Has double m (-((m.log2+1:Nat):Int)):=⟨h.ne,h.bits,by show (-1074:Int)≤_;omega,by show -((m.log2+1:Nat):Int)+m.log2-52+1074+3≤2048;omega⟩;have:=aEb (F:=1022) hw (by cases s <;> decide) hc oz g1 g2;rw [show wrap .u64 (((1022:Nat):Int)*2^(min (Int.toNat 52) (IntKind.bits .u64)))=4602678819172646912 from by decide]at this;rw [this,hall _ hq oq,show (-((m.log2+1:Nat):Int)+m.log2+1023).toNat=1022 by omega]
theorem aEl {e0:Int}(h:Has double m q) (hn:-1022≤q+m.log2) (he:-1000≤e0∧e0≤1000):wrap .i64 (e0+(wrap .i64 ((wrap .i64 ((wrap .i64 (wrap .u64 (BitVec.toNat (BitVec.ofInt (IntKind.bits .u64) (Int.fdiv ((double.nearest s m q:Nat):Int) (2^(min (Int.toNat 52) (IntKind.bits .u64)))) &&& BitVec.ofInt (IntKind.bits .u64) 2047))))-1023))+1)))=e0+q+m.log2+1:=by
 obtain⟨c,hc,hall,g1,g2,g3,g4⟩:=parts (s:=s) h hn;have hw:=(near64 s m q).1;have g5:bM (double.nearest s m q)=(q+m.log2+1023).toNat:=g3;have g6:(q+m.log2+1023).toNat<2048:=g4;rw [aEi hw,g5,jh,jh,jh];omega
theorem nonzero {x:Nat}(h:Has double m p) (hx:double.read x=.number false 0 (-1074)):(double.order (double.nearest s m p) x == some Ordering.eq)=false:=by
 have hr:=h.read (neg:=s) bI;have hne:m*2^(p-last double m p).toNat≠0:=ze h.ne (Nat.ne_of_gt (qd _));rw [gJ hr hx];generalize m*2^(p-last double m p).toNat=M at *
 generalize last double m p=i at *
 have hz:signed s M (i-min i (-1074)).toNat≠0:=by
  unfold signed;rw [vm];have:=ze hne (Nat.ne_of_gt (qd (i-min i (-1074)).toNat));generalize M*2^(i-min i (-1074)).toNat=z at this;cases s <;> simp <;> omega
 have hz2:signed false 0 (-1074-min i (-1074)).toNat=0:=by unfold signed;simp
 rw [hz2];refine Bool.eq_false_iff.2 fun o=>hz (vQ o)
theorem aUt (h:Has double m p) (C:∀k',Up k k'→R k' (.tuple #[.float .f64 (double.nearest s m (-((m.log2+1:Nat):Int))),.int .i64 (p+m.log2+1)])) :
 Cl k 235 #[.float .f64 (double.nearest s m p)] R:=by
 intro k0 u0;have h0:double.read 0=.number false 0 (-1074):=aIl;have hl:m.log2<53:=(zl h.ne).2 h.bits;have hlow:(-1074:Int)≤p:=h.low;refine aEe fun k1 u1=>aEh ⟨fun f=>?_,fun _=>nH h fun k2 u2=>⟨_,rfl,(fun f=>by cases f),fun _=>sD h fun k5 u5=>⟨_,rfl,(fun f=>by cases f),fun _=>?_⟩⟩⟩
 ·have:=nonzero (s:=s) h h0;rw [show FloatKind.format .f64=double from rfl,this]at f;cases f
 by_cases hn:-1022≤p+m.log2
 ·refine aEk h hn fun k8 u8=>⟨_,_,rfl,fun k9 u9=>⟨_,_,rfl,fun k10 u10=>?_⟩⟩;have:=C k10 (u0.trans (u1.trans (u2.trans (u5.trans (u8.trans (u9.trans u10))))));rw [yO h hn,aEl h hn oz,Int.zero_add];exact this
 ·have h':Has double m (p+52):=⟨h.ne,h.bits,by show (-1074:Int)≤_;omega,by show p+52+m.log2-52+1074+3≤2048;omega⟩;refine aGt h oq fun k8 u8=>⟨_,_,rfl,fun k9 u9=>⟨_,_,rfl,fun k10 u10=>?_⟩⟩;have:=C k10 (u0.trans (u1.trans (u2.trans (u5.trans (u8.trans (u9.trans u10))))));rw [yO h' oq,aEl h' oq oz,show (-52:Int)+(p+52)+m.log2+1=p+m.log2+1 by omega];exact this
theorem aDo (h:Has double m p) (hp:p+m.log2=52):Sy.f2iOk .f64 .i64 (double.nearest s m p)=true∧Sy.f2i .f64 (double.nearest s m p)=sgn s (m*2^p.toNat)∧m*2^p.toNat<2^53:=by
 have hl:m.log2<53:=(zl h.ne).2 h.bits;have elast:last double m p=0:=by
  unfold last;show max (p+m.log2-((52:Nat):Int)) (-1074)=_;omega
 have hr:=h.read (neg:=s) bI;rw [elast,Int.sub_zero]at hr;have hne:m*2^p.toNat≠0:=ze h.ne (Nat.ne_of_gt (qd _));have hM:m*2^p.toNat<2^53:=(zl hne).1 (by rw [eH h.ne];omega);have hd:(FloatKind.decode .f64 (double.nearest s m p)).toInt .zero=some (sgn s (m*2^p.toNat)):=by
  rw [aXb];show (double.read _).toInt .zero=_;rw [hr,aDj]
 refine⟨?_,?_,hM⟩
 ·unfold Sy.f2iOk;rw [hd];refine decide_eq_true ?_;have e1:IntKind.i64.min=-9223372036854775808:=rfl;have e2:IntKind.i64.max=9223372036854775807:=rfl;rw [e1,e2];have e3:(2:Nat)^53=9007199254740992:=rfl;unfold sgn;split <;> omega
 ·unfold Sy.f2i;rw [hd];rfl
theorem aIj {k:World}{A:Option Addr}{n c:Nat}{b:Bool}{z:Int}{K:Nat}(h:IntV k #[.bool b,.slice A n c] z K):RatV k #[.bool b,.slice A n c,.slice none 0 0] (z:Rat) K:=by
 obtain⟨b',A',n',c',e,hi,hn⟩:=h;injection e with e;injection e with e1 e;injection e1 with e1;injection e with e2 e;injection e2 with e2 e3 e4;subst e1 e2 e3 e4;exact⟨_,_,_,_,none,0,0,rfl,⟨by rw [Rat.num_intCast];exact hi,by rw [Rat.den_intCast,om rfl];exact LimR.nil⟩,hn,jt _⟩
theorem wN {k:World}{K:Nat}:RatV k #[.bool false,.slice none 0 0,.slice none 0 0] 0 K:=
 ⟨_,_,_,_,none,0,0,rfl,⟨⟨rfl,LimR.nil⟩,LimR.nil⟩,jt _,jt _⟩
theorem aNd (s:Bool) (a b:Nat):sgn s (a*b)=sgn s a*(b:Int):=by
 unfold sgn;cases s <;> simp [Int.neg_mul]
theorem mB {s:Bool}{m j d:Nat}{p:Int}(h:p+d=j):mkRat (sgn s (m*2^j)) (1*2^d)=iB s m p:=by
 unfold iB;rw [zr];have e1:m*2^j=m*2^p.toNat*2^(j-p.toNat):=by rw [jv,←qs];congr 2;omega
 have e2:2^d=2^(-p).toNat*2^(j-p.toNat):=by rw [←qs];congr 1;omega
 rw [e1,e2,aNd,Rat.mkRat_mul_right (Nat.ne_of_gt (qd _))]
theorem aDq (h:Has double m p) (C:∀k' ds,Up k k'→RatV k' ds (iB s m p) 1200→R k' (.tuple #[.agg ds,.int .i64 0])) :
 Cl k 149 #[.float .f64 (double.nearest s m p)] R:=by
 intro k0 u0;have hl:m.log2<53:=(zl h.ne).2 h.bits;have hlow:(-1074:Int)≤p:=h.low;have htop:p+m.log2-52+1074+3≤2048:=h.top;refine lH (sD h fun k1 u1=>⟨_,rfl,(fun f=>by cases f),fun _=>nH h fun k4 u4=>⟨_,rfl,(fun f=>by cases f),fun _=>?_⟩⟩);refine aUt h fun k7 u7=>⟨_,_,rfl,?_⟩;have hq:Has double m (-((m.log2+1:Nat):Int)):=⟨h.ne,h.bits,by show (-1074:Int)≤_;omega,by show -((m.log2+1:Nat):Int)+m.log2-52+1074+3≤2048;omega⟩;have hq':Has double m (-((m.log2+1:Nat):Int)+53):=⟨h.ne,h.bits,by show (-1074:Int)≤_;omega,by show -((m.log2+1:Nat):Int)+53+m.log2-52+1074+3≤2048;omega⟩;refine aUs hq oq hq' oz fun k9 u9=>⟨_,rfl,?_⟩;obtain⟨w1,w2,w3⟩:=aDo (s:=s) hq' oq;rw [w2];refine⟨w1,?_⟩;have e3:(2:Nat)^53=9007199254740992:=rfl;have ej:(-((m.log2+1:Nat):Int)+53).toNat=52-m.log2:=oq
 rw [ej]at w3 ⊢;have v9:=u0.trans (u1.trans (u4.trans (u7.trans u9)));have wE:wrap .i64 (p+m.log2+1-53)=p+m.log2-52:=by rw [jh];omega
 refine zJ (z:=sgn s (m*2^(52-m.log2))) (by unfold sgn;split <;> omega) (by unfold sgn;split <;> omega) fun k11 ds u11 hI=>?_;have hI':=hI;obtain⟨b,A,n,c,rfl,hr,hn⟩:=hI';refine⟨_,_,_,_,rfl,?_⟩
 try dsimp only
 rw [wE];have hz:(sgn s (m*2^(52-m.log2))).natAbs=m*2^(52-m.log2):=rO _ _;have hne:m*2^(52-m.log2)≠0:=ze h.ne (Nat.ne_of_gt (qd _));have hb:b=s:=by rw [hr.neg];exact aJa hne
 have hlim:=hr.lim;rw [hz]at hlim;refine⟨fun f=>?_,fun f=>?_⟩
 ·have f:=ow f;have es:p+m.log2-52=(((p+m.log2-52).toNat:Nat):Int):=oq
  rw [es];refine aBt hlim oq oq fun k13 B j d u13 h13 l13=>⟨_,_,_,rfl,?_⟩;refine rQ (K:=1200) h13 oq oq fun k15 ds u15 h15=>?_;have h15':=h15;obtain⟨b9,A10,l10,c10,rfl,_⟩:=h15';refine⟨_,_,_,_,rfl,fun k16 u16=>C k16 _ (v9.trans (u11.trans (u13.trans (u15.trans u16)))) ?_⟩;have:=(aIj h15).up u16;rw [hb]at this;have e:((sgn s (m*2^(52-m.log2)*2^(p+m.log2-52).toNat):Int):Rat)=iB s m p:=by
   rw [jv,←qs,←mB (j:=52-m.log2+(p+m.log2-52).toNat) (d:=0) oq];exact (Rat.mkRat_one _).symm
  rwa [e]at this
 ·have f:=ov f;have es:wrap .i64 (0-(p+m.log2-52))=(((52-p-m.log2).toNat:Nat):Int):=by rw [jh];omega
  rw [es];refine mS (x:=1) oz fun k13 B j d u13 h13 l13=>⟨_,_,_,rfl,?_⟩;refine aBt h13 oq oq fun k15 B j d u15 h15 l15=>⟨_,_,_,rfl,?_⟩;refine pD (K:=1200) ((hI.up (u13.trans u15)).mono oz) h15 (by have:=qd (52-p-m.log2).toNat;omega) oz oq fun k17 ds u17 h17=>?_;have h17':=h17;obtain⟨g,A,n,c,D,d,e,rfl,_⟩:=h17';refine⟨_,_,_,_,_,_,_,rfl,fun k18 u18=>C k18 _ (v9.trans (u11.trans (u13.trans (u15.trans (u17.trans u18))))) ?_⟩;have:=h17.up u18
  rwa [mB (p:=p) oq]at this
theorem aBa {s:Bool}(C:∀k' ds,Up k k'→RatV k' ds 0 1200→R k' (.tuple #[.agg ds,.int .i64 0])) :
 Cl k 149 #[.float .f64 (double.nearest s 0 0)] R:=by
 intro k0 u0;have f1:∀s,(Format.order double (double.nearest s 0 0) (double.nearest s 0 0) != some Ordering.eq)=false:=by decide +kernel
 have f2:(Format.order double (double.nearest false 0 0) 9218868437227405311 == some Ordering.gt)=false:=by decide +kernel
 have f3:∀s,(Format.order double (double.nearest s 0 0) 0 == some Ordering.eq)=true:=by decide +kernel
 have f4:∀s,Sy.f2iOk .f64 .i64 (double.nearest s 0 0)=true∧Sy.f2i .f64 (double.nearest s 0 0)=0:=by decide +kernel
 refine lH fun k1 u1=>iI fun k2 u2=>⟨_,rfl,fun f=>?_,fun _ k3 u3=>gD ⟨fun _=>mA fun k4 u4=>⟨_,rfl,fun k5 u5=>⟨_,rfl,fun f=>?_,fun _ k6 u6=>?_⟩⟩,fun f=>by cases f⟩⟩
 ·rw [show FloatKind.format .f64=double from rfl,f1 s]at f;cases f
 ·rw [show FloatKind.format .f64=double from rfl,f2]at f;cases f
 refine aEe fun k7 u7=>aEh ⟨fun _ k8 u8=>⟨_,_,rfl,fun k9 u9=>⟨_,_,rfl,?_⟩⟩,fun f=>by rw [show FloatKind.format .f64=double from rfl,f3 s]at f;cases f⟩;refine fun k10 u10=>aEf fun k11 u11=>aEj ⟨fun _ k12 u12=>⟨_,rfl,fun k13 u13=>⟨_,rfl,(f4 s).1,?_⟩⟩,fun f=>by rw [show FloatKind.format .f64=double from rfl,f3 s]at f;cases f⟩;rw [(f4 s).2];have v13:=u0.trans (u1.trans (u2.trans (u3.trans (u4.trans (u5.trans (u6.trans (u7.trans (u8.trans (u9.trans (u10.trans (u11.trans (u12.trans u13))))))))))));refine zJ (z:=0) oz oz fun k14 ds u14 hI=>?_;have hI':=hI;obtain⟨b,A,n,c,rfl,hr,hn⟩:=hI';refine⟨_,_,_,_,rfl,?_⟩
 try dsimp only
 rw [show wrap .i64 ((0:Int)-53)=-53 from by decide];refine⟨fun f=>absurd f oz,fun _=>?_⟩;rw [show wrap .i64 ((0:Int) - -53)=((53:Nat):Int) from by decide];refine mS (x:=1) oz fun k15 B j d u15 h15 l15=>⟨_,_,_,rfl,?_⟩;refine aBt h15 oq oz fun k16 B j d u16 h16 l16=>⟨_,_,_,rfl,?_⟩;refine pD (K:=1200) ((hI.up (u15.trans u16)).mono oz) h16 oz oz oq fun k17 ds u17 h17=>?_;have h17':=h17;obtain⟨g,A,n,c,D,d,e,rfl,_⟩:=h17';refine⟨_,_,_,_,_,_,_,rfl,fun k18 u18=>C k18 _ (v13.trans (u14.trans (u15.trans (u16.trans (u17.trans u18))))) ?_⟩;have:=h17.up u18
 rwa [Rat.zero_mkRat]at this
theorem sJ {w:Nat}(h:w<2^64) (hE:bM w=2047) (hf:cI w=0):w=double.nearest (dQ w) 1 5000:=by
 have e:=oK h;rw [nY,hE,hf]at e;rw [e];generalize dQ w=s;have key:∀s,double.word s (2047*2^52+0)=double.nearest s 1 5000:=by decide +kernel
 have k2:∀s,dQ (double.word s (2047*2^52+0))=s:=by decide +kernel
 rw [k2,key]
theorem aOe (h:w<2^64) (C:∀k' ds,Up k k'→RatV k' ds (kC w) 1200→R k' (.tuple #[.agg ds,.int .i64 (if bM w<2047 then 0 else 1)])) :
 Cl k 149 #[.float .f64 w] R:=by
 by_cases hE:bM w<2047
 ·rw [om hE]at C
  by_cases hm:eC w=0
  ·rw [zE hE hm]at C;have e:w=double.nearest (dQ w) 0 0:=by
    have hr:w % 2^63=0:=by
     rw [nY];unfold eC at hm;split at hm
     ·rename_i g;rw [g,hm]
     ·have:=qd 52;omega
    have:=oK h;rw [hr]at this;rw [this];generalize dQ w=s;have k2:∀s,dQ (double.word s 0)=s:=by decide +kernel
    rw [k2];unfold Format.nearest;rw [om rfl]
   rw [e];exact aBa C
  ·obtain⟨e,hh⟩:=vJ h hE hm;have hn:kC w=iB (dQ w) (eC w) (kE w):=by unfold kC;rw [om hE]
   rw [hn]at C;rw [e];generalize dQ w=s at *
   generalize eC w=m at *
   generalize kE w=p at *
   exact aDq hh C
 ·have hE2:bM w=2047:=by have:=oX w;omega
  have hn:kC w=0:=by unfold kC;rw [oh hE]
  rw [oh hE,hn]at C;intro k0 u0;have hr:=mN h;rw [oh hE]at hr
  by_cases hf:cI w=0
  ·have e:=sJ h hE2 hf;rw [e];generalize dQ w=s;have f1:∀s,(Format.order double (double.nearest s 1 5000) (double.nearest s 1 5000) != some Ordering.eq)=false:=by decide +kernel
   have f2:(Format.order double (double.nearest false 1 5000) 9218868437227405311 == some Ordering.gt)=true:=by decide +kernel
   refine lH fun k1 u1=>iI fun k2 u2=>⟨_,rfl,fun f=>?_,fun _ k3 u3=>gD ⟨fun _=>mA fun k4 u4=>⟨_,rfl,fun k5 u5=>⟨_,rfl,fun _ k6 u6=>?_,fun f=>?_⟩⟩,fun f=>by cases f⟩⟩
   ·rw [show FloatKind.format .f64=double from rfl,f1 s]at f;cases f
   ·exact C k6 _ (u0.trans (u1.trans (u2.trans (u3.trans (u4.trans (u5.trans u6)))))) wN
   ·rw [show FloatKind.format .f64=double from rfl,f2]at f;cases f
  ·rw [oh hf]at hr;refine lH fun k1 u1=>iI fun k2 u2=>⟨_,rfl,fun _ k3 u3=>C k3 _ (u0.trans (u1.trans (u2.trans u3))) wN,fun f=>?_⟩;rw [show FloatKind.format .f64=double from rfl,uT hr]at f;cases f
end
open Go.RowKit Num Ieee FT W32
namespace FT
variable {f:Ieee.Format}
theorem mI {x y:Nat}{s t:Bool}{M N:Nat}{i j:Int}(hx:f.read x=.number s M i) (hy:f.read y=.number t N j) :
 f.order x y=some (compare (signed s M (i-min i j).toNat) (signed t N (j-min i j).toNat)):=by
 unfold Format.order;rw [hx,hy];rfl
theorem aLt {x:Nat}{s:Bool}{M:Nat}{i:Int}(hx:f.read x=.number s M i):f.order x x=some Ordering.eq:=by
 rw [mI hx hx];simp [compare,compareOfLessAndEq]
end FT
open FT
theorem aGr {m:Nat}{p:Int}(h:Has single m p):Has double m p:=by
 have h1:m<2^24:=h.bits;have h2:(-149:Int)≤p:=h.low;have h3:p+m.log2-23+149+3≤256:=h.top;exact⟨h.ne,vj h1 oz,by show (-1074:Int)≤p;omega,by show p+m.log2-52+1074+3≤2048;omega⟩
theorem aQc {s:Bool}{m:Nat}{p i:Int}(h:i≤p):iB s (m*2^(p-i).toNat) i=iB s m p:=by
 rw [←mB (s:=s) (m:=m) (p:=p) (d:=(-i).toNat) (j:=(p+(-i).toNat).toNat+0) oq];unfold iB;rw [zr,jv,←qs]
 congr 4
 omega
theorem aLj {s:Bool}{m:Nat}{p:Int}(h:Has double m p):kC (double.nearest s m p)=iB s m p∧bM (double.nearest s m p)<2047:=by
 have a:=mN (near64 s m p).1;rw [h.read bI]at a;unfold kC
 by_cases g:bM (double.nearest s m p)<2047
 ·rw [om g]at a ⊢;injection a with a1 a2 a3;rw [←a1,←a2,←a3,aQc h.last_le];exact⟨rfl,g⟩
 ·rw [oh g]at a;split at a <;> cases a
def nQ (w:Nat):Rat:=if cS w<255 then iB (fC w) (iL w) (jM w) else 0
theorem aBc {w:Nat}(h:w<2^32) (hm:iL w=0):w=single.word (fC w) 0∧cS w=0:=by
 have hE:cS w=0∧fT w=0:=by
  unfold iL at hm;split at hm
  ·exact⟨by assumption,hm⟩
  ·have:=qd 23;omega
 have:=gM h;rw [gL,hE.1,hE.2]at this;exact⟨this,hE.1⟩
theorem rJ {v n:Nat}(h:v<2^32) (hc:Sy.F2F .f32 .f64 v n):n<2^64∧(bM n<2047↔cS v<255)∧kC n=nQ v:=by
 have hr:=iZ h
 by_cases hE:cS v<255
 ·have hv:nQ v=iB (fC v) (iL v) (jM v):=by unfold nQ;rw [om hE]
  by_cases hm:iL v=0
  ·obtain⟨e,e0⟩:=aBc h hm;have hz:nQ v=0:=by
    rw [hv,hm];unfold iB;rw [zb,show sgn (fC v) 0=0 from by unfold sgn;cases fC v <;> rfl,Rat.zero_mkRat]
   rw [hz];have key:∀s,Sy.f2fOk .f32 .f64 (single.word s 0)=true∧Sy.f2f .f32 .f64 (single.word s 0)<2^64∧bM (Sy.f2f .f32 .f64 (single.word s 0))<2047∧eC (Sy.f2f .f32 .f64 (single.word s 0))=0:=by decide +kernel
   obtain⟨k1,k2,k3,k4⟩:=key (fC v);rw [←e]at k1 k2 k3 k4;rcases hc with ⟨_,rfl⟩|⟨c,_⟩
   ·exact⟨k2,⟨fun _=>hE,fun _=>k3⟩,zE k3 k4⟩
   ·rw [k1]at c;cases c
  ·obtain⟨e,hh⟩:=aAw h hE hm;have hd:=aGr hh;obtain⟨c1,c2⟩:=aJz (k:=.f32) (k':=.f64) (s:=fC v) oz yS bI hh hd;have c1:Sy.f2f .f32 .f64 (single.nearest (fC v) (iL v) (jM v))=double.nearest (fC v) (iL v) (jM v):=c1;have c2:Sy.f2fOk .f32 .f64 (single.nearest (fC v) (iL v) (jM v))=true:=c2;rw [←e]at c1 c2;obtain⟨d1,d2⟩:=aLj (s:=fC v) hd;rcases hc with ⟨_,rfl⟩|⟨c,_⟩
   ·rw [c1,d1,hv];exact⟨(near64 _ _ _).1,⟨fun _=>hE,fun _=>d2⟩,rfl⟩
   ·rw [c2]at c;cases c
 ·have hv:nQ v=0:=by unfold nQ;rw [oh hE]
  rw [hv];have hE2:cS v=255:=by have:=nF v;omega
  have bad:∀n,n<2^64→¬ bM n<2047→n<2^64∧(bM n<2047↔cS v<255)∧kC n=0:=fun n h1 h2=>⟨h1,⟨fun g=>absurd g h2,fun g=>absurd g hE⟩,by unfold kC;rw [oh h2]⟩;rw [oh hE]at hr
  by_cases hf:fT v=0
  ·have e:=gM h;rw [gL,hE2,hf]at e;have key:∀s,Sy.f2fOk .f32 .f64 (single.word s (255*2^23+0))=true∧Sy.f2f .f32 .f64 (single.word s (255*2^23+0))<2^64∧¬ bM (Sy.f2f .f32 .f64 (single.word s (255*2^23+0)))<2047:=by decide +kernel
   obtain⟨k1,k2,k3⟩:=key (fC v);rw [←e]at k1 k2 k3;rcases hc with ⟨_,rfl⟩|⟨c,_⟩
   ·exact bad _ k2 k3
   ·rw [k1]at c;cases c
  ·rw [oh hf]at hr;have hd:FloatKind.decode .f32 v=.nan (fC v) (fT v):=hr;rcases hc with ⟨c,_⟩|⟨_,t,c⟩
   ·unfold Sy.f2fOk at c;rw [hd]at c;cases c
   ·rw [hd,om (by rfl)]at c;subst c;have e:Question.cut (.nanConv .f64 v) t=(t % 2)*9223372036854775808+9218868437227405312+1+(t/2) % 4503599627370495:=rfl;rw [e];have ha:t % 2<2:=qp _ oz;have hb:t/2 % 4503599627370495<4503599627370495:=qp _ oz;generalize t % 2=a at *
    generalize t/2 % 4503599627370495=b at *
    refine bad _ ?_ ?_
    ·rw [show (2:Nat)^64=18446744073709551616 from rfl];omega
    ·unfold bM;have e3:(a*9223372036854775808+9218868437227405312+1+b) / 2^52=a*2048+2047:=by
      rw [show (2:Nat)^52=4503599627370496 from rfl];omega
     rw [e3];omega
section
variable {k:World}{R:World→Value→Prop}{w v:Nat}
theorem aDp (h:v<2^32) (C:∀k' ds,Up k k'→RatV k' ds (nQ v) 1200→R k' (.tuple #[.agg ds,.int .i64 (if cS v<255 then 0 else 1)])) :
 Cl k 61 #[.float .f32 v] R:=by
 intro k0 u0;refine xF fun n hc=>?_;obtain⟨h1,h2,h3⟩:=rJ h hc;refine aOe h1 fun k1 ds u1 hd=>?_;rw [h3]at hd;have hd':=hd;obtain⟨g,A,n,c,D,d,e,rfl,_⟩:=hd';refine⟨_,_,_,_,_,_,_,_,rfl,fun k2 u2=>?_⟩;have:=C k2 _ (u0.trans (u1.trans u2)) (hd.up u2)
 by_cases g:cS v<255
 ·rw [om g]at this;rw [om (h2.2 g)];exact this
 ·rw [oh g]at this;rw [oh fun c=>g (h2.1 c)];exact this
end
