/- Several texts in one. (Printed by prep.py.) -/
import Derived.Test.YtjgnlflbgmnfaaaGreatBsNL
namespace Go.Proofs.YtjgnlflbgmnfaaaGreat
open Num Ieee FT
theorem aLh {X d S:Nat}(hd:0<d):half X (d*(2*S))=half (2*(X/d)+(if X % d=0 then 0 else 1)) (2*(2*S)):=by
 have h1:X/(d*(2*S))=X/d/(2*S):=(jj X d (2*S)).symm;have h2:X % (d*(2*S))=X % d+d*(X/d % (2*S)):=Nat.mod_mul;have hr:X % d<d:=qd _ hd;have h3:(2*(X/d)+(if X % d=0 then 0 else 1)) / (2*(2*S))=X/d/(2*S):=by
  rw [←jj]
  congr 1
  split <;> omega
 have h4:(2*(X/d)+(if X % d=0 then 0 else 1)) % (2*(2*S))=2*(X/d % (2*S))+(if X % d=0 then 0 else 1):=by
  rw [Nat.mod_mul];have e1:(2*(X/d)+(if X % d=0 then 0 else 1)) / 2=X/d:=by split <;> omega
  have e2:(2*(X/d)+(if X % d=0 then 0 else 1)) % 2=(if X % d=0 then 0 else 1):=by split <;> omega
  rw [e1,e2];omega
 unfold half;rw [h1,h2,h3,h4];generalize X/d/(2*S)=q;generalize X/d % (2*S)=m;generalize X % d=r at hr;have a1:decide (d*(2*S)<2*(r+d*m))=decide (2*(2*S)<2*(2*m+(if r=0 then 0 else 1))):=by
  apply decide_eq_decide.2;rw [show d*(2*S)=2*(d*S) by ac_rfl];rcases ko S m with g|g|g
  ·have:d*S+d≤d*m:=by
    have:=qk d (show S+1≤m from g)
    rwa [zu,jk]at this
   split <;> omega
  ·subst g;split <;> omega
  ·have:d*m+d≤d*S:=by
    have:=qk d (show m+1≤S from g)
    rwa [zu,jk]at this
   split <;> omega
 have a2:(d*(2*S) == 2*(r+d*m))=(2*(2*S) == 2*(2*m+(if r=0 then 0 else 1))):=by
  rw [xy,beq_iff_eq,beq_iff_eq];rw [show d*(2*S)=2*(d*S) by ac_rfl];rcases ko S m with g|g|g
  ·have:d*S+d≤d*m:=by
    have:=qk d (show S+1≤m from g)
    rwa [zu,jk]at this
   split <;> omega
  ·subst g;split <;> omega
  ·have:d*m+d≤d*S:=by
    have:=qk d (show m+1≤S from g)
    rwa [zu,jk]at this
   split <;> omega
 rw [a1,a2]
theorem vM {x y G:Nat}(h:x≤y):half x G≤half y G:=by
 have h1:x/G≤y/G:=Nat.div_le_div_right h;rcases zw (x/G) (y/G) with g|g
 ·exact qp (nY x G) (qp g (xL y G))
 ·have e:x/G=y/G:=xw h1 g;have h2:x % G≤y % G:=by
   have a:=qi x G;have b:=qi y G;rw [e]at a;omega
  unfold half;rw [e];refine Nat.add_le_add_left ?_ _;generalize x % G=r at *
  generalize y % G=t at *
  generalize (y/G % 2 == 1)=o
  by_cases c:G<2*t
  ·rw [decide_eq_true c,Bool.true_or];generalize (decide (G<2*r) || (G == 2*r && o))=b;cases b <;> decide
  ·have c2:¬ G<2*r:=oq
   rw [decide_eq_false c,decide_eq_false c2,yc,yc]
   by_cases d:G=2*r
   ·have:G=2*t:=oq
    rw [beq_iff_eq.2 d,beq_iff_eq.2 this];exact oy _
   ·rw [beq_eq_false_iff_ne.2 d,Bool.false_and];exact zx _
def bJ (G a d:Nat):Nat:=2*(a*2^G/d)+(if a*2^G % d=0 then 0 else 1)
def kQ (bits t c:Nat):Nat:=half c (2^max (bl c-bits) t)*2^max (bl c-bits) t
def eW (s:Bool) (beyond:Int) (G u:Nat):Nat:=
 if u=0 then 0 else if beyond+(G+1)<bl u then double.nearest s 1 5000 else double.nearest s u (-((G+1:Nat):Int))
theorem aKf {m k:Nat}(hm:m≠0):bl (m*2^k)=bl m+k:=by
 have hne:m*2^k≠0:=jn hm (by have:=od k;omega);unfold bl;rw [oh hm,oh hne,eH hm];omega
theorem aTc {m k:Nat}:k<bl m↔2^k≤m:=by
 have:=dA (n:=m) (k:=k);omega
theorem aKg {z:Nat}(h:z≠0) (b:Nat) (hb:b≤1):bl (2*z+b)=bl z+1:=by
 have h1:=eC z;have h2:=dZ h;have hb1:1≤bl z:=by unfold bl;rw [oh h];omega
 refine xw (dA.2 ?_) (aTc.2 ?_)
 ·rw [ql];omega
 ·rw [show bl z=bl z-1+1 by omega,ql];omega
theorem aNc {G a d t:Nat}(hd:d≠0) (ht:2≤t):aAv a d ((t:Int)-(G+1))=half (bJ G a d) (2^t):=by
 have key:aAv a d ((t:Int)-(G+1))=half (a*2^G) (d*(2*2^(t-2))):=by
  unfold aAv;have e2:2*2^(t-2)=2^(t-1):=by rw [oc,←ql];congr 1;omega
  rw [e2];generalize he:(t:Int)-(G+1)=e;have e3:a*2^G=a*2^(-e).toNat*2^(G-(-e).toNat):=by
   rw [qu,←ot];congr 2;omega
  have e4:d*2^(t-1)=d*2^e.toNat*2^(G-(-e).toNat):=by
   rw [qu,←ot];congr 2;omega
  rw [e3,e4,sT (od _)]
 rw [key,aLh oq]
 congr 1
 rw [show 2^t=2^(t-2+2) by congr 1;omega,ql,ql];omega
theorem aGo (G d:Nat):bJ G 0 d=0:=by unfold bJ;rw [ze,Nat.zero_div,Nat.zero_mod];rfl
theorem aLq {G a d bits:Nat}{least:Int}(ha:a≠0) (hd:d≠0) (hb:1≤bits) (hl:1≤least+G) :
 pJ a d bits least=((max (bl (bJ G a d)-bits) (least+G+1).toNat:Nat):Int)-(G+1):=by
 rw [aVk hd,show (if below2 a d ((bl a:Int)-bl d) then (bl a:Int)-bl d-1 else (bl a:Int)-bl d)=aBf a d from rfl];have h0:=aIa (a:=a) ha hd;have h1:below2 a d (aBf a d+1):=by
  unfold aBf;split
  ·rename_i h;rwa [show (bl a:Int)-bl d-1+1=(bl a:Int)-bl d by omega]
  ·exact sA hd
 by_cases hz:a*2^G/d=0
 ·have hlt:a*2^G<d:=by
   rcases Nat.div_eq_zero_iff.1 hz with h|h
   ·exact absurd h hd
   ·exact h
  have hc:bl (bJ G a d)≤1:=by
   unfold bJ;rw [hz];split <;> decide
  have ht:aBf a d < -(G:Int):=jp fun c=>h0 (by
   refine kT hd (e:=-(G:Int)) ?_ oq;unfold below2;rw [show (- -(G:Int)).toNat=G by omega,show (-(G:Int)).toNat=0 by omega,za,jk]
   exact hlt)
  omega
 ·have hc:bl (bJ G a d)=bl (a*2^G/d)+1:=by
   unfold bJ;split
   ·exact aKg hz 0 oz
   ·exact aKg hz 1 oz
  have g1:aBf a d+1≤(bl (a*2^G/d):Int)-G:=by
   refine jp fun c=>h0 (kT hd (e:=(bl (a*2^G/d):Int)-G) ?_ oq)
   have hq:=(mB (a:=a) (bits:=bl (a*2^G/d)) (f:=-(G:Int)) hd).1 (by
    unfold nE;rw [show (- -(G:Int)).toNat=G by omega,show (-(G:Int)).toNat=0 by omega,za,jk]
    exact oy _)
   rwa [show -(G:Int)+(bl (a*2^G/d):Nat)=(bl (a*2^G/d):Int)-G by omega]at hq
  have g2:(bl (a*2^G/d):Int)-G≤aBf a d+1:=by
   have hbz:1≤bl (a*2^G/d):=by unfold bl;rw [oh hz];omega
   refine jp fun c=>?_;have hq:=(mB (a:=a) (bits:=bl (a*2^G/d)-1) (f:=-(G:Int)) hd).2 (kT hd h1 oq);unfold nE at hq;rw [show (- -(G:Int)).toNat=G by omega,show (-(G:Int)).toNat=0 by omega,za,jk]at hq;omega
  omega
theorem aCs {s:Bool}{G a d bits:Nat}{least beyond:Int}(hd:d≠0) (hb:1≤bits) (hl:1≤least+G) (hlb:least≤beyond) :
 qG s a d bits least beyond=eW s beyond G (kQ bits (least+G+1).toNat (bJ G a d)):=by
 unfold qG eW kQ
 by_cases ha:a=0
 ·subst ha;rw [og rfl,aGo];have:half 0 (2^max (bl 0-bits) (least+G+1).toNat)=0:=by
   have:=sS (a:=0) (G:=2^max (bl 0-bits) (least+G+1).toNat) (od _)
   rwa [ze]at this
  rw [this,ze,og rfl]
 rw [oh ha];have el:=aLq (bits:=bits) (least:=least) ha hd hb hl;have em:uP a d bits least=half (bJ G a d) (2^max (bl (bJ G a d)-bits) (least+G+1).toNat):=by
  unfold uP;rw [el];exact aNc hd oq
 rw [el,em];have hz:half (bJ G a d) (2^max (bl (bJ G a d)-bits) (least+G+1).toNat)=0→max (bl (bJ G a d)-bits) (least+G+1).toNat=(least+G+1).toNat:=fun h=>by
  have h1:=xL (bJ G a d) (2^max (bl (bJ G a d)-bits) (least+G+1).toNat);rw [h]at h1;have h2:bJ G a d<2^max (bl (bJ G a d)-bits) (least+G+1).toNat:=by
   rcases Nat.div_eq_zero_iff.1 (Nat.le_zero.1 h1) with g|g
   ·have:=od (max (bl (bJ G a d)-bits) (least+G+1).toNat);omega
   ·exact g
  have h3:=dA.2 h2;omega
 generalize max (bl (bJ G a d)-bits) (least+G+1).toNat=t at *
 generalize half (bJ G a d) (2^t)=m at *
 by_cases hm:m=0
 ·subst hm;rw [ze,og rfl,og rfl];have h0:bl 0=0:=rfl;have:=hz rfl;rw [h0,oh oq]
 ·have hne:m*2^t≠0:=jn hm (by have:=od t;omega);rw [oh hm,oh hne,aKf hm];have e:double.nearest s (m*2^t) (-((G+1:Nat):Int))=double.nearest s m ((t:Int)-(G+1)):=by
   have:=fY (f:=double) (neg:=s) (m:=m) (k:=t) (p:=(t:Int)-(G+1)) hm
   rwa [show (t:Int)-(G+1)-(t:Nat)=-((G+1:Nat):Int) by omega]at this
  rw [e]
  by_cases c:beyond+(G+1)<((bl m+t:Nat):Int)
  ·rw [og oq,og c]
  ·rw [oh oq,oh c]
theorem yY {m n:Nat}(h:m≤n):bl m≤bl n:=dA.2 (qr h (eC n))
theorem zY {c t b:Nat}(h:c<2^b):half c (2^t)*2^t≤2^max b t:=by
 rcases zw b t with g|g
 ·have h1:c/2^t=0:=qo (ol h (ob oz oq));have h2:=nY c (2^t);rw [h1]at h2;have h3:=om (2^t) h2;rw [jw,jo]at h3;rw [Nat.max_eq_right oq];exact h3
 ·have h1:c/2^t<2^(b-t):=yj (by rw [←ot,show t+(b-t)=b by omega];exact h);have h2:=nY c (2^t);have h3:=om (2^t) (show half c (2^t)≤2^(b-t) by omega);rw [←ot,show b-t+t=b by omega]at h3;rw [Nat.max_eq_left g];exact h3
theorem aIp {bits t c c':Nat}(hb:1≤bits) (h:c≤c'):kQ bits t c≤kQ bits t c':=by
 have hbl:=yY h;unfold kQ
 by_cases e:max (bl c-bits) t=max (bl c'-bits) t
 ·rw [e];exact om _ (vM h)
 ·have h1:max (bl c'-bits) t=bl c'-bits:=oq
  have h2:max (bl c-bits) t<bl c'-bits:=oq
  rw [h1];have a:=zY (t:=max (bl c-bits) t) (eC c);have b:2^(bl c'-1)≤half c' (2^(bl c'-bits))*2^(bl c'-bits):=by
   have hne:c'≠0:=fun e=>by subst e;have:bl 0=0:=rfl;omega
   have h3:=dZ hne;have h4:2^(bl c'-1-(bl c'-bits))≤c' / 2^(bl c'-bits):=by
    rw [jr (od _),←ot,show bl c'-1-(bl c'-bits)+(bl c'-bits)=bl c'-1 by omega];exact h3
   have h5:=om (2^(bl c'-bits)) (qp h4 (xL c' (2^(bl c'-bits))))
   rwa [←ot,show bl c'-1-(bl c'-bits)+(bl c'-bits)=bl c'-1 by omega]at h5
  exact qp a (qp (ob oz oq) b)
theorem uX {G a d a' d':Nat}(hd:0<d) (hd':0<d') (h:a*d'≤a'*d):bJ G a d≤bJ G a' d':=by
 have h1:a*2^G*d'≤a'*2^G*d:=by
  rw [Nat.mul_right_comm,Nat.mul_right_comm a'];exact om _ h
 unfold bJ;generalize a*2^G=X at *
 generalize a'*2^G=Y at *
 have hx:=qi X d;have hy:=qi Y d';have hr:=qd X hd;have hr':=qd Y hd';have h2:X/d≤Y/d':=by
  rw [jr hd'];have h3:X/d*d'*d≤Y*d:=by
   refine qp ?_ h1;rw [Nat.mul_right_comm];exact om _ (zb X d)
  exact Nat.le_of_mul_le_mul_right h3 hd
 rcases zw (X/d) (Y/d') with g|g
 ·split <;> split <;> omega
 ·have e:X/d=Y/d':=xw h2 g
  by_cases c:Y % d'=0
  ·have hc:X % d=0:=by
    rw [c,zv,←e]at hy;rw [←hx,←hy]at h1;generalize X/d=q at *
    rw [jf,qu,oc (d'*q) d,←qu,←qu]at h1;have e2:d*q*d'=d*d'*q:=by ac_rfl
    rw [e2]at h1;have h4:X % d*d'=0:=oq
    rcases Nat.mul_eq_zero.1 h4 with z|z
    ·exact z
    ·omega
   rw [og hc,og c];omega
  ·rw [oh c];split <;> omega
open Num Ieee FT Plain
theorem aEj:bl 0=0:=rfl
def InF (G u:Nat):Prop:=∃m p,Has double m p∧-((G+1:Nat):Int)≤p∧u=m*2^(p+(G+1:Nat)).toNat
def Img (b:Int) (G u:Nat):Prop:=u=0∨(u≠0∧b+(G+1)<bl u)∨(u≠0∧¬ b+(G+1)<bl u∧InF G u)
theorem aNh {G bits t c:Nat}{b:Int}(hbits:bits≤53) (hb:b≤1024) (hG:1074≤G) (ht:(G:Int)+1-1074≤t):Img b G (kQ bits t c):=by
 by_cases h0:kQ bits t c=0
 ·exact .inl h0
 refine .inr ?_
 by_cases h1:b+(G+1)<bl (kQ bits t c)
 ·exact .inl ⟨h0,h1⟩
 refine .inr ⟨h0,h1,?_⟩;unfold kQ at *
 have hm:half c (2^max (bl c-bits) t)≤2^53:=by
  have a:=nY c (2^max (bl c-bits) t)
  have b:c/2^max (bl c-bits) t<2^bits:=yj (by
   rw [←ot]
   exact ol (eC c) (ob oz oq))
  have d:2^bits≤2^53:=ob oz hbits;omega
 have ht2:t≤max (bl c-bits) t:=uj _ _;generalize max (bl c-bits) t=w at *
 generalize half c (2^w)=m at *
 have hm0:m≠0:=fun e=>h0 (by rw [e,ze]);rw [aKf hm0]at h1;rcases zw m (2^53) with g|g
 ·refine⟨m,(w:Int)-(G+1:Nat),zZ hm0 g oq oq,oq,?_⟩;rw [show ((w:Int)-(G+1:Nat)+(G+1:Nat)).toNat=w by omega]
 ·have e:m=2^53:=xw hm g;subst e;have hl:bl (2^53)=54:=by decide +kernel
  rw [hl]at h1;have h11:bl 1=1:=by decide +kernel
  refine⟨1,(w:Int)+53-(G+1:Nat),zZ oz oz oq (by rw [h11];omega),oq,?_⟩;rw [show ((w:Int)+53-(G+1:Nat)+(G+1:Nat)).toNat=53+w by omega,jo,ot]
theorem InF.read {G u:Nat}(h:InF G u) (hG:1074≤G) (s:Bool):∃M i,double.read (double.nearest s u (-((G+1:Nat):Int)))=.number s M i∧M≠0∧-((G+1:Nat):Int)≤i∧u=M*2^(i+(G+1:Nat)).toNat:=by
 obtain⟨m,p,h,hp,rfl⟩:=h;have hle:=h.last_le;have hlow:(-1074:Int)≤last double m p:=Int.le_max_right _ _;refine⟨m*2^(p-last double m p).toNat,last double m p,?_,jn h.ne (yz (od _)),oq,?_⟩
 ·have e:double.nearest s (m*2^(p+(G+1:Nat)).toNat) (-((G+1:Nat):Int))=double.nearest s m p:=by
   have:=fY (f:=double) (neg:=s) (m:=m) (k:=(p+(G+1:Nat)).toNat) (p:=p) h.ne
   rwa [show p-((p+(G+1:Nat)).toNat:Nat)=-((G+1:Nat):Int) by omega]at this
  rw [e];exact h.read bV
 ·rw [qu,←ot]
  congr 2
  omega
theorem dD:double.read 0=.number false 0 (-1074):=by decide +kernel
theorem dC (s:Bool):double.read (double.nearest s 1 5000)=.infinity s:=by cases s <;> decide +kernel
theorem wS {b:Int}{G u u':Nat}{s s':Bool}(hG:1074≤G) (h:Img b G u) (h':Img b G u') (e:eW s b G u=eW s' b G u') :
 (u=0∧u'=0)∨(u≠0∧u'≠0∧s=s'∧((b+(G+1)<bl u∧b+(G+1)<bl u')∨u=u')):=by
 unfold eW at e;rcases h with h|⟨h,g⟩|⟨h,g,i⟩ <;> rcases h' with h'|⟨h',g'⟩|⟨h',g',i'⟩
 ·exact .inl ⟨h,h'⟩
 ·rw [og h,oh h',og g']at e;have:=congrArg double.read e;rw [dD,dC]at this;cases this
 ·rw [og h,oh h',oh g']at e;obtain⟨M,j,r,hM,_⟩:=i'.read hG s';have:=congrArg double.read e;rw [dD,r]at this;injection this with _ a;exact absurd a.symm hM
 ·rw [og h',oh h,og g]at e;have:=congrArg double.read e;rw [dD,dC]at this;cases this
 ·rw [oh h,oh h',og g,og g']at e;have:=congrArg double.read e;rw [dC,dC]at this;injection this with a;exact .inr ⟨h,h',a,.inl ⟨g,g'⟩⟩
 ·rw [oh h,oh h',og g,oh g']at e;obtain⟨M,j,r,hM,_⟩:=i'.read hG s';have:=congrArg double.read e;rw [dC,r]at this;cases this
 ·rw [og h',oh h,oh g]at e;obtain⟨M,j,r,hM,_⟩:=i.read hG s;have:=congrArg double.read e;rw [dD,r]at this;injection this with _ a;exact absurd a hM
 ·rw [oh h,oh h',oh g,og g']at e;obtain⟨M,j,r,hM,_⟩:=i.read hG s;have:=congrArg double.read e;rw [dC,r]at this;cases this
 ·rw [oh h,oh h',oh g,oh g']at e;obtain⟨M,j,r,hM,_,eu⟩:=i.read hG s;obtain⟨M',j',r',hM',_,eu'⟩:=i'.read hG s';have:=congrArg double.read e;rw [r,r']at this;injection this with a1 a2 a3;exact .inr ⟨h,h',a1,.inr (by rw [eu,eu',a2,a3])⟩
theorem aQf (z:Int):(some (compare z z) == some Ordering.eq)=true:=by rw [show compare z z=Ordering.eq from by simp [compare,compareOfLessAndEq]];rfl
theorem mW {x y:Int}(h:(some (compare x y) == some Ordering.eq)=true):x=y:=by
 simp only [compare,compareOfLessAndEq]at h
 by_cases a:x<y
 ·rw [og a]at h;cases h
 ·rw [oh a]at h
  by_cases c:x=y
  ·exact c
  ·rw [oh c]at h;cases h
theorem tF {w:Nat}(h:∀s t,double.read w≠.nan s t):(double.order w w == some Ordering.eq)=true:=by
 unfold Format.order;generalize double.read w=d at h;cases d with
 | nan s t=>exact absurd rfl (h s t)
 | infinity s=>unfold Datum.order;cases s <;> rfl
 | number s m i=>exact aQf _
theorem aCy {b:Int}{G u u':Nat}{s s':Bool}(hG:1074≤G) (h:Img b G u) (h':Img b G u') :
 (double.order (eW s b G u) (eW s' b G u') == some Ordering.eq)=decide (eW s b G u=eW s' b G u'):=by
 by_cases e:eW s b G u=eW s' b G u'
 ·rw [←e,decide_eq_true rfl];refine tF ?_;unfold eW;rcases h with h|⟨h,g⟩|⟨h,g,i⟩
  ·rw [og h,dD];intro _ _ c;cases c
  ·rw [oh h,og g,dC];intro _ _ c;cases c
  ·obtain⟨M,j,r,hM,_⟩:=i.read hG s;rw [oh h,oh g,r];intro _ _ c;cases c
 ·rw [decide_eq_false e];refine Bool.eq_false_iff.2 fun o=>e ?_;unfold eW at o ⊢;unfold Format.order at o;rcases h with h|⟨h,g⟩|⟨h,g,i⟩ <;> rcases h' with h'|⟨h',g'⟩|⟨h',g',i'⟩
  ·rw [og h,og h']
  ·rw [og h,oh h',og g',dD,dC]at o;cases s' <;> cases o
  ·obtain⟨M,j,r,hM,_⟩:=i'.read hG s';rw [og h,oh h',oh g',dD,r]at o;have o:_=_:=mW o;exfalso;unfold signed at o;simp only [vj,ze]at o;have p1:=jn hM (yz (od (j-min (-1074) j).toNat));generalize M*2^(j-min (-1074) j).toNat=x at o p1;clear h h' e g' r;cases s' <;> simp at o <;> omega
  ·rw [oh h,og h',og g,dD,dC]at o;cases s <;> cases o
  ·rw [oh h,oh h',og g,og g',dC,dC]at o;rw [oh h,oh h',og g,og g'];cases s <;> cases s' <;> first|rfl|cases o
  ·obtain⟨M,j,r,hM,_⟩:=i'.read hG s';rw [oh h,oh h',og g,oh g',dC,r]at o;cases s <;> cases o
  ·obtain⟨M,j,r,hM,_⟩:=i.read hG s;rw [oh h,og h',oh g,dD,r]at o;have o:_=_:=mW o;exfalso;unfold signed at o;simp only [vj,ze]at o;have p1:=jn hM (yz (od (j-min j (-1074)).toNat));generalize M*2^(j-min j (-1074)).toNat=x at o p1;clear h h' e g r;cases s <;> simp at o <;> omega
  ·obtain⟨M,j,r,hM,_⟩:=i.read hG s;rw [oh h,oh h',oh g,og g',dC,r]at o;cases s' <;> cases o
  ·obtain⟨M,j,r,hM,hj,eu⟩:=i.read hG s;obtain⟨M',j',r',hM',hj',eu'⟩:=i'.read hG s';rw [oh h,oh h',oh g,oh g',r,r']at o;have o:_=_:=mW o;rw [oh h,oh h',oh g,oh g'];unfold signed at o;simp only [vj]at o;have p1:=jn hM (show 2^(j-min j j').toNat≠0 by have:=od (j-min j j').toNat;omega);have p2:=jn hM' (show 2^(j'-min j j').toNat≠0 by have:=od (j'-min j j').toNat;omega);have key:s=s'∧M*2^(j-min j j').toNat=M'*2^(j'-min j j').toNat:=by
    generalize M*2^(j-min j j').toNat=x at o p1;generalize M'*2^(j'-min j j').toNat=y at o p2;cases s <;> cases s' <;> simp at o ⊢ <;> omega
   obtain⟨rfl,k2⟩:=key;have:u=u':=by
    rw [eu,eu',show (j+(G+1:Nat)).toNat=(j-min j j').toNat+(min j j'+(G+1:Nat)).toNat by omega,show (j'+(G+1:Nat)).toNat=(j'-min j j').toNat+(min j j'+(G+1:Nat)).toNat by omega,ot,ot,←qu,←qu,k2]
   rw [this]
theorem wT {b:Int}{G u u' u'':Nat}{s:Bool}(hG:1074≤G) (h:Img b G u) (h'':Img b G u'') (a:u≤u') (c:u'≤u'') (e:eW s b G u=eW s b G u''):eW s b G u'=eW s b G u:=by
 rcases wS hG h h'' e with ⟨h1,h2⟩|⟨h1,h2,_,⟨h3,h4⟩|h3⟩
 ·rw [show u'=u by omega]
 ·have:=yY a;unfold eW;rw [oh h1,oh oq,og h3,og oq]
 ·rw [show u'=u by omega]
def dM (q:Rat) (bits:Nat) (least beyond:Int):Nat:=qG (decide (q.num<0)) q.num.natAbs q.den bits least beyond
section
variable {lo hi x:Rat}{bits:Nat}{least beyond:Int}
structure Fmt (bits:Nat) (least beyond:Int):Prop where
 one:1≤bits
 bits:bits≤53
 low:-1074≤least
 top:beyond≤1024
 mid:least≤beyond
theorem nW:Fmt 53 (-1074) 1024:=⟨oz,oz,oz,oz,oz⟩
def uQ (q:Rat) (bits:Nat) (least:Int):Nat:=kQ bits (least+(1075:Nat)+1).toNat (bJ 1075 q.num.natAbs q.den)
theorem fI (F:Fmt bits least beyond) (q:Rat):dM q bits least beyond=eW (decide (q.num<0)) beyond 1075 (uQ q bits least):=
 aCs q.den_nz F.one (by have:=F.low;omega) F.mid
theorem kJ (F:Fmt bits least beyond) (q:Rat):Img beyond 1075 (uQ q bits least):=aNh F.bits F.top oz (by have:=F.low;omega)
theorem mI (F:Fmt bits least beyond) (h:lo.num.natAbs*hi.den≤hi.num.natAbs*lo.den):uQ lo bits least≤uQ hi bits least:=aIp F.one (uX lo.den_pos hi.den_pos h)
theorem rX {x y:Rat}(h:x≤y) (h0:0≤x.num):x.num.natAbs*y.den≤y.num.natAbs*x.den:=by
 have h1:=(Rat.le_iff x y).1 h;have hd:=y.den_pos;have h2:0≤y.num:=by
  have:0≤x.num*y.den:=Int.mul_nonneg h0 oq;refine jp fun c=>?_;have:=Int.mul_neg_of_neg_of_pos (show y.num<0 by omega) (show (0:Int)<x.den by have:=x.den_pos;omega);omega
 have e1:x.num=(x.num.natAbs:Int):=oq
 have e2:y.num=(y.num.natAbs:Int):=oq
 rw [e1,e2]at h1
 exact_mod_cast h1
theorem jO {x y:Rat}(h:x≤y) (h0:y.num≤0):y.num.natAbs*x.den≤x.num.natAbs*y.den:=by
 have:=rX (Rat.neg_le_neg h) (by rw [Rat.neg_num];omega)
 rwa [Rat.neg_num,Rat.neg_num,Rat.neg_den,Rat.neg_den,Int.natAbs_neg,Int.natAbs_neg]at this
theorem lW {x y:Rat}(h:x≤y) (h0:0≤x.num):0≤y.num:=wm.2 (Rat.le_trans (wm.1 h0) h)
theorem aHu (F:Fmt bits least beyond) (h1:lo≤x) (h2:x≤hi) (e:dM lo bits least beyond=dM hi bits least beyond):dM x bits least beyond=dM lo bits least beyond:=by
 rw [fI F,fI F]at e;rw [fI F,fI F]
 by_cases a:0≤lo.num
 ·have b:=lW h1 a;have c:=lW h2 b;rw [decide_eq_false (show ¬ lo.num<0 by omega),decide_eq_false (show ¬ hi.num<0 by omega)]at e;rw [decide_eq_false (show ¬ lo.num<0 by omega),decide_eq_false (show ¬ x.num<0 by omega)];exact wT oz (kJ F lo) (kJ F hi) (mI F (rX h1 a)) (mI F (rX h2 b)) e
 ·by_cases c:0≤hi.num
  ·rw [decide_eq_true (show lo.num<0 by omega),decide_eq_false (show ¬ hi.num<0 by omega)]at e;rcases wS oz (kJ F lo) (kJ F hi) e with ⟨z1,z2⟩|⟨_,_,z,_⟩
   ·have:uQ x bits least=0:=by
     by_cases b:0≤x.num
     ·have:=mI F (rX h2 b);omega
     ·have:=mI F (jO h1 oq);omega
    rw [this,z1];rfl
   ·cases z
  ·have b:x.num<0:=jp fun g=>c (lW h2 oq);rw [decide_eq_true (show lo.num<0 by omega),decide_eq_true (show hi.num<0 by omega)]at e;rw [decide_eq_true (show lo.num<0 by omega),decide_eq_true b];have:=wT oz (kJ F hi) (kJ F lo) (mI F (jO h2 oq)) (mI F (jO h1 oq)) e.symm;rw [this,e]
theorem aAi (F:Fmt bits least beyond) (x y:Rat):(double.order (dM x bits least beyond) (dM y bits least beyond) == some Ordering.eq)=decide (dM x bits least beyond=dM y bits least beyond):=by
 rw [fI F,fI F];exact aCy oz (kJ F x) (kJ F y)
theorem uY {G a d a' d':Nat}(hd:0<d) (hd':0<d') (h:a*d'≤a'*d) (hz:a'*2^G/d'*d<a*2^G):bJ G a d=bJ G a' d':=by
 have h1:=uX (G:=G) hd hd' h;refine xw h1 ?_;unfold bJ;generalize a*2^G=X at *
 generalize a'*2^G/d'=z at *
 have h2:z≤X/d:=(jr hd).2 oq;have hx:=qi X d;rcases zw z (X/d) with g|g
 ·split <;> split <;> omega
 ·have e:z=X/d:=xw h2 g;have:X % d≠0:=fun c=>by
   rw [c,zv,←e,oc]at hx;omega
  rw [oh this];split <;> omega
theorem zW (q:Rat) (G:Nat):q*((2^G:Nat):Rat)*(q.den:Rat)=((q.num*((2^G:Nat):Int):Int):Rat):=by
 rw [yy,Rat.mul_comm ((2^G:Nat):Rat),←yy,dV,jc];rfl
theorem zV (q:Rat) (z:Int):(z:Rat)*(q.den:Rat)=((z*(q.den:Int):Int):Rat):=by
 rw [jc];rfl
theorem xJ {q:Rat}{z:Int}{G:Nat}(h:¬ (z:Rat) / ((2^G:Nat):Rat)≤q):q.num*((2^G:Nat):Int)<z*q.den:=by
 have hp:(0:Rat)<((2^G:Nat):Rat):=ji.2 (od G);have hd:(0:Rat)<(q.den:Rat):=ji.2 q.den_pos;have h1:=(vm hd).2 ((Rat.lt_div_iff hp).1 (uy.1 h));rw [zW,zV]at h1;exact Rat.intCast_lt_intCast.1 h1
theorem xK {q:Rat}{z:Int}{G:Nat}(h:¬ q≤(z:Rat) / ((2^G:Nat):Rat)):z*q.den<q.num*((2^G:Nat):Int):=by
 have hp:(0:Rat)<((2^G:Nat):Rat):=ji.2 (od G);have hd:(0:Rat)<(q.den:Rat):=ji.2 q.den_pos;have h1:=(vm hd).2 ((Rat.div_lt_iff hp).1 (uy.1 h));rw [zW,zV]at h1;exact Rat.intCast_lt_intCast.1 h1
theorem cR (a b:Nat):((a:Int)*(b:Int))=((a*b:Nat):Int):=(vu a b).symm
theorem aCr (F:Fmt bits least beyond) (h:lo≤hi) (hno:∀z:Int,lo≤(z:Rat) / ((2^1075:Nat):Rat)→(z:Rat) / ((2^1075:Nat):Rat)≤hi→False) :
 dM lo bits least beyond=dM hi bits least beyond:=by
 rw [fI F,fI F];unfold uQ;generalize (1075:Nat)=G at *
 have hl:=lo.den_pos;have hh:=hi.den_pos
 by_cases a:0≤lo.num
 ·have b:=lW h a;have hab:=rX h a;have e1:hi.num=(hi.num.natAbs:Int):=oq
  have e2:lo.num=(lo.num.natAbs:Int):=oq
  rw [decide_eq_false (show ¬ lo.num<0 by omega),decide_eq_false (show ¬ hi.num<0 by omega)];have key:(hi.num.natAbs*2^G/hi.den)*lo.den<lo.num.natAbs*2^G:=by
   have g:((hi.num.natAbs*2^G/hi.den:Nat):Int)*lo.den<lo.num*((2^G:Nat):Int):=xK fun c=>hno _ c (jp fun c2=>by
    have:=xJ c2;have h3:=zb (hi.num.natAbs*2^G) hi.den;generalize hi.num.natAbs=n at *
    rw [e1,cR,cR]at this
    omega)
   generalize lo.num.natAbs=n at *
   rw [e2,cR,cR]at g;omega
  rw [uY hl hh hab key]
 ·by_cases b:0≤hi.num
  ·exact (hno 0 (jp fun c=>by
    have:=xK c;have:=Int.mul_neg_of_neg_of_pos (show lo.num<0 by omega) (show (0:Int)<((2^G:Nat):Int) by have:=od G;omega)
    omega) (jp fun c=>by
    have:=xJ c;have:=Int.mul_nonneg b (show (0:Int)≤((2^G:Nat):Int) from Int.natCast_nonneg _)
    omega)).elim
  ·have hab:=jO h oq;have e1:hi.num=-(hi.num.natAbs:Int):=oq
   have e2:lo.num=-(lo.num.natAbs:Int):=oq
   rw [decide_eq_true (show lo.num<0 by omega),decide_eq_true (show hi.num<0 by omega)];have key:(lo.num.natAbs*2^G/lo.den)*hi.den<hi.num.natAbs*2^G:=by
    have g:hi.num*((2^G:Nat):Int) < -((lo.num.natAbs*2^G/lo.den:Nat):Int)*hi.den:=xJ fun c=>hno _ (jp fun c2=>by
     have:=xK c2;have h3:=zb (lo.num.natAbs*2^G) lo.den;generalize lo.num.natAbs=n at *
     rw [e2,wv,wv,cR,cR]at this
     omega) c
    generalize hi.num.natAbs=n at *
    rw [e1,wv,wv,cR,cR]at g;omega
   rw [uY hh hl hab key]
end
def zO (s:Bool) (m:Nat) (p:Int):Rat:=mkRat (sgn s (m*2^p.toNat)) (2^(-p).toNat)
theorem aJd {s:Bool}{M:Nat}(h:M≠0):decide (sgn s M<0)=s:=by
 unfold sgn;cases s <;> simp <;> omega
def bF (w:Nat):Nat:=w/2^52 % 2048
def eS (w:Nat):Nat:=w % 2^52
def cC (w:Nat):Bool:=w/2^63 == 1
def cY (w:Nat):Nat:=if bF w=0 then eS w else 2^52+eS w
def iK (w:Nat):Int:=(max (bF w) 1:Nat)-1075
theorem mD (w:Nat):w % 2^63=bF w*2^52+eS w:=by
 unfold bF eS;omega
theorem rV {w:Nat}(h:w<2^64):w=double.word (cC w) (w % 2^63):=by
 unfold Format.word cC;have es:double.signWeight=2^63:=rfl;have hd:w/2^63<2:=yj h;have hw:=qi w (2^63);rw [es];rcases zw (w/2^63) 1 with g|g
 ·have e:w/2^63=0:=oq
  rw [e]at hw ⊢;rw [show ((0:Nat) == 1)=false from rfl,oh oz];omega
 ·have e:w/2^63=1:=oq
  rw [e]at hw ⊢;rw [show ((1:Nat) == 1)=true from rfl,og rfl];omega
theorem jS (w:Nat):eS w<2^52:=qd _ (od 52)
theorem aCe (w:Nat):bF w<2048:=qd _ oz
theorem aSa (w:Nat):w % 2^63<double.signWeight:=qd _ (od 63)
theorem nG {w:Nat}(h:w<2^64):double.read w=if bF w<2047 then .number (cC w) (cY w) (iK w) else if eS w=0 then .infinity (cC w) else .nan (cC w) (eS w):=by
 have hc:=jS w;have he:=aCe w;have key:double.read (double.word (cC w) (w % 2^63))=_:=wK (aSa w);rw [←rV h]at key;rw [key,mD];have eb:double.binade=2^52:=rfl;have ei:double.infRung=2047*2^52:=rfl;have el:double.leastPlace=-1074:=rfl;rw [eb,ei,el];unfold cY iK;generalize eS w=c at *
 generalize bF w=E at *
 generalize cC w=s
 by_cases g:E=0
 ·subst g;rw [og oq,og oz,og rfl]
  congr 1
  omega
 ·have d1:(E*2^52+c) / 2^52=E:=by
   rw [zr,Nat.add_mul_div_right _ _ (od 52),qo hc,jw]
  have d2:(E*2^52+c) % 2^52=c:=by
   rw [zr,wh,oo hc]
  rw [oh oq]
  by_cases g2:E<2047
  ·rw [og oq,og g2,oh g,d1,d2]
   congr 1
   omega
  ·have e:E*2^52=2047*2^52:=by
    have:E=2047:=oq
    rw [this]
   have n1:¬ E*2^52+c<2047*2^52:=by rw [e];exact Nat.not_lt.2 (ww _ _)
   rw [oh n1,oh g2]
   by_cases g3:c=0
   ·have n2:E*2^52+c=2047*2^52:=by rw [e,g3,zv]
    rw [og n2,og g3]
   ·have n2:¬ E*2^52+c=2047*2^52:=fun h=>g3 (by rw [e]at h;exact Nat.add_left_cancel (h.trans (zv _).symm));rw [oh n2,oh g3];have n3:E*2^52+c-2047*2^52=c:=by rw [e,Nat.add_sub_cancel_left]
    rw [n3]
theorem aJm {w:Nat}(h:w<2^64) (hE:bF w<2047) (hm:cY w≠0):w=double.nearest (cC w) (cY w) (iK w)∧Has double (cY w) (iK w):=by
 have hc:=jS w;have hw:=rV h;rw [mD]at hw;unfold cY iK at *
 generalize eS w=c at *
 generalize bF w=E at *
 generalize cC w=s at *
 have eb:double.binade=2^52:=rfl;have ei:double.infRung=2047*2^52:=rfl;have el:double.leastPlace=-1074:=rfl
 by_cases g:E=0
 ·subst g;rw [og rfl]at hm ⊢;have hl:c.log2<52:=(vp hm).2 hc;have hlast:last double c (((max 0 1:Nat):Int)-1075)=-1074:=by
   unfold last;show max (_-((52:Nat):Int)) (-1074)=_;omega
  refine⟨?_,hm,xh hc oz,by show (-1074:Int)≤_;omega,by show _+_-52 - -1074+3≤2048;omega⟩;rw [eO hm,hlast,el,eb,ei];rw [show (((max 0 1:Nat):Int)-1075 - -1074).toNat=0 by omega,show (-1074-(((max 0 1:Nat):Int)-1075)).toNat=0 by omega,show ((-1074:Int) - -1074).toNat=0 by omega,ze,wn,jB,Nat.min_eq_left oq]
  rwa [ze]at hw
 ·rw [oh g]at hm ⊢;have hl:(2^52+c).log2=52:=by
   have a:(2^52+c).log2<53:=(vp hm).2 oq;have b:52≤(2^52+c).log2:=(Nat.le_log2 hm).2 oq;omega
  have hlast:last double (2^52+c) (((max E 1:Nat):Int)-1075)=(E:Int)-1075:=by
   unfold last;rw [hl];show max (_-((52:Nat):Int)) (-1074)=_;omega
  refine⟨?_,hm,by show 2^52+c<2^53;omega,by show (-1074:Int)≤_;omega,by rw [hl];show _+_-52 - -1074+3≤2048;omega⟩;rw [eO hm,hlast,el,eb,ei];rw [show (((max E 1:Nat):Int)-1075-((E:Int)-1075)).toNat=0 by omega,show ((E:Int)-1075-(((max E 1:Nat):Int)-1075)).toNat=0 by omega,show ((E:Int)-1075 - -1074).toNat=E-1 by omega,wn,jB,Nat.min_eq_left oq];rw [show (E-1)*2^52+(2^52+c)=E*2^52+c by omega];exact hw
def grW (w:Nat):Nat:=cY w*2^(max (bF w) 1+1)
theorem zU {w:Nat}(h:bF w<2047):grW (w+1)=grW w+2^(max (bF w) 1+1):=by
 have hc:=jS w;have p52:(2:Nat)^52=4503599627370496:=rfl
 by_cases g:eS w+1<2^52
 ·have e1:bF (w+1)=bF w:=by unfold bF eS at *;omega
  have e2:eS (w+1)=eS w+1:=by unfold eS at *;omega
  unfold grW cY;rw [e1,e2];split
  ·rw [xl]
  ·rw [←yu,xl]
 ·have e1:bF (w+1)=bF w+1:=by unfold bF eS at *;omega
  have e2:eS (w+1)=0:=by unfold eS at *;omega
  have e3:eS w=2^52-1:=oq
  unfold grW cY;rw [e1,e2,e3,oh oq]
  by_cases z:bF w=0
  ·rw [og z,z];rfl
  ·have e4:2^(max (bF w+1) 1+1)=2^(max (bF w) 1+1)*2:=by
    rw [show max (bF w+1) 1+1=(max (bF w) 1+1)+1 by omega,ql]
   rw [oh z,e4];generalize 2^(max (bF w) 1+1)=P;omega
theorem vN {c T:Nat}(hT:0<T):2*(half c T*T)≤2*c+T∧2*c≤2*(half c T*T)+T:=by
 have e:=qi c T;have hm:=qd c hT;unfold half;generalize c/T=q at *
 generalize c % T=r at *
 have e':T*q=q*T:=oc _ _;rw [e']at e
 by_cases b:(decide (T<2*r) || (T == 2*r && q % 2 == 1))=true
 ·rw [b];simp only [vv,decide_eq_true_eq,jv,beq_iff_eq]at b;rw [show (true.toNat)=1 from rfl,jf,jo];generalize q*T=z at *
  omega
 ·have b':=Bool.eq_false_iff.2 b;rw [b'];simp only [vv,decide_eq_true_eq,jv,beq_iff_eq,not_or]at b;rw [show (false.toNat)=0 from rfl,zv];generalize q*T=z at *
  omega
theorem aAw {bits t c:Nat}(hb:1≤bits):∃k M,kQ bits t c=M*2^k∧t≤k∧2*(M*2^k)≤2*c+2^k∧2*c≤2*(M*2^k)+2^k∧M≤2^bits∧(t<k→2^(bits-1)*2^k≤c):=by
 refine⟨max (bl c-bits) t,half c (2^max (bl c-bits) t),rfl,uj _ _,(vN (od _)).1,(vN (od _)).2,?_,fun h=>?_⟩
 ·have hlt:c<2^bl c:=eC c;have h2:c≤2^bits*2^max (bl c-bits) t:=by
   rw [←ot];exact yv (ol hlt (ob oz oq))
  have:=vM (G:=2^max (bl c-bits) t) h2;refine qp this (Nat.le_of_eq ?_);unfold half;rw [yl _ (od _),Nat.mul_mod_left];have:=od (max (bl c-bits) t)
  rw [show (decide (2^max (bl c-bits) t<2*0) || (2^max (bl c-bits) t == 2*0 && 2^bits % 2 == 1))=false by
   rw [Bool.or_eq_false_iff];refine⟨decide_eq_false oq,?_⟩
   rw [show (2^max (bl c-bits) t == 2*0)=false from beq_eq_false_iff_ne.2 oq,Bool.false_and]]
  rfl
 ·have hk:max (bl c-bits) t=bl c-bits:=oq
  rw [hk,←ot];have:bits-1+(bl c-bits)<bl c:=oq
  exact aTc.1 this
theorem aRp {c w:Nat}(hu:grW w=kQ 53 2 c):2*c≤2*grW w+2^(max (bF w) 1+1):=by
 obtain⟨k,M,e,hk,h1,h2,h3,h4⟩:=aAw (bits:=53) (t:=2) (c:=c) oz;rw [hu,e];rw [e]at hu
 by_cases g:k≤max (bF w) 1+1
 ·have:=ob (n:=2) oz g;omega
 ·exfalso;have hc:=h4 oq;have hm:cY w<2^53:=by
   unfold cY;have:=jS w;split
   ·exact xh this oz
   ·have:(2:Nat)^53=2^52+2^52:=rfl;omega
  have hlt:M*2^k<2^53*2^(max (bF w) 1+1):=by
   rw [←hu];unfold grW;exact jq hm (od _)
  have hle:2^53*2^(max (bF w) 1+1)≤2^52*2^k:=by
   rw [←ot,←ot];exact ob oz oq
  have hM:M<2^52:=Nat.lt_of_mul_lt_mul_right (ol hlt hle);have hM1:=om (2^k) (Nat.succ_le_of_lt hM);rw [xl]at hM1;have hp:=od k;rw [show 53-1=52 from rfl]at hc;generalize 2^52*2^k=z at *
  omega
theorem aRm {c w:Nat}(hE:bF w<2047) (hu:grW (w+1)=kQ 53 2 c):2*grW (w+1)≤2*c+2^(max (bF w) 1+1):=by
 obtain⟨k,M,e,hk,h1,h2,h3,h4⟩:=aAw (bits:=53) (t:=2) (c:=c) oz
 by_cases g:k≤max (bF w) 1+1
 ·have:=ob (n:=2) oz g;rw [hu,e];omega
 ·have hc:=h4 oq;rw [show 53-1=52 from rfl]at hc;have hm:cY w+1≤2^53:=by
   unfold cY;have:=jS w;split
   ·exact qp this oz
   ·have:(2:Nat)^53=2^52+2^52:=rfl;omega
  have hle:2^53*2^(max (bF w) 1+1)≤2^52*2^k:=by
   rw [←ot,←ot];exact ob oz oq
  have:=om (2^(max (bF w) 1+1)) hm;rw [xl]at this;rw [zU hE];unfold grW;omega
theorem xD {G a d v:Nat}(hd:0<d) (h:bJ G a d≤2*v):a*2^G≤v*d:=by
 unfold bJ at h;have e:=qi (a*2^G) d;have hm:=qd (a*2^G) hd;generalize a*2^G=x at *
 by_cases g:x % d=0
 ·rw [og g]at h;have:=om d (show x/d≤v by omega);rw [oc]at e;omega
 ·rw [oh g]at h;have:=om d (show x/d+1≤v by omega);rw [xl]at this;rw [oc]at e;omega
theorem xC {G a d v:Nat}(h:2*v≤bJ G a d):v*d≤a*2^G:=by
 unfold bJ at h;have h2:v≤a*2^G/d:=by
  split at h <;> omega
 exact qp (om d h2) (zb _ _)
open Go.RowKit
open Value (agg slice int bool tuple)
open Sy (Up Sees CallsG Seg execFn_use)
set_option maxRecDepth 100000
variable {k:World}{R:World→Value→Prop}
end Go.Proofs.YtjgnlflbgmnfaaaGreat

namespace Go.Proofs.YtjgnlflbgmnfaaaGreat
open IntKind (wrap)
open Go.RowKit Num Ieee FT
open Sy (Up Sees CallsG Seg)
namespace FT
theorem aId {x y:Nat}{s:Bool}{t:Nat}(hx:double.read x=.nan s t):double.order x y=none:=by
 unfold Format.order;rw [hx];unfold Datum.order;rfl
theorem fdiv52 {w:Nat}:Int.fdiv ((w:Nat):Int) (2^(min (Int.toNat 52) (IntKind.bits .u64)))=((w/2^52:Nat):Int):=by
 rw [pow52,xz _ oz];rfl
theorem aQq {w:Nat}(h:w<2^64):wrap .i64 (wrap .u64 (BitVec.toNat (BitVec.ofInt (IntKind.bits .u64) (Int.fdiv ((w:Nat):Int) (2^(min (Int.toNat 52) (IntKind.bits .u64)))) &&& BitVec.ofInt (IntKind.bits .u64) 2047)))=(bF w:Int):=by
 have hE:=aCe w;rw [fdiv52,show IntKind.bits .u64=64 from rfl,field h,show w/2^52 % 2048=bF w from rfl,wrap64 (xh hE oz),qa];omega
end FT
open FT
def gF (w:Nat):Rat:=if bF w<2047 then zO (cC w) (cY w) (iK w) else 0
theorem aMg {w:Nat}(h:bF w<2047) (hm:cY w=0):gF w=0:=by
 unfold gF zO;rw [og h,hm,ze,show sgn (cC w) 0=0 from by unfold sgn;cases cC w <;> rfl,Rat.zero_mkRat]
namespace W32
section
variable {k:World}{R:World→Value→Prop}{w:Nat}
end
end W32
open Num Plain
structure W4 where
 (re im:Q4)
theorem W4.ext' {x y:W4}(h1:x.re=y.re) (h2:x.im=y.im):x=y:=by cases x;cases y;simp_all
instance:DecidableEq Q4:=fun x y=>decidable_of_iff (x.a=y.a∧x.b=y.b∧x.c=y.c∧x.d=y.d)
 ⟨fun ⟨h1,h2,h3,h4⟩=>Q4.ext' h1 h2 h3 h4,fun h=>by rw [h];exact⟨rfl,rfl,rfl,rfl⟩⟩
instance:DecidableEq W4:=fun x y=>decidable_of_iff (x.re=y.re∧x.im=y.im)
 ⟨fun ⟨h1,h2⟩=>W4.ext' h1 h2,fun h=>by rw [h];exact⟨rfl,rfl⟩⟩
def W4.add (x y:W4):W4:=⟨x.re.add y.re,x.im.add y.im⟩
def W4.sub (x y:W4):W4:=⟨x.re.sub y.re,x.im.sub y.im⟩
def W4.mul (x y:W4):W4:=⟨(x.re.mul y.re).sub (x.im.mul y.im),(x.re.mul y.im).add (x.im.mul y.re)⟩
def W4.neg (x:W4):W4:=⟨x.re.neg,x.im.neg⟩
def W4.conj (x:W4):W4:=⟨x.re,x.im.neg⟩
def W4.norm (x:W4):Q4:=(x.re.mul x.re).add (x.im.mul x.im)
def W4.zero:W4:=⟨Q4.zero,Q4.zero⟩
def W4.real (q:Rat):W4:=⟨Q4.real q,Q4.zero⟩
def aWy:Nat→Q4
 | 0=>⟨1,0,0,0⟩
 | 1=>⟨0,1/4,0,1/4⟩
 | 2=>⟨0,0,1/2,0⟩
 | 3=>⟨0,1/2,0,0⟩
 | 4=>⟨1/2,0,0,0⟩
 | 5=>⟨0,-1/4,0,1/4⟩
 | _=>⟨0,0,0,0⟩
def aWz (m:Nat):Q4:=if 6<m then (aWy (12-m)).neg else aWy m
def aXa (n:Nat):Q4:=if 12<n then aWz (24-n) else aWz n
def aXn (n:Nat):W4:=⟨aXa n,aXa ((n+18) % 24)⟩
def plc (k:Int):Nat:=(k % 24).toNat
def aXy (k:Nat):Nat→W4
 | 0=>W4.zero
 | j+1=>(aXy k j).add (aXn (j*k % 24))
def q4s (q:Rat):Bool:=(4*q).den == 1 && decide ((4*q).num.natAbs≤1000)
def Q4.small (v:Q4):Bool:=q4s v.a && q4s v.b && q4s v.c && q4s v.d
def W4.small (v:W4):Bool:=v.re.small && v.im.small
def Q4.t1 (y:Q4):Q4:=⟨y.a,-y.b,y.c,-y.d⟩
def Q4.t2 (y:Q4):Q4:=⟨y.a,y.b,-y.c,-y.d⟩
def Q4.cnj (y:Q4):Q4:=(y.t1.mul y.t2).mul y.t1.t2
def Q4.div (x y:Q4):Q4:=⟨(x.mul y.cnj).a/(y.mul y.cnj).a,(x.mul y.cnj).b/(y.mul y.cnj).a,(x.mul y.cnj).c/(y.mul y.cnj).a,(x.mul y.cnj).d/(y.mul y.cnj).a⟩
theorem Q4.cnj_norm (y:Q4):(y.mul y.cnj).b=0∧(y.mul y.cnj).c=0∧(y.mul y.cnj).d=0:=by
 obtain⟨a,b,c,d⟩:=y;simp only [Q4.cnj,Q4.mul,Q4.t1,Q4.t2];refine⟨?_,?_,?_⟩ <;> grind
theorem Q4.t1_ne {y:Q4}(h:y≠Q4.zero):y.t1≠Q4.zero:=fun e=>h (by
 have ha:=congrArg Q4.a e;have hb:=congrArg Q4.b e;have hc:=congrArg Q4.c e;have hd:=congrArg Q4.d e;simp only [Q4.t1,Q4.zero]at ha hb hc hd
 exact Q4.ext' ha (by show y.b=0;grind) hc (by show y.d=0;grind))
theorem Q4.t2_ne {y:Q4}(h:y≠Q4.zero):y.t2≠Q4.zero:=fun e=>h (by
 have ha:=congrArg Q4.a e;have hb:=congrArg Q4.b e;have hc:=congrArg Q4.c e;have hd:=congrArg Q4.d e;simp only [Q4.t2,Q4.zero]at ha hb hc hd
 exact Q4.ext' ha hb (by show y.c=0;grind) (by show y.d=0;grind))
theorem Q4.norm_ne {y:Q4}(h:y≠Q4.zero):(y.mul y.cnj).a≠0:=by
 intro ha;obtain⟨hb,hc,hd⟩:=Q4.cnj_norm y;have e:y.mul y.cnj=Q4.zero:=Q4.ext' ha hb hc hd;have e2:y.toQ*((y.t1.toQ*y.t2.toQ)*y.t1.t2.toQ)=0:=by
  rw [←iT,←iT,←iT];exact (congrArg Q4.toQ e).trans toQ_zero
 exact C.iV (zJ.2 h) (C.iV (C.iV (zJ.2 (Q4.t1_ne h)) (zJ.2 (Q4.t2_ne h))) (zJ.2 (Q4.t2_ne (Q4.t1_ne h)))) e2
def W4.div (x y:W4):W4:=⟨(x.mul y.conj).re.div y.norm,(x.mul y.conj).im.div y.norm⟩
def nn (x:Q4):Prop:=0≤C.sg x.toQ
theorem eG {x y:Q4}(hx:nn x) (hy:nn y):nn (x.add y):=by
 unfold nn at *
 rw [aGb];rcases C.aP x.toQ with ⟨e,h⟩|⟨e,h⟩|⟨e,h⟩
 ·rw [h,show (0:Q23)+y.toQ=y.toQ by generalize y.toQ=q;refine Q23.ext' (Q2.ext' ?_ ?_) (Q2.ext' ?_ ?_) <;> (simp only [Q23.add_re,Q23.add_im,Q23.zero_re,Q23.zero_im,Q2.add_re,Q2.add_im,Q2.zero_re,Q2.zero_im];grind)];exact hy
 ·rcases C.aP y.toQ with ⟨e',h'⟩|⟨e',h'⟩|⟨e',h'⟩
  ·rw [h',show x.toQ+(0:Q23)=x.toQ by generalize x.toQ=q;refine Q23.ext' (Q2.ext' ?_ ?_) (Q2.ext' ?_ ?_) <;> (simp only [Q23.add_re,Q23.add_im,Q23.zero_re,Q23.zero_im,Q2.add_re,Q2.add_im,Q2.zero_re,Q2.zero_im];grind)];exact hx
  ·rw [C.eP (C.add h h')];decide
  ·omega
 ·omega
theorem aDa {x y:Q4}(hx:C.sg x.toQ=1) (hy:nn y):C.sg (x.add y).toQ=1:=by
 unfold nn at hy;rw [aGb];rcases C.aP x.toQ with ⟨e,h⟩|⟨e,h⟩|⟨e,h⟩
 ·omega
 ·rcases C.aP y.toQ with ⟨e',h'⟩|⟨e',h'⟩|⟨e',h'⟩
  ·rw [h',show x.toQ+(0:Q23)=x.toQ by generalize x.toQ=q;refine Q23.ext' (Q2.ext' ?_ ?_) (Q2.ext' ?_ ?_) <;> (simp only [Q23.add_re,Q23.add_im,Q23.zero_re,Q23.zero_im,Q2.add_re,Q2.add_im,Q2.zero_re,Q2.zero_im];grind)];exact hx
  ·exact C.eP (C.add h h')
  ·omega
 ·omega
theorem aVz {s t:Int}(hs:s=0∨s=1∨s=-1) (ht:t=0∨t=1∨t=-1) (h:0≤s) (h':0≤t):0≤s*t:=by
 rcases hs with rfl|rfl|rfl <;> rcases ht with rfl|rfl|rfl <;> simp_all
theorem pM {x y:Q4}(hx:nn x) (hy:nn y):nn (x.mul y):=by
 unfold nn at *
 rw [iT,C.tY];exact aVz (C.lJ _) (C.lJ _) hx hy
theorem lV {x y:Q4}(h:nn (x.mul y)) (hy:C.sg y.toQ=1):nn x:=by
 unfold nn at *
 rw [iT,C.tY,hy,Int.mul_one]at h;exact h
def sg2G (a b:Rat):Int:=cV a.num.sign b.num.sign (a*a-2*(b*b)).num.sign
theorem rR (a b:Rat):B.sg (⟨a,b⟩:Q2)=sg2G a b:=by rw [←aTj,aFv,aFv,aFv];rfl
def sgG (v:Q4):Int:=cV (sg2G v.a v.b) (sg2G v.c v.d) (sg2G (v.a*v.a+2*(v.b*v.b)-3*(v.c*v.c+2*(v.d*v.d))) (v.a*v.b+v.b*v.a-3*(v.c*v.d+v.d*v.c)))
theorem aDp (v:Q4):C.sg v.toQ=sgG v:=by
 unfold Q4.toQ e4;rw [←aDq,rR,rR];have e:(⟨v.a,v.b⟩:Q2)*⟨v.a,v.b⟩-3*((⟨v.c,v.d⟩:Q2)*⟨v.c,v.d⟩)=⟨v.a*v.a+2*(v.b*v.b)-3*(v.c*v.c+2*(v.d*v.d)),v.a*v.b+v.b*v.a-3*(v.c*v.d+v.d*v.c)⟩:=by
  refine Q2.ext' ?_ ?_ <;> simp only [Q2.sub_re,Q2.sub_im,Q2.mul_re,Q2.mul_im,Q2.three_re,Q2.three_im] <;> grind
 rw [e,rR];rfl
def w2:Q4:=⟨0,1,0,0⟩
def w3:Q4:=⟨0,0,1,0⟩
def w6:Q4:=⟨0,0,0,1⟩
theorem aOi:C.sg w2.toQ=1:=by rw [aDp];decide +kernel
theorem aOj:C.sg w3.toQ=1:=by rw [aDp];decide +kernel
theorem aOk:C.sg w6.toQ=1:=by rw [aDp];decide +kernel
theorem aTl:w2.mul w2=Q4.real 2:=by decide +kernel
theorem aTm:w3.mul w3=Q4.real 3:=by decide +kernel
theorem aTn:w6.mul w6=Q4.real 6:=by decide +kernel
theorem yA (q:Rat):C.sg (Q4.real q).toQ=q.num.sign:=by
 unfold Q4.real Q4.toQ e4;have h0:B.sg (⟨0,0⟩:Q2)=0:=B.sg_zero;rw [←aDq,h0,rR];show cV (sg2G q 0) 0 _=_;have h1:sg2G q 0=q.num.sign:=by
  unfold sg2G cV;rw [show (0:Rat).num.sign=0 from rfl];split <;> rename_i h
  ·rfl
  ·rw [og rfl]
 rw [h1];unfold cV;split <;> rename_i h
 ·rfl
 ·rw [og rfl]
theorem dN {q:Rat}(h:0≤q):nn (Q4.real q):=by
 unfold nn;rw [yA];have:=wm.2 h;rcases Int.lt_or_eq_of_le this with h|h
 ·rw [xf h];decide
 ·rw [←h];decide
theorem rQ {q:Rat}(h:nn (Q4.real q)):0≤q:=by
 unfold nn at h;rw [yA]at h;exact wm.1 (Int.sign_nonneg_iff.1 h)
theorem oK {q:Rat}(h:0<q):C.sg (Q4.real q).toQ=1:=by
 rw [yA];exact xf (oF h)
theorem aXx (w:Q4) (r n:Rat) (h:w.mul w=Q4.real n):(w.sub (Q4.real r)).mul (w.add (Q4.real r))=Q4.real (n-r*r):=by
 have e:(w.sub (Q4.real r)).mul (w.add (Q4.real r))=(w.mul w).sub (Q4.real (r*r)):=by
  obtain⟨a,b,c,d⟩:=w;refine Q4.ext' ?_ ?_ ?_ ?_ <;> simp only [Q4.mul,Q4.sub,Q4.add,Q4.neg,Q4.real] <;> grind
 rw [e,h];refine Q4.ext' ?_ ?_ ?_ ?_ <;> simp only [Q4.sub,Q4.add,Q4.neg,Q4.real] <;> grind
theorem aXm (w:Q4) (r n:Rat) (h:w.mul w=Q4.real n):((Q4.real r).sub w).mul (w.add (Q4.real r))=Q4.real (r*r-n):=by
 have e:((Q4.real r).sub w).mul (w.add (Q4.real r))=(Q4.real (r*r)).sub (w.mul w):=by
  obtain⟨a,b,c,d⟩:=w;refine Q4.ext' ?_ ?_ ?_ ?_ <;> simp only [Q4.mul,Q4.sub,Q4.add,Q4.neg,Q4.real] <;> grind
 rw [e,h];refine Q4.ext' ?_ ?_ ?_ ?_ <;> simp only [Q4.sub,Q4.add,Q4.neg,Q4.real] <;> grind
section
variable {w x:Q4}{n r s p:Rat}
theorem aSd (hw:C.sg w.toQ=1) (hs:w.mul w=Q4.real n) (h0:0≤r) (h:r*r≤n):nn (w.sub (Q4.real r)):=by
 refine lV ?_ (aDa hw (dN h0));rw [aXx w r n hs];exact dN (by grind)
theorem aFs (hw:C.sg w.toQ=1) (hs:w.mul w=Q4.real n) (h0:0≤s) (h:n≤s*s):nn ((Q4.real s).sub w):=by
 refine lV ?_ (aDa hw (dN h0));rw [aXm w s n hs];exact dN (by grind)
def loT (p r s:Rat):Rat:=if p<0 then p*s else p*r
def hiT (p r s:Rat):Rat:=if p<0 then p*r else p*s
def aYb (p:Rat):Rat:=if p<0 then -p else p
theorem bZ {x y:Q4}(h:nn x) (e:x=y):nn y:=e▸h
structure Apx (w:Q4) (r s:Rat):Prop where
 lo:nn (w.sub (Q4.real r))
 hi:nn ((Q4.real s).sub w)
def loB (x:Q4) (r2 s2 r3 s3 r6 s6:Rat):Rat:=x.a+loT x.b r2 s2+loT x.c r3 s3+loT x.d r6 s6
def hiB (x:Q4) (r2 s2 r3 s3 r6 s6:Rat):Rat:=x.a+hiT x.b r2 s2+hiT x.c r3 s3+hiT x.d r6 s6
variable {r2 s2 r3 s3 r6 s6:Rat}
end
def ab (u:Q4) (c:Rat):Prop:=nn ((Q4.real c).sub u)∧nn ((Q4.real c).add u)
theorem xT {x:Q4}(h:nn ((Q4.real 2).mul x)):nn x:=by
 unfold nn at *
 rw [iT,C.tY,oK oz,Int.one_mul]at h;exact h
section
variable {u v:Q4}{c d:Rat}
theorem aGj (h:ab u c):0≤c:=by
 have:=eG h.1 h.2;refine rQ (xT (bZ this ?_));refine Q4.ext' ?_ ?_ ?_ ?_ <;> simp only [Q4.mul,Q4.sub,Q4.add,Q4.neg,Q4.real] <;> grind
theorem mS (h:ab u c) (h':ab v d):ab (u.mul v) (c*d):=by
 constructor
 ·refine xT (bZ (eG (pM h.1 h'.2) (pM h.2 h'.1)) ?_);refine Q4.ext' ?_ ?_ ?_ ?_ <;> simp only [Q4.mul,Q4.sub,Q4.add,Q4.neg,Q4.real] <;> grind
 ·refine xT (bZ (eG (pM h.1 h'.1) (pM h.2 h'.2)) ?_);refine Q4.ext' ?_ ?_ ?_ ?_ <;> simp only [Q4.mul,Q4.sub,Q4.add,Q4.neg,Q4.real] <;> grind
theorem wX (h:ab u c) (h':ab v d):ab (u.add v) (c+d):=by
 constructor
 ·refine bZ (eG h.1 h'.1) ?_;refine Q4.ext' ?_ ?_ ?_ ?_ <;> simp only [Q4.sub,Q4.add,Q4.neg,Q4.real] <;> grind
 ·refine bZ (eG h.2 h'.2) ?_;refine Q4.ext' ?_ ?_ ?_ ?_ <;> simp only [Q4.add,Q4.real] <;> grind
theorem nK {q:Rat}(h1:-c≤q) (h2:q≤c):ab (Q4.real q) c:=by
 constructor
 ·refine bZ (dN (q:=c-q) (by grind)) ?_;refine Q4.ext' ?_ ?_ ?_ ?_ <;> simp only [Q4.sub,Q4.add,Q4.neg,Q4.real] <;> grind
 ·refine bZ (dN (q:=c+q) (by grind)) ?_;refine Q4.ext' ?_ ?_ ?_ ?_ <;> simp only [Q4.add,Q4.real] <;> grind
theorem aFr {q:Rat}(h:ab (Q4.real q) c):-c≤q∧q≤c:=by
 have h1:=rQ (bZ (y:=Q4.real (c-q)) h.1 (by refine Q4.ext' ?_ ?_ ?_ ?_ <;> simp only [Q4.sub,Q4.add,Q4.neg,Q4.real] <;> grind));have h2:=rQ (bZ (y:=Q4.real (c+q)) h.2 (by refine Q4.ext' ?_ ?_ ?_ ?_ <;> simp only [Q4.add,Q4.real] <;> grind));constructor <;> grind
theorem wY {w:Q4}{n:Rat}(hw:C.sg w.toQ=1) (hs:w.mul w=Q4.real n) (h0:0≤c) (h:n≤c*c):ab w c:=by
 refine⟨aFs hw hs h0 h,?_⟩;have:=aDa hw (dN h0);unfold nn;rw [show (Q4.real c).add w=w.add (Q4.real c) by refine Q4.ext' ?_ ?_ ?_ ?_ <;> simp only [Q4.add,Q4.real] <;> grind,this];decide
theorem aSr (x:Q4):(((Q4.real x.a).add ((Q4.real x.b).mul w2)).add ((Q4.real x.c).mul w3)).add ((Q4.real x.d).mul w6)=x:=by
 refine Q4.ext' ?_ ?_ ?_ ?_ <;> simp only [Q4.mul,Q4.add,Q4.real,w2,w3,w6] <;> grind
theorem kR {x:Q4}{M:Rat}(a1:-M≤x.a) (a2:x.a≤M) (b1:-M≤x.b) (b2:x.b≤M) (c1:-M≤x.c) (c2:x.c≤M) (d1:-M≤x.d) (d2:x.d≤M):ab x (8*M):=by
 have h:=wX (wX (wX (nK a1 a2) (mS (nK b1 b2) (wY aOi aTl (c:=2) oz (by decide +kernel)))) (mS (nK c1 c2) (wY aOj aTm (c:=2) oz (by decide +kernel)))) (mS (nK d1 d2) (wY aOk aTn (c:=3) oz (by decide +kernel)));rw [aSr,show M+M*2+M*2+M*3=8*M by grind]at h;exact h
theorem aUa {x:Q4}{M:Rat}(a1:-M≤x.a) (a2:x.a≤M) (b1:-M≤x.b) (b2:x.b≤M) (c1:-M≤x.c) (c2:x.c≤M) (d1:-M≤x.d) (d2:x.d≤M):ab x.cnj (8*M*(8*M)*(8*M)):=by
 unfold Q4.cnj;refine mS (mS (kR ?_ ?_ ?_ ?_ ?_ ?_ ?_ ?_) (kR ?_ ?_ ?_ ?_ ?_ ?_ ?_ ?_)) (kR ?_ ?_ ?_ ?_ ?_ ?_ ?_ ?_) <;> simp only [Q4.t1,Q4.t2] <;> grind
end
def isI (q:Rat):Prop:=∃n:Int,q=n
theorem isI.add {p q:Rat}(h:isI p) (h':isI q):isI (p+q):=by obtain⟨m,rfl⟩:=h;obtain⟨n,rfl⟩:=h';exact⟨m+n,(zk m n).symm⟩
theorem isI.mul {p q:Rat}(h:isI p) (h':isI q):isI (p*q):=by obtain⟨m,rfl⟩:=h;obtain⟨n,rfl⟩:=h';exact⟨m*n,(jc m n).symm⟩
theorem isI.neg {p:Rat}(h:isI p):isI (-p):=by obtain⟨m,rfl⟩:=h;exact⟨-m,(jx m).symm⟩
theorem isI_two:isI 2:=⟨2,rfl⟩
theorem isI_three:isI 3:=⟨3,rfl⟩
theorem isI_six:isI 6:=⟨6,rfl⟩
structure isI4 (x:Q4):Prop where
 a:isI x.a
 b:isI x.b
 c:isI x.c
 d:isI x.d
theorem isI4.mul {x y:Q4}(h:isI4 x) (g:isI4 y):isI4 (x.mul y) where
 a:=(((h.a.mul g.a).add (isI_two.mul (h.b.mul g.b))).add (isI_three.mul (h.c.mul g.c))).add (isI_six.mul (h.d.mul g.d))
 b:=((h.a.mul g.b).add (h.b.mul g.a)).add (isI_three.mul ((h.c.mul g.d).add (h.d.mul g.c)))
 c:=((h.a.mul g.c).add (h.c.mul g.a)).add (isI_two.mul ((h.b.mul g.d).add (h.d.mul g.b)))
 d:=(((h.a.mul g.d).add (h.d.mul g.a)).add (h.b.mul g.c)).add (h.c.mul g.b)
theorem isI4.t1 {x:Q4}(h:isI4 x):isI4 x.t1:=⟨h.a,h.b.neg,h.c,h.d.neg⟩
theorem isI4.t2 {x:Q4}(h:isI4 x):isI4 x.t2:=⟨h.a,h.b,h.c.neg,h.d.neg⟩
theorem isI4.cnj {x:Q4}(h:isI4 x):isI4 x.cnj:=(h.t1.mul h.t2).mul h.t1.t2
theorem aJa (s t:Rat) (x y:Q4):((Q4.real s).mul x).mul ((Q4.real t).mul y)=(Q4.real (s*t)).mul (x.mul y):=by
 refine Q4.ext' ?_ ?_ ?_ ?_ <;> simp only [Q4.mul,Q4.real] <;> grind
theorem aHy (x:Q4):x.mul x.cnj=Q4.real (x.mul x.cnj).a:=by
 obtain⟨h1,h2,h3⟩:=x.cnj_norm;exact Q4.ext' rfl h1 h2 h3
theorem aFd (n:Nat):isI (n:Rat):=⟨n,by rw [zd]⟩
theorem xU (q:Rat) {M:Nat}(h:q.num.natAbs≤M):-(M:Rat)≤q∧q≤(M:Rat):=by
 have hd:(1:Rat)≤(q.den:Rat):=by
  have:=q.den_pos;have h1:((1:Nat):Rat)≤(q.den:Rat):=zl.2 this;exact h1
 have e:=dV q;have h1:(q.num:Rat)≤((M:Int):Rat):=zz.2 oq;have h2:((-(M:Int):Int):Rat)≤(q.num:Rat):=zz.2 oq;rw [jx,zd]at h2;rw [zd]at h1;have hM:(0:Rat)≤(M:Rat):=Rat.natCast_nonneg;constructor
 ·refine uq.1 fun hq=>?_;have h3:q*(q.den:Rat)≤q*1:=by
   have:=xb hd (c:=-q) (by grind)
   grind
  grind
 ·refine uq.1 fun hq=>?_;have h3:q*1≤q*(q.den:Rat):=xb hd (by grind)
  grind
structure Parts4 (x:Q4) (M:Nat):Prop where
 a:x.a.num.natAbs≤M∧x.a.den≤M
 b:x.b.num.natAbs≤M∧x.b.den≤M
 c:x.c.num.natAbs≤M∧x.c.den≤M
 d:x.d.num.natAbs≤M∧x.d.den≤M
theorem aVh {q:Rat}(h:isI q) (h0:q≠0):q≤-1∨1≤q:=by
 obtain⟨n,rfl⟩:=h;have hn:n≠0:=fun e=>h0 (by rw [e];rfl);rcases Int.lt_or_gt_of_ne hn with h|h
 ·left
  have:((n:Int):Rat)≤((-1:Int):Rat):=zz.2 oq;exact this
 ·right
  have:((1:Int):Rat)≤((n:Int):Rat):=zz.2 oq;exact this
def Near4 (x:Q4) (bits:Nat) (least beyond:Int) (W:Nat):Prop:=
 ∃lo hi:Rat,nn (x.sub (Q4.real lo))∧nn ((Q4.real hi).sub x)∧dM lo bits least beyond=W∧dM hi bits least beyond=W
section
variable {x:Q4}{bits:Nat}{least beyond:Int}{W W':Nat}{lo hi:Rat}
theorem aAm (hl:nn (x.sub (Q4.real lo))) (hh:nn ((Q4.real hi).sub x)):lo≤hi:=by
 have:=rQ (q:=hi-lo) (bZ (eG hl hh) (by refine Q4.ext' ?_ ?_ ?_ ?_ <;> simp only [Q4.sub,Q4.add,Q4.neg,Q4.real] <;> grind))
 grind
theorem rN (q:Rat):nn ((Q4.real q).sub (Q4.real q)):=bZ (dN (q:=0) oz) (by refine Q4.ext' ?_ ?_ ?_ ?_ <;> simp only [Q4.sub,Q4.add,Q4.neg,Q4.real] <;> grind)
theorem Near4.real (q:Rat):Near4 (Q4.real q) bits least beyond (dM q bits least beyond):=⟨q,q,rN q,rN q,rfl,rfl⟩
end
structure IntForm (x:Q4) (D N:Nat):Prop where
 pos:0<D
 le:D≤N
 int:isI4 ((Q4.real (D:Rat)).mul x)
 a:-(N:Rat)≤(D:Rat)*x.a∧(D:Rat)*x.a≤N
 b:-(N:Rat)≤(D:Rat)*x.b∧(D:Rat)*x.b≤N
 c:-(N:Rat)≤(D:Rat)*x.c∧(D:Rat)*x.c≤N
 d:-(N:Rat)≤(D:Rat)*x.d∧(D:Rat)*x.d≤N
theorem pL (s:Rat) (x:Q4):((Q4.real s).mul x).a=s*x.a∧((Q4.real s).mul x).b=s*x.b∧((Q4.real s).mul x).c=s*x.c∧((Q4.real s).mul x).d=s*x.d:=by
 refine⟨?_,?_,?_,?_⟩ <;> simp only [Q4.mul,Q4.real] <;> grind
theorem aQw {Y:Q4}{M c:Rat}(hI:isI4 Y) (hne:Y≠Q4.zero) (hab:ab Y c) (ha:-M≤Y.a∧Y.a≤M) (hb:-M≤Y.b∧Y.b≤M) (hc:-M≤Y.c∧Y.c≤M) (hd:-M≤Y.d∧Y.d≤M) :
 1≤c*(8*M*(8*M)*(8*M)):=by
 have hN:=mS hab (aUa ha.1 ha.2 hb.1 hb.2 hc.1 hc.2 hd.1 hd.2);rw [aHy]at hN;obtain⟨n1,n2⟩:=aFr hN;have hz:=Q4.norm_ne hne;have hi:=aVh (hI.mul hI.cnj).a hz;rcases hi with h|h <;> grind
theorem aMe {x:Q4}{D N G k B:Nat}{lo hi:Rat}{z:Int}(F:IntForm x D N) (hirr:¬ (x.b=0∧x.c=0∧x.d=0)) (hl:nn (x.sub (Q4.real lo))) (hh:nn ((Q4.real hi).sub x))
 (hg:hi-lo≤3*(N:Rat)*(1/((2^k:Nat):Rat))) (h1:lo≤(z:Rat) / ((2^G:Nat):Rat)) (h2:(z:Rat) / ((2^G:Nat):Rat)≤hi) (hN:N≤2^B):k≤5*B+4*G+21:=by
 refine jp fun hk=>?_;have hP:(0:Rat)<((2^G:Nat):Rat):=ji.2 (od G);have hK:(0:Rat)<((2^k:Nat):Rat):=ji.2 (od k);have hD:(0:Rat)<(D:Rat):=ji.2 F.pos;have hDN:(D:Rat)≤(N:Rat):=zl.2 F.le;have hN0:(0:Rat)<(N:Rat):=by grind
 -- the gap is at most 1
 have hkN:3*N≤2^k:=by
  have a:3*N≤2^(B+2):=by rw [ot];omega
  exact qp a (ob oz oq)
 have hkR:3*(N:Rat)≤((2^k:Nat):Rat):=by
  have:=zl.2 hkN;rw [ja]at this;exact this
 have hbig:3*N*N*2^G*(72*2^G*N*(72*2^G*N)*(72*2^G*N))<2^k:=by
  have e:3*N*N*2^G*(72*2^G*N*(72*2^G*N)*(72*2^G*N))=1119744*(N*N*N*N*N)*(2^G*2^G*2^G*2^G):=by
   have:3*N*N*2^G*(72*2^G*N*(72*2^G*N)*(72*2^G*N))=3*72*72*72*(N*N*N*N*N)*(2^G*2^G*2^G*2^G):=by ac_rfl
   rw [this]
  rw [e];have p1:N*N*N*N*N≤2^(5*B):=by
   have:=xx (xx (xx (xx hN hN) hN) hN) hN
   rwa [←ot,←ot,←ot,←ot,show B+B+B+B+B=5*B by omega]at this
  have p2:2^G*2^G*2^G*2^G=2^(4*G):=by rw [←ot,←ot,←ot];congr 1;omega
  rw [p2];have p3:1119744*(N*N*N*N*N)*2^(4*G)<2^21*2^(5*B)*2^(4*G):=by
   refine jq ?_ (od _);exact qr (qk _ p1) (jq oz (od _))
  refine ol p3 ?_;rw [←ot,←ot];exact ob oz oq
 have hbigR:3*(N:Rat)*N*((2^G:Nat):Rat)*(72*((2^G:Nat):Rat)*N*(72*((2^G:Nat):Rat)*N)*(72*((2^G:Nat):Rat)*N))<((2^k:Nat):Rat):=by
  have:=Rat.natCast_lt_natCast.2 hbig;simp only [ja]at this;exact this
 have ht:(z:Rat) / ((2^G:Nat):Rat)*((2^G:Nat):Rat)=z:=jm (by grind);have hgk:3*(N:Rat)*(1/((2^k:Nat):Rat))*((2^k:Nat):Rat)=3*(N:Rat):=by rw [yy,jm (by grind),Rat.mul_one]
 have hzI:isI (z:Rat):=⟨z,rfl⟩;have hPI:isI ((2^G:Nat):Rat):=aFd _;have hDI:isI (D:Rat):=aFd _;have fa:=F.int;have fc:=F.b;have fd:=F.c;have fe:=F.d;clear hbig hkN hN F;generalize (z:Rat) / ((2^G:Nat):Rat)=t at *
 generalize ((2^G:Nat):Rat)=P at *
 generalize ((2^k:Nat):Rat)=E at *
 generalize (N:Rat)=n at *
 generalize (z:Rat)=y at *
 generalize 3*n*(1/E)=g at *
 generalize (D:Rat)=q at *
 obtain⟨m1,m2,m3,m4⟩:=pL q x;have i1:=fa.a;have i2:=fa.b;have i3:=fa.c;have i4:=fa.d;rw [m1]at i1;rw [m2]at i2;rw [m3]at i3;rw [m4]at i4;clear m1 m2 m3 m4 fa;have hgap:ab (x.sub (Q4.real t)) g:=by
  constructor
  ·refine bZ (eG hh (dN (q:=g-(hi-t)) (by grind))) ?_;refine Q4.ext' ?_ ?_ ?_ ?_ <;> simp only [Q4.sub,Q4.add,Q4.neg,Q4.real] <;> grind
  ·refine bZ (eG hl (dN (q:=g-(t-lo)) (by grind))) ?_;refine Q4.ext' ?_ ?_ ?_ ?_ <;> simp only [Q4.sub,Q4.add,Q4.neg,Q4.real] <;> grind
 have hg0:=aGj hgap;have hqP:0<q*P:=kn hD hP;have habY:ab ((Q4.real (q*P)).mul (x.sub (Q4.real t))) (q*P*g):=mS (nK (by grind) (Rat.le_refl)) hgap;obtain⟨y1,y2,y3,y4⟩:=pL (q*P) (x.sub (Q4.real t));generalize (Q4.real (q*P)).mul (x.sub (Q4.real t))=Y at *
 have z1:Y.a=P*(q*x.a)-q*y:=by rw [y1];simp only [Q4.sub,Q4.add,Q4.neg,Q4.real];grind
 have z2:Y.b=P*(q*x.b):=by rw [y2];simp only [Q4.sub,Q4.add,Q4.neg,Q4.real];grind
 have z3:Y.c=P*(q*x.c):=by rw [y3];simp only [Q4.sub,Q4.add,Q4.neg,Q4.real];grind
 have z4:Y.d=P*(q*x.d):=by rw [y4];simp only [Q4.sub,Q4.add,Q4.neg,Q4.real];grind
 have hYI:isI4 Y:=by
  constructor
  ·rw [z1,Rat.sub_eq_add_neg];exact (hPI.mul i1).add (hDI.mul hzI).neg
  ·rw [z2];exact hPI.mul i2
  ·rw [z3];exact hPI.mul i3
  ·rw [z4];exact hPI.mul i4
 have hYne:Y≠Q4.zero:=fun e=>hirr (by
  have w2:=congrArg Q4.b e;have w3:=congrArg Q4.c e;have w4:=congrArg Q4.d e;rw [y2]at w2;rw [y3]at w3;rw [y4]at w4;simp only [Q4.sub,Q4.add,Q4.neg,Q4.real,Q4.zero]at w2 w3 w4;refine⟨?_,?_,?_⟩
  ·rcases ke.1 w2 with h|h <;> grind
  ·rcases ke.1 w3 with h|h <;> grind
  ·rcases ke.1 w4 with h|h <;> grind)
 have mulP:∀u:Rat,-n≤u∧u≤n→-(P*n)≤P*u∧P*u≤P*n:=fun u hu=>by
  have a1:=xb hu.1 (xp hP);have a2:=xb hu.2 (xp hP);constructor <;> grind
 have hPn:0<P*n:=kn hP hN0;have b2:-(P*n)≤Y.b∧Y.b≤P*n:=by rw [z2];exact mulP _ fc
 have b3:-(P*n)≤Y.c∧Y.c≤P*n:=by rw [z3];exact mulP _ fd
 have b4:-(P*n)≤Y.d∧Y.d≤P*n:=by rw [z4];exact mulP _ fe
 have hg1:g≤1:=by
  refine uq.1 fun h=>?_;have:=(vm hK).2 h;rw [hgk,Rat.one_mul]at this
  grind
 have hc1:q*P*g≤P*n:=by
  have a1:=xb hg1 (xp hqP);have a2:=jl hDN (xp hP)
  grind
 have b1:-(9*(P*n))≤Y.a∧Y.a≤9*(P*n):=by
  have h0:ab (Q4.mk 0 (-Y.b) (-Y.c) (-Y.d)) (8*(P*n)):=kR (by grind) (by grind) (by grind) (by grind) (by grind) (by grind) (by grind) (by grind);have h1:=wX habY h0;rw [show Y.add (Q4.mk 0 (-Y.b) (-Y.c) (-Y.d))=Q4.real Y.a by refine Q4.ext' ?_ ?_ ?_ ?_ <;> simp only [Q4.add,Q4.real] <;> grind]at h1;obtain⟨r1,r2⟩:=aFr h1;constructor <;> grind
 have key:=aQw hYI hYne habY b1 (by constructor <;> grind) (by constructor <;> grind) (by constructor <;> grind);have e8:8*(9*(P*n))=72*P*n:=by grind
 rw [e8]at key;have hpos:0≤72*P*n*(72*P*n)*(72*P*n):=by
  have:0<72*P*n:=by grind
  exact xp (kn (kn this this) this)
 generalize 72*P*n*(72*P*n)*(72*P*n)=S at *
 have c1:q*P*g*S≤n*P*g*S:=by
  refine jl (jl (jl hDN (xp hP)) hg0) hpos
 have c2:1*E≤n*P*g*S*E:=jl (Rat.le_trans key c1) (xp hK);have c3:n*P*g*S*E=3*n*n*P*S:=by
  rw [show n*P*g*S*E=n*P*S*(g*E) by grind,hgk]
  grind
 rw [c3]at c2
 grind
section
variable {q:Rat}{G a d w:Nat}
theorem aVo (hd:0<d) (hE:bF w<2047) (hu:grW w=kQ 53 2 (bJ G a d)):4*(a*2^G)≤(grW w+grW (w+1))*d:=by
 have h:=aRp hu;have hg:=zU hE;obtain⟨j,hj⟩:∃j,max (bF w) 1+1=j+2:=⟨max (bF w) 1-1,oq⟩;have e:(2:Nat)^2=4:=rfl;have hw:grW w=cY w*2^j*4:=by unfold grW;rw [hj,ot,e,qu]
 rw [hj,ot,e]at h hg;have:=xD (v:=cY w*2^j*2+2^j) (G:=G) (a:=a) hd oq;rw [hg,hw];have:=qk 4 this;refine qp this (Nat.le_of_eq ?_);rw [←qu]
 congr 1
 omega
theorem aVn (hE:bF w<2047) (hu:grW (w+1)=kQ 53 2 (bJ G a d)):(grW w+grW (w+1))*d≤4*(a*2^G):=by
 have h:=aRm hE hu;have hg:=zU hE;obtain⟨j,hj⟩:∃j,max (bF w) 1+1=j+2:=⟨max (bF w) 1-1,oq⟩;have e:(2:Nat)^2=4:=rfl;have hw:grW w=cY w*2^j*4:=by unfold grW;rw [hj,ot,e,qu]
 rw [hj,ot,e]at h hg;have:=xC (v:=cY w*2^j*2+2^j) (G:=G) (a:=a) (d:=d) oq;rw [hg,hw];have:=qk 4 this;refine qp (Nat.le_of_eq ?_) this;rw [←qu]
 congr 1
 omega
theorem aRn (hsm:¬ ((1024:Int)+(((1075:Nat):Int)+1)<(bl (uQ q 53 (-1074)):Int))) :
 bF (dM q 53 (-1074) 1024)<2047∧dM q 53 (-1074) 1024<2^64∧grW (dM q 53 (-1074) 1024)=uQ q 53 (-1074)∧
 (uQ q 53 (-1074)=0→dM q 53 (-1074) 1024=0)∧(uQ q 53 (-1074)≠0→cC (dM q 53 (-1074) 1024)=decide (q.num<0)):=by
 have hi:=kJ nW q;rw [fI nW];generalize uQ q 53 (-1074)=u at *
 unfold eW
 by_cases h0:u=0
 ·rw [og h0,h0];exact⟨oz,oz,oz,fun _=>rfl,fun h=>absurd rfl h⟩
 ·rw [oh h0,oh hsm];have hin:InF 1075 u:=by
   rcases hi with h|⟨_,h⟩|⟨_,_,h⟩
   ·exact absurd h h0
   ·exact absurd h hsm
   ·exact h
  obtain⟨M,i,r1,r2,r3,r4⟩:=hin.read oz (decide (q.num<0));have h64:=(near64 (decide (q.num<0)) u (-((1075+1:Nat):Int))).1;have rp:=nG h64;rw [r1]at rp;generalize double.nearest (decide (q.num<0)) u (-((1075+1:Nat):Int))=w at *
  split at rp
  ·rename_i hE;injection rp with e1 e2 e3;refine⟨hE,h64,?_,fun h=>absurd h h0,fun _=>e1.symm⟩;unfold grW;rw [←e2,r4]
   congr 2
   unfold iK at e3;omega
  ·split at rp <;> cases rp
theorem wO (s:Bool) (x y:Nat):sgn s x*(y:Int)=sgn s (x*y):=by
 unfold sgn;cases s <;> simp [Int.neg_mul]
theorem tB (hG:G=1075) (hE:bF w<2047):gF w*((2^(G+1):Nat):Rat)=((sgn (cC w) (grW w):Int):Rat):=by
 have hp:iK w=(max (bF w) 1:Nat)-1075:=rfl;unfold gF zO grW;rw [og hE,vz];have e:sgn (cC w) (cY w*2^(iK w).toNat)*((2^(G+1):Nat):Int)=sgn (cC w) (cY w*2^(max (bF w) 1+1))*((2^(-iK w).toNat:Nat):Int):=by
  rw [wO,wO,qu,qu,←ot,←ot]
  congr 3
  omega
 have hD:(0:Rat)<((2^(-iK w).toNat:Nat):Rat):=ji.2 (od _);have e':((sgn (cC w) (cY w*2^(iK w).toNat):Int):Rat)*((2^(G+1):Nat):Rat)=((sgn (cC w) (cY w*2^(max (bF w) 1+1)):Int):Rat)*((2^(-iK w).toNat:Nat):Rat):=by
  have:=congrArg (fun z:Int=>(z:Rat)) e;simp only [jc]at this;exact this
 generalize ((2^(-iK w).toNat:Nat):Rat)=D at *
 generalize ((2^(G+1):Nat):Rat)=P at *
 generalize ((sgn (cC w) (cY w*2^(iK w).toNat):Int):Rat)=X at *
 generalize ((sgn (cC w) (cY w*2^(max (bF w) 1+1)):Int):Rat)=Y at *
 have hd:X/D*D=X:=jm (by grind);generalize X/D=Z at *
 have:(Z*P-Y)*D=0:=by grind
 rcases ke.1 this with h|h <;> grind
def upW (w:Nat):Nat:=if w=0 then 1 else if cC w then w-1 else w+1
def dnW (w:Nat):Nat:=if w=0 then 9223372036854775809 else if cC w then w+1 else w-1
theorem aMb {q P d n X Y x y:Rat}(hP:0<P) (hd:0<d) (hq:q*d=n) (hx:X*P=x) (hy:Y*P=y) (h:2*n*P≤(x+y)*d):2*q≤X+Y:=by
 refine uq.1 fun c=>?_;have c:=(vm (kn hP hd)).2 c;have e1:(X+Y)*(P*d)=(x+y)*d:=by rw [←hx,←hy];grind
 have e2:2*q*(P*d)=2*n*P:=by rw [←hq];grind
 rw [e1,e2]at c;exact uy.2 c h
theorem aMa {q P d n X Y x y:Rat}(hP:0<P) (hd:0<d) (hq:q*d=n) (hx:X*P=x) (hy:Y*P=y) (h:(x+y)*d≤2*n*P):X+Y≤2*q:=by
 refine uq.1 fun c=>?_;have c:=(vm (kn hP hd)).2 c;have e1:(X+Y)*(P*d)=(x+y)*d:=by rw [←hx,←hy];grind
 have e2:2*q*(P*d)=2*n*P:=by rw [←hq];grind
 rw [e1,e2]at c;exact uy.2 c h
theorem lU {P X Y x y:Rat}(hP:0<P) (hx:X*P=x) (hy:Y*P=y) (h:x≤y):X≤Y:=by
 refine uq.1 fun c=>?_;have c:=(vm hP).2 c
 grind
structure Nb (q:Rat) (w:Nat):Prop where
 up:2*q≤gF w+gF (upW w)
 upm:gF w≤gF (upW w)
 dn:gF w+gF (dnW w)≤2*q
 dnm:gF (dnW w)≤gF w
 fin:bF w<2047∧bF (upW w)<2047∧bF (dnW w)<2047
 lt:w<2^64∧upW w<2^64∧dnW w<2^64
 nz:w=0∨cY w≠0
theorem nb (hsm:bl (uQ q 53 (-1074))≤2000):Nb q (dM q 53 (-1074) 1024):=by
 obtain⟨hE,h64,hu,hz,hs⟩:=aRn (q:=q) oq;generalize dM q 53 (-1074) 1024=w at *
 have hu2:uQ q 53 (-1074)=kQ 53 2 (bJ 1075 q.num.natAbs q.den):=rfl;obtain⟨G,hG⟩:∃G,G=1075:=⟨_,rfl⟩;rw [←hG]at hu2;have hd:=q.den_pos;have hA:=aVo hd hE (hu.trans hu2);have hP:(0:Rat)<((2^(G+1):Nat):Rat):=ji.2 (od _);have hdR:(0:Rat)<(q.den:Rat):=ji.2 hd;have hq:q*(q.den:Rat)=(q.num:Rat):=dV q;have p52:(2:Nat)^52=4503599627370496:=rfl;have p63:(2:Nat)^63=9223372036854775808:=rfl;have p64:(2:Nat)^64=18446744073709551616:=rfl;have e2:∀x:Nat,2*((x:Rat)*((2^(G+1):Nat):Rat))=((4*(x*2^G):Nat):Rat):=fun x=>by
  rw [ql,ja,ja,ja];have:((4:Nat):Rat)=4:=rfl;have h2:((2:Nat):Rat)=2:=rfl;rw [this,h2]
  grind
 have hmE:bF w≤1950:=by
  refine zy fun c=>?_;obtain⟨j,hj⟩:∃j,j=2000:=⟨_,rfl⟩;have h1:2^j≤grW w:=by
   unfold grW cY;rw [oh oq];refine qp (ob oz (show j≤52+(max (bF w) 1+1) by omega)) ?_;rw [ot];exact om _ (ww _ _)
  have h2:grW w<2^bl (uQ q 53 (-1074)):=by rw [hu];exact eC _
  have h3:=ob (n:=2) oz (show bl (uQ q 53 (-1074))≤j by omega);exact Nat.lt_irrefl _ (ol (ol h2 h3) h1)
 have nw:=tB hG hE;have aR:∀ {x:Nat},4*(q.num.natAbs*2^G)≤x*q.den→2*((q.num.natAbs:Rat)*((2^(G+1):Nat):Rat))≤(x:Rat)*(q.den:Rat):=fun {x} h=>by
  rw [e2,←ja];exact zl.2 h
 have bR:∀ {x:Nat},x*q.den≤4*(q.num.natAbs*2^G)→(x:Rat)*(q.den:Rat)≤2*((q.num.natAbs:Rat)*((2^(G+1):Nat):Rat)):=fun {x} h=>by
  rw [e2,←ja];exact zl.2 h
 by_cases h0:uQ q 53 (-1074)=0
 ·have hw:=hz h0;subst hw;have n0:gF 0*((2^(G+1):Nat):Rat)=0:=nw;have n1:gF 1*((2^(G+1):Nat):Rat)=4:=tB hG oz;have n2:gF 9223372036854775809*((2^(G+1):Nat):Rat)=-4:=tB hG oz;have hA:4*(q.num.natAbs*2^G)≤4*q.den:=hA;have hA:=aR hA;have h4:((4:Nat):Rat)=4:=rfl;rw [h4]at hA;have b1:(q.num:Rat)≤(q.num.natAbs:Rat):=by
   have:((q.num:Int):Rat)≤((q.num.natAbs:Int):Rat):=zz.2 oq;exact this
  have b2:-(q.num.natAbs:Rat)≤(q.num:Rat):=by
   have:((-(q.num.natAbs:Int):Int):Rat)≤((q.num:Int):Rat):=zz.2 oq;rw [jx]at this;exact this
  have c1:=jl b1 (xp hP);have c2:=jl b2 (xp hP);refine⟨aMb hP hdR hq n0 n1 (by grind),lU hP n0 n1 oz,aMa hP hdR hq n0 n2 (by grind),lU hP n2 n0 oz,⟨oz,oz,oz⟩,⟨oz,oz,oz⟩,.inl rfl⟩
 ·have hsg:=hs h0;have hg0:grW w≠0:=by rw [hu];exact h0
  have hm:cY w≠0:=fun e=>hg0 (by unfold grW;rw [e,ze]);have hr:=mD w;have hfr:=jS w;have hr0:w % 2^63≠0:=by
   unfold cY at hm;split at hm <;> omega
  obtain⟨v,rfl⟩:∃v,w=v+1:=⟨w-1,oq⟩;have hEv:bF v≤1950:=by
   unfold bF at *
   omega
  have hEu:bF (v+1+1)≤1951:=by
   unfold bF at *
   omega
  have s1:cC v=cC (v+1):=by
   unfold cC;rw [show v/2^63=(v+1) / 2^63 by omega]
  have s2:cC (v+1+1)=cC (v+1):=by
   unfold cC;rw [show (v+1+1) / 2^63=(v+1) / 2^63 by omega]
  have hB:=bR (aVn (w:=v) oq (hu.trans hu2));have hA:=aR hA;have g1:(grW v:Rat)≤(grW (v+1):Rat):=zl.2 (by rw [zU oq];exact ww _ _);have g2:(grW (v+1):Rat)≤(grW (v+1+1):Rat):=zl.2 (by rw [zU hE];exact ww _ _);have nv:=tB (w:=v) hG oq;have nu:=tB (w:=v+1+1) hG oq;rw [s1]at nv;rw [s2]at nu;rw [Rat.natCast_add]at hA hB;have hl:v+1+1<2^64:=oq
  rw [hsg]at nw nv nu
  by_cases g:q.num<0
  ·rw [decide_eq_true g]at nw nv nu hsg;have hup:upW (v+1)=v:=by unfold upW;rw [oh oq,hsg,og rfl];rfl
   have hdn:dnW (v+1)=v+1+1:=by unfold dnW;rw [oh oq,hsg,og rfl]
   have en:(q.num:Rat)=-(q.num.natAbs:Rat):=by
    have:((q.num:Int):Rat)=((-(q.num.natAbs:Int):Int):Rat):=congrArg _ oq;rw [jx]at this;exact this
   have m1:∀x:Nat,((sgn true x:Int):Rat)=-(x:Rat):=fun x=>by
    show ((-(x:Int):Int):Rat)=_;rw [jx];rfl
   rw [m1]at nw nv nu;refine⟨?_,?_,?_,?_,?_,?_,.inr hm⟩
   ·rw [hup];exact aMb hP hdR hq nw nv (by rw [en];grind)
   ·rw [hup];exact lU hP nw nv (by grind)
   ·rw [hdn];exact aMa hP hdR hq nw nu (by rw [en];grind)
   ·rw [hdn];exact lU hP nu nw (by grind)
   ·rw [hup,hdn];exact⟨oq,oq,oq⟩
   ·rw [hup,hdn];exact⟨oq,oq,oq⟩
  ·rw [decide_eq_false g]at nw nv nu hsg;have hup:upW (v+1)=v+1+1:=by unfold upW;rw [oh oq,hsg];rfl
   have hdn:dnW (v+1)=v:=by unfold dnW;rw [oh oq,hsg];rfl
   have en:(q.num:Rat)=(q.num.natAbs:Rat):=by
    have:((q.num:Int):Rat)=(((q.num.natAbs:Int):Int):Rat):=congrArg _ oq;exact this
   have m1:∀x:Nat,((sgn false x:Int):Rat)=(x:Rat):=fun x=>rfl;rw [m1]at nw nv nu;refine⟨?_,?_,?_,?_,?_,?_,.inr hm⟩
   ·rw [hup];exact aMb hP hdR hq nw nu (by rw [en];grind)
   ·rw [hup];exact lU hP nw nu (by grind)
   ·rw [hdn];exact aMa hP hdR hq nw nv (by rw [en];grind)
   ·rw [hdn];exact lU hP nv nw (by grind)
   ·rw [hup,hdn];exact⟨oq,oq,oq⟩
   ·rw [hup,hdn];exact⟨oq,oq,oq⟩
end
theorem rT {q:Rat}(h:q.num.natAbs≤2^66*q.den):bl (uQ q 53 (-1074))≤2000:=by
 obtain⟨G,hG⟩:∃G,G=1075:=⟨_,rfl⟩;have hu2:uQ q 53 (-1074)=kQ 53 2 (bJ 1075 q.num.natAbs q.den):=rfl;rw [hu2,←hG];have hd:=q.den_pos;have hc:bJ G q.num.natAbs q.den<2^(68+G):=by
  unfold bJ;have h1:q.num.natAbs*2^G/q.den≤2^66*2^G:=by
   refine Nat.div_le_of_le_mul ?_;have:=om (2^G) h;refine qp this (Nat.le_of_eq ?_);rw [oc (2^66) q.den,qu]
  have h2:(if q.num.natAbs*2^G % q.den=0 then 0 else 1)≤1:=by split <;> omega
  have h3:2^(68+G)=4*(2^66*2^G):=by
   rw [show 68+G=2+(66+G) by omega,ot 2 2,ot 2 66]
  have h4:0<2^66*2^G:=jy (od _) (od _);rw [h3];generalize 2^66*2^G=z at *
  omega
 generalize bJ G q.num.natAbs q.den=c at *
 unfold kQ;have h1:=zY (t:=max (bl c-53) 2) hc;have h2:bl c≤68+G:=dA.2 hc;have h3:max (68+G) (max (bl c-53) 2)=68+G:=oq
 rw [h3]at h1;have h4:half c (2^max (bl c-53) 2)*2^max (bl c-53) 2<2^(69+G):=by
  refine qr h1 ?_;exact vq oz oq
 have:=dA.2 h4;omega
def dist (v:Q4) (f:Rat):Q4:=(v.sub (Q4.real f)).mul (v.sub (Q4.real f))
theorem aQi {v:Q4}{f g h:Rat}(hv:nn ((Q4.real h).sub v)) (h1:f≤g) (h2:2*h≤f+g):nn ((dist v g).sub (dist v f)):=by
 have a:=eG (eG hv hv) (dN (q:=f+g-2*h) (by grind));have b:=pM (dN (q:=g-f) (by grind)) a;refine bZ b ?_;unfold dist;refine Q4.ext' ?_ ?_ ?_ ?_ <;> simp only [Q4.mul,Q4.sub,Q4.add,Q4.neg,Q4.real] <;> grind
theorem aQh {v:Q4}{f g l:Rat}(hv:nn (v.sub (Q4.real l))) (h1:g≤f) (h2:f+g≤2*l):nn ((dist v g).sub (dist v f)):=by
 have a:=eG (eG hv hv) (dN (q:=2*l-(f+g)) (by grind));have b:=pM (dN (q:=f-g) (by grind)) a;refine bZ b ?_;unfold dist;refine Q4.ext' ?_ ?_ ?_ ?_ <;> simp only [Q4.mul,Q4.sub,Q4.add,Q4.neg,Q4.real] <;> grind
theorem aTi {v w:Q4}(h:nn (w.sub v)):C.sg (v.sub w).toQ≤0:=by
 have e:v.sub w=(w.sub v).neg:=by
  refine Q4.ext' ?_ ?_ ?_ ?_ <;> simp only [Q4.sub,Q4.add,Q4.neg] <;> grind
 unfold nn at h;rw [e,aSp,C.aNr];omega
theorem aCv {q:Rat}{M:Nat}(h1:-(M:Rat)≤q) (h2:q≤(M:Rat)):q.num.natAbs≤M*q.den:=by
 have hd:(0:Rat)<(q.den:Rat):=ji.2 q.den_pos;have e:=dV q;have a1:=jl h1 (xp hd);have a2:=jl h2 (xp hd);rw [e]at a1 a2;rw [Rat.neg_mul,←ja]at a1;rw [←ja]at a2;have b1:((-((M*q.den:Nat):Int):Int):Rat)≤((q.num:Int):Rat):=by rw [jx];exact a1
 have b2:((q.num:Int):Rat)≤(((M*q.den:Nat):Int):Rat):=a2;have b1:=zz.1 b1;have b2:=zz.1 b2;omega
theorem Near4.beside {v:Q4}{W:Nat}(h:Near4 v 53 (-1074) 1024 W) (h1:nn (v.sub (Q4.real (-((2^66:Nat):Rat))))) (h2:nn ((Q4.real ((2^66:Nat):Rat)).sub v)) :
 ∃lo hi:Rat,nn (v.sub (Q4.real lo))∧nn ((Q4.real hi).sub v)∧Nb lo W∧Nb hi W:=by
 obtain⟨lo,hi,a1,a2,e1,e2⟩:=h;have le:=aAm a1 a2;have l1:=aAm a1 h2;have l2:=aAm h1 a2;have l3:=aAm h1 h2;generalize hM:(2^66:Nat)=M at *
 have ab:∀ {q:Rat},lo≤q→q≤hi→-(M:Rat)≤q→q≤(M:Rat)→Nb q W:=fun {q} b1 b2 b3 b4=>by
  have e:=aHu nW b1 b2 (e1.trans e2.symm);rw [e1]at e;rw [←e];refine nb ?_;exact rT (by rw [hM];exact aCv b3 b4)
 have lo':∃l:Rat,nn (v.sub (Q4.real l))∧Nb l W:=by
  by_cases c:-(M:Rat)≤lo
  ·exact⟨lo,a1,ab Rat.le_refl le c l1⟩
  ·have c:=xp (uy.1 c);exact⟨_,h1,ab c l2 Rat.le_refl l3⟩
 have hi':∃l:Rat,nn ((Q4.real l).sub v)∧Nb l W:=by
  by_cases c:hi≤(M:Rat)
  ·exact⟨hi,a2,ab le Rat.le_refl l2 c⟩
  ·have c:=xp (uy.1 c);exact⟨_,h2,ab l1 c l3 Rat.le_refl⟩
 obtain⟨l,x1,x2⟩:=lo';obtain⟨m,y1,y2⟩:=hi';exact⟨l,m,x1,y1,x2,y2⟩
theorem Near4.far {v:Q4}{W:Nat}(h:Near4 v 53 (-1074) 1024 W) (h1:nn (v.sub (Q4.real (-((2^66:Nat):Rat))))) (h2:nn ((Q4.real ((2^66:Nat):Rat)).sub v)) :
 C.sg ((dist v (gF W)).sub (dist v (gF (upW W)))).toQ≤0∧C.sg ((dist v (gF W)).sub (dist v (gF (dnW W)))).toQ≤0:=by
 obtain⟨lo,hi,a1,a2,n1,n2⟩:=h.beside h1 h2;exact⟨aTi (aQi a2 n2.upm n2.up),aTi (aQh a1 n1.dnm n1.dn)⟩
namespace FT
theorem lt_of {x y:Int}(h:x<y):(some (compare x y) == some Ordering.lt)=true:=by
 simp only [compare,compareOfLessAndEq];rw [og h];rfl
theorem aDz {s:Bool}{n:Nat}:(Datum.number s n 0).toInt .zero=some (sgn s n):=by
 unfold Datum.toInt Datum.integral;simp only [];have e:Toward.zero.cut s (n <<< (0:Int).toNat) (-(0:Int)).toNat=n:=by
  unfold Toward.cut;simp
 rw [e];unfold signed sgn;rw [wn]
end FT
open FT
section
variable {k:World}{R:World→Value→Prop}{s:Bool}{m:Nat}{p q e:Int}{w:Nat}
theorem aHd (h:Has double m p) (hn:p+m.log2 < -1022) (C:∀k',Up k k'→R k' (.tuple #[.float .f64 (double.nearest s m (p+52)),.int .i64 (-52)])):Cl k 240 #[.float .f64 (double.nearest s m p)] R:=by
 intro k0 u0;refine zQ (sL fun k1 u1=>⟨_,rfl,fun _=>?_,fun f=>?_⟩)
 ·have hm:=pK (s:=s) (t:=false) bV h (Has.one (p:=52) oz oz);have h1:(4841369599423283200:Nat)=double.nearest false 1 52:=by decide +kernel
  rw [jk,Bool.xor_false,←h1]at hm;have hm':Sy.fltR .f64 .mul (double.nearest s m p) 4841369599423283200=some (double.nearest s m (p+52)):=hm;rw [hm'];exact⟨rfl,fun k2 u2=>C k2 (u0.trans (u1.trans u2))⟩
 ·exfalso;have hr:=h.read (neg:=false) bV;have hl:m.log2<53:=(vp h.ne).2 h.bits;have hlow:(-1074:Int)≤p:=h.low;have elast:last double m p=-1074:=by
   unfold last;show max (p+m.log2-((52:Nat):Int)) (-1074)=_;omega
  have hlog:(m*2^(p-last double m p).toNat).log2=m.log2+(p-last double m p).toNat:=eH h.ne;have hne:m*2^(p-last double m p).toNat≠0:=jn h.ne (yz (od _));generalize last double m p=i at *
  subst elast;have hM:m*2^(p - -1074).toNat<2^52:=(vp hne).1 oq;generalize m*2^(p - -1074).toNat=M at *
  have hx:double.read 4503599627370496=.number false (2^52) (-1074):=by decide +kernel
  rw [show FloatKind.format .f64=double from rfl,gT hr hx]at f;rw [show min (-1074:Int) (-1074)=-1074 by omega,show ((-1074:Int) - -1074).toNat=0 by omega]at f;unfold signed at f;simp only [zg,if_false,wn]at f;rw [lt_of (by exact_mod_cast hM)]at f;cases f
theorem zS (h:Has double m q) (hn:-1022≤q+m.log2):Int.toNat (wrap .u64 (BitVec.toNat (BitVec.ofInt (IntKind.bits .u64) (wrap .u64 (BitVec.toNat (BitVec.ofInt (IntKind.bits .u64) ((double.nearest s m q:Nat):Int) &&& ~~~(BitVec.ofInt (IntKind.bits .u64) 9218868437227405312)))) ||| BitVec.ofInt (IntKind.bits .u64) 4602678819172646912)))=double.nearest s m (-((m.log2+1:Nat):Int)):=by
 obtain⟨c,hc,hall,g1,g2,g3,g4⟩:=parts (s:=s) h hn;have hw:=(near64 s m q).1;have hl:m.log2<53:=(vp h.ne).2 h.bits;have hq:Has double m (-((m.log2+1:Nat):Int)):=⟨h.ne,h.bits,by show (-1074:Int)≤_;omega,by show -((m.log2+1:Nat):Int)+m.log2-52+1074+3≤2048;omega⟩;have:=aEq (F:=1022) hw (by cases s <;> decide) hc oz g1 g2;rw [show wrap .u64 (((1022:Nat):Int)*2^(min (Int.toNat 52) (IntKind.bits .u64)))=4602678819172646912 from by decide]at this;rw [this,hall _ hq oq,show (-((m.log2+1:Nat):Int)+m.log2+1023).toNat=1022 by omega]
theorem aEz {e0:Int}(h:Has double m q) (hn:-1022≤q+m.log2) (he:-1000≤e0∧e0≤1000):wrap .i64 (e0+(wrap .i64 ((wrap .i64 ((wrap .i64 (wrap .u64 (BitVec.toNat (BitVec.ofInt (IntKind.bits .u64) (Int.fdiv ((double.nearest s m q:Nat):Int) (2^(min (Int.toNat 52) (IntKind.bits .u64)))) &&& BitVec.ofInt (IntKind.bits .u64) 2047))))-1023))+1)))=e0+q+m.log2+1:=by
 obtain⟨c,hc,hall,g1,g2,g3,g4⟩:=parts (s:=s) h hn;have hw:=(near64 s m q).1;have g5:bF (double.nearest s m q)=(q+m.log2+1023).toNat:=g3;have g6:(q+m.log2+1023).toNat<2048:=g4;rw [aQq hw,g5,qa,qa,qa];omega
theorem nonzero {x:Nat}(h:Has double m p) (hx:double.read x=.number false 0 (-1074)):(double.order (double.nearest s m p) x == some Ordering.eq)=false:=by
 have hr:=h.read (neg:=s) bV;have hne:m*2^(p-last double m p).toNat≠0:=jn h.ne (yz (od _));rw [gT hr hx];generalize m*2^(p-last double m p).toNat=M at *
 generalize last double m p=i at *
 have hz:signed s M (i-min i (-1074)).toNat≠0:=by
  unfold signed;rw [vj];have:=jn hne (yz (od (i-min i (-1074)).toNat));generalize M*2^(i-min i (-1074)).toNat=z at this;cases s <;> simp <;> omega
 have hz2:signed false 0 (-1074-min i (-1074)).toNat=0:=by unfold signed;simp
 rw [hz2];refine Bool.eq_false_iff.2 fun o=>hz (mW o)
theorem aVa (h:Has double m p) (C:∀k',Up k k'→R k' (.tuple #[.float .f64 (double.nearest s m (-((m.log2+1:Nat):Int))),.int .i64 (p+m.log2+1)])) :
 Cl k 91 #[.float .f64 (double.nearest s m p)] R:=by
 intro k0 u0;have h0:double.read 0=.number false 0 (-1074):=dD;have hl:m.log2<53:=(vp h.ne).2 h.bits;have hlow:(-1074:Int)≤p:=h.low;refine aEs fun k1 u1=>aEv ⟨fun f=>?_,fun _=>sM h fun k2 u2=>⟨_,rfl,(fun f=>by cases f),fun _=>sN h fun k5 u5=>⟨_,rfl,(fun f=>by cases f),fun _=>?_⟩⟩⟩
 ·have:=nonzero (s:=s) h h0;rw [show FloatKind.format .f64=double from rfl,this]at f;cases f
 by_cases hn:-1022≤p+m.log2
 ·refine aEy h hn fun k8 u8=>⟨_,_,rfl,fun k9 u9=>⟨_,_,rfl,fun k10 u10=>?_⟩⟩;have:=C k10 (u0.trans (u1.trans (u2.trans (u5.trans (u8.trans (u9.trans u10))))));rw [zS h hn,aEz h hn oz,Int.zero_add];exact this
 ·have h':Has double m (p+52):=⟨h.ne,h.bits,by show (-1074:Int)≤_;omega,by show p+52+m.log2-52+1074+3≤2048;omega⟩;refine aHd h oq fun k8 u8=>⟨_,_,rfl,fun k9 u9=>⟨_,_,rfl,fun k10 u10=>?_⟩⟩;have:=C k10 (u0.trans (u1.trans (u2.trans (u5.trans (u8.trans (u9.trans u10))))));rw [zS h' oq,aEz h' oq oz,show (-52:Int)+(p+52)+m.log2+1=p+m.log2+1 by omega];exact this
theorem aEa (h:Has double m p) (hp:p+m.log2=52):Sy.f2iOk .f64 .i64 (double.nearest s m p)=true∧Sy.f2i .f64 (double.nearest s m p)=sgn s (m*2^p.toNat)∧m*2^p.toNat<2^53:=by
 have hl:m.log2<53:=(vp h.ne).2 h.bits;have elast:last double m p=0:=by
  unfold last;show max (p+m.log2-((52:Nat):Int)) (-1074)=_;omega
 have hr:=h.read (neg:=s) bV;rw [elast,Int.sub_zero]at hr;have hne:m*2^p.toNat≠0:=jn h.ne (yz (od _));have hM:m*2^p.toNat<2^53:=(vp hne).1 (by rw [eH h.ne];omega);have hd:(FloatKind.decode .f64 (double.nearest s m p)).toInt .zero=some (sgn s (m*2^p.toNat)):=by
  rw [aXr];show (double.read _).toInt .zero=_;rw [hr,aDz]
 refine⟨?_,?_,hM⟩
 ·unfold Sy.f2iOk;rw [hd];refine decide_eq_true ?_;have e1:IntKind.i64.min=-9223372036854775808:=rfl;have e2:IntKind.i64.max=9223372036854775807:=rfl;rw [e1,e2];have e3:(2:Nat)^53=9007199254740992:=rfl;unfold sgn;split <;> omega
 ·unfold Sy.f2i;rw [hd];rfl
theorem aIn {k:World}{A:Option Addr}{n c:Nat}{b:Bool}{z:Int}{K:Nat}(h:IntV k #[.bool b,.slice A n c] z K):RatV k #[.bool b,.slice A n c,.slice none 0 0] (z:Rat) K:=by
 obtain⟨b',A',n',c',e,hi,hn⟩:=h;injection e with e;injection e with e1 e;injection e1 with e1;injection e with e2 e;injection e2 with e2 e3 e4;subst e1 e2 e3 e4;exact⟨_,_,_,_,none,0,0,rfl,⟨by rw [yq];exact hi,by rw [Rat.den_intCast,og rfl];exact LimR.nil⟩,hn,zx _⟩
theorem aFq {k:World}{K:Nat}:RatV k #[.bool false,.slice none 0 0,.slice none 0 0] 0 K:=
 ⟨_,_,_,_,none,0,0,rfl,⟨⟨rfl,LimR.nil⟩,LimR.nil⟩,zx _,zx _⟩
theorem aNu (s:Bool) (a b:Nat):sgn s (a*b)=sgn s a*(b:Int):=by
 unfold sgn;cases s <;> simp [Int.neg_mul]
theorem sO {s:Bool}{m j d:Nat}{p:Int}(h:p+d=j):mkRat (sgn s (m*2^j)) (1*2^d)=zO s m p:=by
 unfold zO;rw [jo];have e1:m*2^j=m*2^p.toNat*2^(j-p.toNat):=by rw [qu,←ot];congr 2;omega
 have e2:2^d=2^(-p).toNat*2^(j-p.toNat):=by rw [←ot];congr 1;omega
 rw [e1,e2,aNu,Rat.mkRat_mul_right (yz (od _))]
theorem aEb (h:Has double m p) (C:∀k' ds,Up k k'→RatV k' ds (zO s m p) 1200→R k' (.tuple #[.agg ds,.int .i64 0])) :
 Cl k 19 #[.float .f64 (double.nearest s m p)] R:=by
 intro k0 u0;have hl:m.log2<53:=(vp h.ne).2 h.bits;have hlow:(-1074:Int)≤p:=h.low;have htop:p+m.log2-52+1074+3≤2048:=h.top;refine mJ (sN h fun k1 u1=>⟨_,rfl,(fun f=>by cases f),fun _=>sM h fun k4 u4=>⟨_,rfl,(fun f=>by cases f),fun _=>?_⟩⟩);refine aVa h fun k7 u7=>⟨_,_,rfl,?_⟩;have hq:Has double m (-((m.log2+1:Nat):Int)):=⟨h.ne,h.bits,by show (-1074:Int)≤_;omega,by show -((m.log2+1:Nat):Int)+m.log2-52+1074+3≤2048;omega⟩;have hq':Has double m (-((m.log2+1:Nat):Int)+53):=⟨h.ne,h.bits,by show (-1074:Int)≤_;omega,by show -((m.log2+1:Nat):Int)+53+m.log2-52+1074+3≤2048;omega⟩;refine aCf hq oq hq' oz fun k9 u9=>⟨_,rfl,?_⟩;obtain⟨w1,w2,w3⟩:=aEa (s:=s) hq' oq;rw [w2];refine⟨w1,?_⟩;have e3:(2:Nat)^53=9007199254740992:=rfl;have ej:(-((m.log2+1:Nat):Int)+53).toNat=52-m.log2:=oq
 rw [ej]at w3 ⊢;have v9:=u0.trans (u1.trans (u4.trans (u7.trans u9)));have wE:wrap .i64 (p+m.log2+1-53)=p+m.log2-52:=by rw [qa];omega
 refine aXh (z:=sgn s (m*2^(52-m.log2))) (by unfold sgn;split <;> omega) (by unfold sgn;split <;> omega) fun k11 ds u11 hI=>?_;have hI':=hI;obtain⟨b,A,n,c,rfl,hr,hn⟩:=hI';refine⟨_,_,_,_,rfl,?_⟩
 try dsimp only
 rw [wE];have hz:(sgn s (m*2^(52-m.log2))).natAbs=m*2^(52-m.log2):=mG _ _;have hne:m*2^(52-m.log2)≠0:=jn h.ne (yz (od _));have hb:b=s:=by rw [hr.neg];exact aJd hne
 have hlim:=hr.lim;rw [hz]at hlim;refine⟨fun f=>?_,fun f=>?_⟩
 ·have f:=ow f;have es:p+m.log2-52=(((p+m.log2-52).toNat:Nat):Int):=oq
  rw [es];refine eL hlim oq oq fun k13 B j d u13 h13 l13=>⟨_,_,_,rfl,?_⟩;refine cZ (K:=1200) h13 oq oq fun k15 ds u15 h15=>?_;have h15':=h15;obtain⟨b9,A10,l10,c10,rfl,_⟩:=h15';refine⟨_,_,_,_,rfl,fun k16 u16=>C k16 _ (v9.trans (u11.trans (u13.trans (u15.trans u16)))) ?_⟩;have:=(aIn h15).up u16;rw [hb]at this;have e:((sgn s (m*2^(52-m.log2)*2^(p+m.log2-52).toNat):Int):Rat)=zO s m p:=by
   rw [qu,←ot,←sO (j:=52-m.log2+(p+m.log2-52).toNat) (d:=0) oq];exact (Rat.mkRat_one _).symm
  rwa [e]at this
 ·have f:=ov f;have es:wrap .i64 (0-(p+m.log2-52))=(((52-p-m.log2).toNat:Nat):Int):=by rw [qa];omega
  rw [es];refine kN (x:=1) oz fun k13 B j d u13 h13 l13=>⟨_,_,_,rfl,?_⟩;refine eL h13 oq oq fun k15 B j d u15 h15 l15=>⟨_,_,_,rfl,?_⟩;refine jX (K:=1200) ((hI.up (u13.trans u15)).mono oz) h15 (by have:=od (52-p-m.log2).toNat;omega) oz oq fun k17 ds u17 h17=>?_;have h17':=h17;obtain⟨g,A,n,c,D,d,e,rfl,_⟩:=h17';refine⟨_,_,_,_,_,_,_,rfl,fun k18 u18=>C k18 _ (v9.trans (u11.trans (u13.trans (u15.trans (u17.trans u18))))) ?_⟩;have:=h17.up u18
  rwa [sO (p:=p) oq]at this
theorem aBm {s:Bool}(C:∀k' ds,Up k k'→RatV k' ds 0 1200→R k' (.tuple #[.agg ds,.int .i64 0])) :
 Cl k 19 #[.float .f64 (double.nearest s 0 0)] R:=by
 intro k0 u0;have f1:∀s,(Format.order double (double.nearest s 0 0) (double.nearest s 0 0) != some Ordering.eq)=false:=by decide +kernel
 have f2:(Format.order double (double.nearest false 0 0) 9218868437227405311 == some Ordering.gt)=false:=by decide +kernel
 have f3:∀s,(Format.order double (double.nearest s 0 0) 0 == some Ordering.eq)=true:=by decide +kernel
 have f4:∀s,Sy.f2iOk .f64 .i64 (double.nearest s 0 0)=true∧Sy.f2i .f64 (double.nearest s 0 0)=0:=by decide +kernel
 refine mJ fun k1 u1=>eR fun k2 u2=>⟨_,rfl,fun f=>?_,fun _ k3 u3=>pG ⟨fun _=>sL fun k4 u4=>⟨_,rfl,fun k5 u5=>⟨_,rfl,fun f=>?_,fun _ k6 u6=>?_⟩⟩,fun f=>by cases f⟩⟩
 ·rw [show FloatKind.format .f64=double from rfl,f1 s]at f;cases f
 ·rw [show FloatKind.format .f64=double from rfl,f2]at f;cases f
 refine aEs fun k7 u7=>aEv ⟨fun _ k8 u8=>⟨_,_,rfl,fun k9 u9=>⟨_,_,rfl,?_⟩⟩,fun f=>by rw [show FloatKind.format .f64=double from rfl,f3 s]at f;cases f⟩;refine fun k10 u10=>aEt fun k11 u11=>aEx ⟨fun _ k12 u12=>⟨_,rfl,fun k13 u13=>⟨_,rfl,(f4 s).1,?_⟩⟩,fun f=>by rw [show FloatKind.format .f64=double from rfl,f3 s]at f;cases f⟩;rw [(f4 s).2];have v13:=u0.trans (u1.trans (u2.trans (u3.trans (u4.trans (u5.trans (u6.trans (u7.trans (u8.trans (u9.trans (u10.trans (u11.trans (u12.trans u13))))))))))));refine aXh (z:=0) oz oz fun k14 ds u14 hI=>?_;have hI':=hI;obtain⟨b,A,n,c,rfl,hr,hn⟩:=hI';refine⟨_,_,_,_,rfl,?_⟩
 try dsimp only
 rw [show wrap .i64 ((0:Int)-53)=-53 from by decide];refine⟨fun f=>absurd f oz,fun _=>?_⟩;rw [show wrap .i64 ((0:Int) - -53)=((53:Nat):Int) from by decide];refine kN (x:=1) oz fun k15 B j d u15 h15 l15=>⟨_,_,_,rfl,?_⟩;refine eL h15 oq oz fun k16 B j d u16 h16 l16=>⟨_,_,_,rfl,?_⟩;refine jX (K:=1200) ((hI.up (u15.trans u16)).mono oz) h16 oz oz oq fun k17 ds u17 h17=>?_;have h17':=h17;obtain⟨g,A,n,c,D,d,e,rfl,_⟩:=h17';refine⟨_,_,_,_,_,_,_,rfl,fun k18 u18=>C k18 _ (v13.trans (u14.trans (u15.trans (u16.trans (u17.trans u18))))) ?_⟩;have:=h17.up u18
 rwa [Rat.zero_mkRat]at this
theorem aLk {w:Nat}(h:w<2^64) (hE:bF w=2047) (hf:eS w=0):w=double.nearest (cC w) 1 5000:=by
 have e:=rV h;rw [mD,hE,hf]at e;rw [e];generalize cC w=s;have key:∀s,double.word s (2047*2^52+0)=double.nearest s 1 5000:=by decide +kernel
 have k2:∀s,cC (double.word s (2047*2^52+0))=s:=by decide +kernel
 rw [k2,key]
theorem aOt (h:w<2^64) (C:∀k' ds,Up k k'→RatV k' ds (gF w) 1200→R k' (.tuple #[.agg ds,.int .i64 (if bF w<2047 then 0 else 1)])) :
 Cl k 19 #[.float .f64 w] R:=by
 by_cases hE:bF w<2047
 ·rw [og hE]at C
  by_cases hm:cY w=0
  ·rw [aMg hE hm]at C;have e:w=double.nearest (cC w) 0 0:=by
    have hr:w % 2^63=0:=by
     rw [mD];unfold cY at hm;split at hm
     ·rename_i g;rw [g,hm]
     ·have:=od 52;omega
    have:=rV h;rw [hr]at this;rw [this];generalize cC w=s;have k2:∀s,cC (double.word s 0)=s:=by decide +kernel
    rw [k2];unfold Format.nearest;rw [og rfl]
   rw [e];exact aBm C
  ·obtain⟨e,hh⟩:=aJm h hE hm;have hn:gF w=zO (cC w) (cY w) (iK w):=by unfold gF;rw [og hE]
   rw [hn]at C;rw [e];generalize cC w=s at *
   generalize cY w=m at *
   generalize iK w=p at *
   exact aEb hh C
 ·have hE2:bF w=2047:=by have:=aCe w;omega
  have hn:gF w=0:=by unfold gF;rw [oh hE]
  rw [oh hE,hn]at C;intro k0 u0;have hr:=nG h;rw [oh hE]at hr
  by_cases hf:eS w=0
  ·have e:=aLk h hE2 hf;rw [e];generalize cC w=s;have f1:∀s,(Format.order double (double.nearest s 1 5000) (double.nearest s 1 5000) != some Ordering.eq)=false:=by decide +kernel
   have f2:(Format.order double (double.nearest false 1 5000) 9218868437227405311 == some Ordering.gt)=true:=by decide +kernel
   refine mJ fun k1 u1=>eR fun k2 u2=>⟨_,rfl,fun f=>?_,fun _ k3 u3=>pG ⟨fun _=>sL fun k4 u4=>⟨_,rfl,fun k5 u5=>⟨_,rfl,fun _ k6 u6=>?_,fun f=>?_⟩⟩,fun f=>by cases f⟩⟩
   ·rw [show FloatKind.format .f64=double from rfl,f1 s]at f;cases f
   ·exact C k6 _ (u0.trans (u1.trans (u2.trans (u3.trans (u4.trans (u5.trans u6)))))) aFq
   ·rw [show FloatKind.format .f64=double from rfl,f2]at f;cases f
  ·rw [oh hf]at hr;refine mJ fun k1 u1=>eR fun k2 u2=>⟨_,rfl,fun _ k3 u3=>C k3 _ (u0.trans (u1.trans (u2.trans u3))) aFq,fun f=>?_⟩;rw [show FloatKind.format .f64=double from rfl,aId hr]at f;cases f
end
