/- Several texts in one. (Printed by prep.py.) -/
import Derived.Test.YtifcjpacobpdmaaGreatReNL
namespace Go.Proofs.YtifcjpacobpdmaaGreat
open Num Ieee FT
theorem aOa {X d S:Nat}(hd:0<d):half X (d*(2*S))=half (2*(X/d)+(if X % d=0 then 0 else 1)) (2*(2*S)):=by
 have h1:X/(d*(2*S))=X/d/(2*S):=(jq X d (2*S)).symm;have h2:X % (d*(2*S))=X % d+d*(X/d % (2*S)):=Nat.mod_mul;have hr:X % d<d:=qy _ hd;have h3:(2*(X/d)+(if X % d=0 then 0 else 1)) / (2*(2*S))=X/d/(2*S):=by
  rw [←jq]
  congr 1
  split <;> omega
 have h4:(2*(X/d)+(if X % d=0 then 0 else 1)) % (2*(2*S))=2*(X/d % (2*S))+(if X % d=0 then 0 else 1):=by
  rw [Nat.mod_mul];have e1:(2*(X/d)+(if X % d=0 then 0 else 1)) / 2=X/d:=by split <;> omega
  have e2:(2*(X/d)+(if X % d=0 then 0 else 1)) % 2=(if X % d=0 then 0 else 1):=by split <;> omega
  rw [e1,e2];omega
 unfold half;rw [h1,h2,h3,h4];generalize X/d/(2*S)=q;generalize X/d % (2*S)=m;generalize X % d=r at hr;have a1:decide (d*(2*S)<2*(r+d*m))=decide (2*(2*S)<2*(2*m+(if r=0 then 0 else 1))):=by
  apply decide_eq_decide.2;rw [show d*(2*S)=2*(d*S) by ac_rfl];rcases kz S m with g|g|g
  ·have:d*S+d≤d*m:=by
    have:=qu d (show S+1≤m from g)
    rwa [zw,jj]at this
   split <;> omega
  ·subst g;split <;> omega
  ·have:d*m+d≤d*S:=by
    have:=qu d (show m+1≤S from g)
    rwa [zw,jj]at this
   split <;> omega
 have a2:(d*(2*S) == 2*(r+d*m))=(2*(2*S) == 2*(2*m+(if r=0 then 0 else 1))):=by
  rw [vz,beq_iff_eq,beq_iff_eq];rw [show d*(2*S)=2*(d*S) by ac_rfl];rcases kz S m with g|g|g
  ·have:d*S+d≤d*m:=by
    have:=qu d (show S+1≤m from g)
    rwa [zw,jj]at this
   split <;> omega
  ·subst g;split <;> omega
  ·have:d*m+d≤d*S:=by
    have:=qu d (show m+1≤S from g)
    rwa [zw,jj]at this
   split <;> omega
 rw [a1,a2]
theorem aJn {x y G:Nat}(h:x≤y):half x G≤half y G:=by
 have h1:x/G≤y/G:=Nat.div_le_div_right h;rcases zz (x/G) (y/G) with g|g
 ·exact qb (oF x G) (qb g (yD y G))
 ·have e:x/G=y/G:=vj h1 g;have h2:x % G≤y % G:=by
   have a:=qi x G;have b:=qi y G;rw [e]at a;omega
  unfold half;rw [e];refine Nat.add_le_add_left ?_ _;generalize x % G=r at *
  generalize y % G=t at *
  generalize (y/G % 2 == 1)=o
  by_cases c:G<2*t
  ·rw [decide_eq_true c,Bool.true_or];generalize (decide (G<2*r) || (G == 2*r && o))=b;cases b <;> decide
  ·have c2:¬ G<2*r:=oq
   rw [decide_eq_false c,decide_eq_false c2,ke,ke]
   by_cases d:G=2*r
   ·have:G=2*t:=oq
    rw [beq_iff_eq.2 d,beq_iff_eq.2 this];exact oy _
   ·rw [beq_eq_false_iff_ne.2 d,Bool.false_and];exact jk _
def bY (G a d:Nat):Nat:=2*(a*2^G/d)+(if a*2^G % d=0 then 0 else 1)
def sB (bits t c:Nat):Nat:=half c (2^max (bl c-bits) t)*2^max (bl c-bits) t
def eT (s:Bool) (beyond:Int) (G u:Nat):Nat:=
 if u=0 then 0 else if beyond+(G+1)<bl u then double.nearest s 1 5000 else double.nearest s u (-((G+1:Nat):Int))
theorem xS {m k:Nat}(hm:m≠0):bl (m*2^k)=bl m+k:=by
 have hne:m*2^k≠0:=jm hm (by have:=ot k;omega);unfold bl;rw [oh hm,oh hne,eA hm];omega
theorem bAn {m k:Nat}:k<bl m↔2^k≤m:=by
 have:=dD (n:=m) (k:=k);omega
theorem aMz {z:Nat}(h:z≠0) (b:Nat) (hb:b≤1):bl (2*z+b)=bl z+1:=by
 have h1:=eP z;have h2:=dT h;have hb1:1≤bl z:=by unfold bl;rw [oh h];omega
 refine vj (dD.2 ?_) (bAn.2 ?_)
 ·rw [ql];omega
 ·rw [show bl z=bl z-1+1 by omega,ql];omega
theorem aQi {G a d t:Nat}(hd:d≠0) (ht:2≤t):aCj a d ((t:Int)-(G+1))=half (bY G a d) (2^t):=by
 have key:aCj a d ((t:Int)-(G+1))=half (a*2^G) (d*(2*2^(t-2))):=by
  unfold aCj;have e2:2*2^(t-2)=2^(t-1):=by rw [oa,←ql];congr 1;omega
  rw [e2];generalize he:(t:Int)-(G+1)=e;have e3:a*2^G=a*2^(-e).toNat*2^(G-(-e).toNat):=by
   rw [qf,←oi];congr 2;omega
  have e4:d*2^(t-1)=d*2^e.toNat*2^(G-(-e).toNat):=by
   rw [qf,←oi];congr 2;omega
  rw [e3,e4,tS (ot _)]
 rw [key,aOa oq]
 congr 1
 rw [show 2^t=2^(t-2+2) by congr 1;omega,ql,ql];omega
theorem aIx (G d:Nat):bY G 0 d=0:=by unfold bY;rw [je,Nat.zero_div,Nat.zero_mod];rfl
theorem aOo {G a d bits:Nat}{least:Int}(ha:a≠0) (hd:d≠0) (hb:1≤bits) (hl:1≤least+G) :
 nC a d bits least=((max (bl (bY G a d)-bits) (least+G+1).toNat:Nat):Int)-(G+1):=by
 rw [aZi hd,show (if below2 a d ((bl a:Int)-bl d) then (bl a:Int)-bl d-1 else (bl a:Int)-bl d)=aCz a d from rfl];have h0:=aKh (a:=a) ha hd;have h1:below2 a d (aCz a d+1):=by
  unfold aCz;split
  ·rename_i h;rwa [show (bl a:Int)-bl d-1+1=(bl a:Int)-bl d by omega]
  ·exact sZ hd
 by_cases hz:a*2^G/d=0
 ·have hlt:a*2^G<d:=by
   rcases Nat.div_eq_zero_iff.1 hz with h|h
   ·exact absurd h hd
   ·exact h
  have hc:bl (bY G a d)≤1:=by
   unfold bY;rw [hz];split <;> decide
  have ht:aCz a d < -(G:Int):=jg fun c=>h0 (by
   refine kK hd (e:=-(G:Int)) ?_ oq;unfold below2;rw [show (- -(G:Int)).toNat=G by omega,show (-(G:Int)).toNat=0 by omega,zy,jj]
   exact hlt)
  omega
 ·have hc:bl (bY G a d)=bl (a*2^G/d)+1:=by
   unfold bY;split
   ·exact aMz hz 0 oz
   ·exact aMz hz 1 oz
  have g1:aCz a d+1≤(bl (a*2^G/d):Int)-G:=by
   refine jg fun c=>h0 (kK hd (e:=(bl (a*2^G/d):Int)-G) ?_ oq)
   have hq:=(lX (a:=a) (bits:=bl (a*2^G/d)) (f:=-(G:Int)) hd).1 (by
    unfold nL;rw [show (- -(G:Int)).toNat=G by omega,show (-(G:Int)).toNat=0 by omega,zy,jj]
    exact oy _)
   rwa [show -(G:Int)+(bl (a*2^G/d):Nat)=(bl (a*2^G/d):Int)-G by omega]at hq
  have g2:(bl (a*2^G/d):Int)-G≤aCz a d+1:=by
   have hbz:1≤bl (a*2^G/d):=by unfold bl;rw [oh hz];omega
   refine jg fun c=>?_;have hq:=(lX (a:=a) (bits:=bl (a*2^G/d)-1) (f:=-(G:Int)) hd).2 (kK hd h1 oq);unfold nL at hq;rw [show (- -(G:Int)).toNat=G by omega,show (-(G:Int)).toNat=0 by omega,zy,jj]at hq;omega
  omega
theorem aEq {s:Bool}{G a d bits:Nat}{least beyond:Int}(hd:d≠0) (hb:1≤bits) (hl:1≤least+G) (hlb:least≤beyond) :
 kI s a d bits least beyond=eT s beyond G (sB bits (least+G+1).toNat (bY G a d)):=by
 unfold kI eT sB
 by_cases ha:a=0
 ·subst ha;rw [od rfl,aIx];have:half 0 (2^max (bl 0-bits) (least+G+1).toNat)=0:=by
   have:=oG (a:=0) (G:=2^max (bl 0-bits) (least+G+1).toNat) (ot _)
   rwa [je]at this
  rw [this,je,od rfl]
 rw [oh ha];have el:=aOo (bits:=bits) (least:=least) ha hd hb hl;have em:vL a d bits least=half (bY G a d) (2^max (bl (bY G a d)-bits) (least+G+1).toNat):=by
  unfold vL;rw [el];exact aQi hd oq
 rw [el,em];have hz:half (bY G a d) (2^max (bl (bY G a d)-bits) (least+G+1).toNat)=0→max (bl (bY G a d)-bits) (least+G+1).toNat=(least+G+1).toNat:=fun h=>by
  have h1:=yD (bY G a d) (2^max (bl (bY G a d)-bits) (least+G+1).toNat);rw [h]at h1;have h2:bY G a d<2^max (bl (bY G a d)-bits) (least+G+1).toNat:=by
   rcases Nat.div_eq_zero_iff.1 (Nat.le_zero.1 h1) with g|g
   ·have:=ot (max (bl (bY G a d)-bits) (least+G+1).toNat);omega
   ·exact g
  have h3:=dD.2 h2;omega
 generalize max (bl (bY G a d)-bits) (least+G+1).toNat=t at *
 generalize half (bY G a d) (2^t)=m at *
 by_cases hm:m=0
 ·subst hm;rw [je,od rfl,od rfl];have h0:bl 0=0:=rfl;have:=hz rfl;rw [h0,oh oq]
 ·have hne:m*2^t≠0:=jm hm (by have:=ot t;omega);rw [oh hm,oh hne,xS hm];have e:double.nearest s (m*2^t) (-((G+1:Nat):Int))=double.nearest s m ((t:Int)-(G+1)):=by
   have:=cQ (f:=double) (neg:=s) (m:=m) (k:=t) (p:=(t:Int)-(G+1)) hm
   rwa [show (t:Int)-(G+1)-(t:Nat)=-((G+1:Nat):Int) by omega]at this
  rw [e]
  by_cases c:beyond+(G+1)<((bl m+t:Nat):Int)
  ·rw [od oq,od c]
  ·rw [oh oq,oh c]
theorem aAc {m n:Nat}(h:m≤n):bl m≤bl n:=dD.2 (qe h (eP n))
theorem aNz {c t b:Nat}(h:c<2^b):half c (2^t)*2^t≤2^max b t:=by
 rcases zz b t with g|g
 ·have h1:c/2^t=0:=qs (oo h (oc oz oq));have h2:=oF c (2^t);rw [h1]at h2;have h3:=om (2^t) h2;rw [jx,zk]at h3;rw [Nat.max_eq_right oq];exact h3
 ·have h1:c/2^t<2^(b-t):=xe (by rw [←oi,show t+(b-t)=b by omega];exact h);have h2:=oF c (2^t);have h3:=om (2^t) (show half c (2^t)≤2^(b-t) by omega);rw [←oi,show b-t+t=b by omega]at h3;rw [Nat.max_eq_left g];exact h3
theorem aLn {bits t c c':Nat}(hb:1≤bits) (h:c≤c'):sB bits t c≤sB bits t c':=by
 have hbl:=aAc h;unfold sB
 by_cases e:max (bl c-bits) t=max (bl c'-bits) t
 ·rw [e];exact om _ (aJn h)
 ·have h1:max (bl c'-bits) t=bl c'-bits:=oq
  have h2:max (bl c-bits) t<bl c'-bits:=oq
  rw [h1];have a:=aNz (t:=max (bl c-bits) t) (eP c);have b:2^(bl c'-1)≤half c' (2^(bl c'-bits))*2^(bl c'-bits):=by
   have hne:c'≠0:=fun e=>by subst e;have:bl 0=0:=rfl;omega
   have h3:=dT hne;have h4:2^(bl c'-1-(bl c'-bits))≤c' / 2^(bl c'-bits):=by
    rw [zq (ot _),←oi,show bl c'-1-(bl c'-bits)+(bl c'-bits)=bl c'-1 by omega];exact h3
   have h5:=om (2^(bl c'-bits)) (qb h4 (yD c' (2^(bl c'-bits))))
   rwa [←oi,show bl c'-1-(bl c'-bits)+(bl c'-bits)=bl c'-1 by omega]at h5
  exact qb a (qb (oc oz oq) b)
theorem lM {G a d a' d':Nat}(hd:0<d) (hd':0<d') (h:a*d'≤a'*d):bY G a d≤bY G a' d':=by
 have h1:a*2^G*d'≤a'*2^G*d:=by
  rw [Nat.mul_right_comm,Nat.mul_right_comm a'];exact om _ h
 unfold bY;generalize a*2^G=X at *
 generalize a'*2^G=Y at *
 have hx:=qi X d;have hy:=qi Y d';have hr:=qy X hd;have hr':=qy Y hd';have h2:X/d≤Y/d':=by
  rw [zq hd'];have h3:X/d*d'*d≤Y*d:=by
   refine qb ?_ h1;rw [Nat.mul_right_comm];exact om _ (zt X d)
  exact Nat.le_of_mul_le_mul_right h3 hd
 rcases zz (X/d) (Y/d') with g|g
 ·split <;> split <;> omega
 ·have e:X/d=Y/d':=vj h2 g
  by_cases c:Y % d'=0
  ·have hc:X % d=0:=by
    rw [c,jl,←e]at hy;rw [←hx,←hy]at h1;generalize X/d=q at *
    rw [jt,qf,oa (d'*q) d,←qf,←qf]at h1;have e2:d*q*d'=d*d'*q:=by ac_rfl
    rw [e2]at h1;have h4:X % d*d'=0:=oq
    rcases Nat.mul_eq_zero.1 h4 with z|z
    ·exact z
    ·omega
   rw [od hc,od c];omega
  ·rw [oh c];split <;> omega
open Num Ieee FT Plain
theorem aGq:bl 0=0:=rfl
def InF (G u:Nat):Prop:=∃m p,Has double m p∧-((G+1:Nat):Int)≤p∧u=m*2^(p+(G+1:Nat)).toNat
def Img (b:Int) (G u:Nat):Prop:=u=0∨(u≠0∧b+(G+1)<bl u)∨(u≠0∧¬ b+(G+1)<bl u∧InF G u)
theorem aQo {G bits t c:Nat}{b:Int}(hbits:bits≤53) (hb:b≤1024) (hG:1074≤G) (ht:(G:Int)+1-1074≤t):Img b G (sB bits t c):=by
 by_cases h0:sB bits t c=0
 ·exact .inl h0
 refine .inr ?_
 by_cases h1:b+(G+1)<bl (sB bits t c)
 ·exact .inl ⟨h0,h1⟩
 refine .inr ⟨h0,h1,?_⟩;unfold sB at *
 have hm:half c (2^max (bl c-bits) t)≤2^53:=by
  have a:=oF c (2^max (bl c-bits) t)
  have b:c/2^max (bl c-bits) t<2^bits:=xe (by
   rw [←oi]
   exact oo (eP c) (oc oz oq))
  have d:2^bits≤2^53:=oc oz hbits;omega
 have ht2:t≤max (bl c-bits) t:=yk _ _;generalize max (bl c-bits) t=w at *
 generalize half c (2^w)=m at *
 have hm0:m≠0:=fun e=>h0 (by rw [e,je]);rw [xS hm0]at h1;rcases zz m (2^53) with g|g
 ·refine⟨m,(w:Int)-(G+1:Nat),oH hm0 g oq oq,oq,?_⟩;rw [show ((w:Int)-(G+1:Nat)+(G+1:Nat)).toNat=w by omega]
 ·have e:m=2^53:=vj hm g;subst e;have hl:bl (2^53)=54:=by decide +kernel
  rw [hl]at h1;have h11:bl 1=1:=by decide +kernel
  refine⟨1,(w:Int)+53-(G+1:Nat),oH oz oz oq (by rw [h11];omega),oq,?_⟩;rw [show ((w:Int)+53-(G+1:Nat)+(G+1:Nat)).toNat=53+w by omega,zk,oi]
theorem InF.read {G u:Nat}(h:InF G u) (hG:1074≤G) (s:Bool):∃M i,double.read (double.nearest s u (-((G+1:Nat):Int)))=.number s M i∧M≠0∧-((G+1:Nat):Int)≤i∧u=M*2^(i+(G+1:Nat)).toNat:=by
 obtain⟨m,p,h,hp,rfl⟩:=h;have hle:=h.last_le;have hlow:(-1074:Int)≤last double m p:=uz _ _;refine⟨m*2^(p-last double m p).toNat,last double m p,?_,jm h.ne (xg (ot _)),oq,?_⟩
 ·have e:double.nearest s (m*2^(p+(G+1:Nat)).toNat) (-((G+1:Nat):Int))=double.nearest s m p:=by
   have:=cQ (f:=double) (neg:=s) (m:=m) (k:=(p+(G+1:Nat)).toNat) (p:=p) h.ne
   rwa [show p-((p+(G+1:Nat)).toNat:Nat)=-((G+1:Nat):Int) by omega]at this
  rw [e];exact h.read aN
 ·rw [qf,←oi]
  congr 2
  omega
theorem dG:double.read 0=.number false 0 (-1074):=by decide +kernel
theorem cW (s:Bool):double.read (double.nearest s 1 5000)=.infinity s:=by cases s <;> decide +kernel
theorem xJ {b:Int}{G u u':Nat}{s s':Bool}(hG:1074≤G) (h:Img b G u) (h':Img b G u') (e:eT s b G u=eT s' b G u') :
 (u=0∧u'=0)∨(u≠0∧u'≠0∧s=s'∧((b+(G+1)<bl u∧b+(G+1)<bl u')∨u=u')):=by
 unfold eT at e;rcases h with h|⟨h,g⟩|⟨h,g,i⟩ <;> rcases h' with h'|⟨h',g'⟩|⟨h',g',i'⟩
 ·exact .inl ⟨h,h'⟩
 ·rw [od h,oh h',od g']at e;have:=congrArg double.read e;rw [dG,cW]at this;cases this
 ·rw [od h,oh h',oh g']at e;obtain⟨M,j,r,hM,_⟩:=i'.read hG s';have:=congrArg double.read e;rw [dG,r]at this;injection this with _ a;exact absurd a.symm hM
 ·rw [od h',oh h,od g]at e;have:=congrArg double.read e;rw [dG,cW]at this;cases this
 ·rw [oh h,oh h',od g,od g']at e;have:=congrArg double.read e;rw [cW,cW]at this;injection this with a;exact .inr ⟨h,h',a,.inl ⟨g,g'⟩⟩
 ·rw [oh h,oh h',od g,oh g']at e;obtain⟨M,j,r,hM,_⟩:=i'.read hG s';have:=congrArg double.read e;rw [cW,r]at this;cases this
 ·rw [od h',oh h,oh g]at e;obtain⟨M,j,r,hM,_⟩:=i.read hG s;have:=congrArg double.read e;rw [dG,r]at this;injection this with _ a;exact absurd a hM
 ·rw [oh h,oh h',oh g,od g']at e;obtain⟨M,j,r,hM,_⟩:=i.read hG s;have:=congrArg double.read e;rw [cW,r]at this;cases this
 ·rw [oh h,oh h',oh g,oh g']at e;obtain⟨M,j,r,hM,_,eu⟩:=i.read hG s;obtain⟨M',j',r',hM',_,eu'⟩:=i'.read hG s';have:=congrArg double.read e;rw [r,r']at this;injection this with a1 a2 a3;exact .inr ⟨h,h',a1,.inr (by rw [eu,eu',a2,a3])⟩
theorem aTx (z:Int):(some (compare z z) == some Ordering.eq)=true:=by rw [show compare z z=Ordering.eq from by simp [compare,compareOfLessAndEq]];rfl
theorem mZ {x y:Int}(h:(some (compare x y) == some Ordering.eq)=true):x=y:=by
 simp only [compare,compareOfLessAndEq]at h
 by_cases a:x<y
 ·rw [od a]at h;cases h
 ·rw [oh a]at h
  by_cases c:x=y
  ·exact c
  ·rw [oh c]at h;cases h
theorem aEx {w:Nat}(h:∀s t,double.read w≠.nan s t):(double.order w w == some Ordering.eq)=true:=by
 unfold Format.order;generalize double.read w=d at h;cases d with
 | nan s t=>exact absurd rfl (h s t)
 | infinity s=>unfold Datum.order;cases s <;> rfl
 | number s m i=>exact aTx _
theorem aEy {b:Int}{G u u':Nat}{s s':Bool}(hG:1074≤G) (h:Img b G u) (h':Img b G u') :
 (double.order (eT s b G u) (eT s' b G u') == some Ordering.eq)=decide (eT s b G u=eT s' b G u'):=by
 by_cases e:eT s b G u=eT s' b G u'
 ·rw [←e,decide_eq_true rfl];refine aEx ?_;unfold eT;rcases h with h|⟨h,g⟩|⟨h,g,i⟩
  ·rw [od h,dG];intro _ _ c;cases c
  ·rw [oh h,od g,cW];intro _ _ c;cases c
  ·obtain⟨M,j,r,hM,_⟩:=i.read hG s;rw [oh h,oh g,r];intro _ _ c;cases c
 ·rw [decide_eq_false e];refine Bool.eq_false_iff.2 fun o=>e ?_;unfold eT at o ⊢;unfold Format.order at o;rcases h with h|⟨h,g⟩|⟨h,g,i⟩ <;> rcases h' with h'|⟨h',g'⟩|⟨h',g',i'⟩
  ·rw [od h,od h']
  ·rw [od h,oh h',od g',dG,cW]at o;cases s' <;> cases o
  ·obtain⟨M,j,r,hM,_⟩:=i'.read hG s';rw [od h,oh h',oh g',dG,r]at o;have o:_=_:=mZ o;exfalso;unfold signed at o;simp only [zf,je]at o;have p1:=jm hM (xg (ot (j-min (-1074) j).toNat));generalize M*2^(j-min (-1074) j).toNat=x at o p1;clear h h' e g' r;cases s' <;> simp at o <;> omega
  ·rw [oh h,od h',od g,dG,cW]at o;cases s <;> cases o
  ·rw [oh h,oh h',od g,od g',cW,cW]at o;rw [oh h,oh h',od g,od g'];cases s <;> cases s' <;> first|rfl|cases o
  ·obtain⟨M,j,r,hM,_⟩:=i'.read hG s';rw [oh h,oh h',od g,oh g',cW,r]at o;cases s <;> cases o
  ·obtain⟨M,j,r,hM,_⟩:=i.read hG s;rw [oh h,od h',oh g,dG,r]at o;have o:_=_:=mZ o;exfalso;unfold signed at o;simp only [zf,je]at o;have p1:=jm hM (xg (ot (j-min j (-1074)).toNat));generalize M*2^(j-min j (-1074)).toNat=x at o p1;clear h h' e g r;cases s <;> simp at o <;> omega
  ·obtain⟨M,j,r,hM,_⟩:=i.read hG s;rw [oh h,oh h',oh g,od g',cW,r]at o;cases s' <;> cases o
  ·obtain⟨M,j,r,hM,hj,eu⟩:=i.read hG s;obtain⟨M',j',r',hM',hj',eu'⟩:=i'.read hG s';rw [oh h,oh h',oh g,oh g',r,r']at o;have o:_=_:=mZ o;rw [oh h,oh h',oh g,oh g'];unfold signed at o;simp only [zf]at o;have p1:=jm hM (show 2^(j-min j j').toNat≠0 by have:=ot (j-min j j').toNat;omega);have p2:=jm hM' (show 2^(j'-min j j').toNat≠0 by have:=ot (j'-min j j').toNat;omega);have key:s=s'∧M*2^(j-min j j').toNat=M'*2^(j'-min j j').toNat:=by
    generalize M*2^(j-min j j').toNat=x at o p1;generalize M'*2^(j'-min j j').toNat=y at o p2;cases s <;> cases s' <;> simp at o ⊢ <;> omega
   obtain⟨rfl,k2⟩:=key;have:u=u':=by
    rw [eu,eu',show (j+(G+1:Nat)).toNat=(j-min j j').toNat+(min j j'+(G+1:Nat)).toNat by omega,show (j'+(G+1:Nat)).toNat=(j'-min j j').toNat+(min j j'+(G+1:Nat)).toNat by omega,oi,oi,←qf,←qf,k2]
   rw [this]
theorem xK {b:Int}{G u u' u'':Nat}{s:Bool}(hG:1074≤G) (h:Img b G u) (h'':Img b G u'') (a:u≤u') (c:u'≤u'') (e:eT s b G u=eT s b G u''):eT s b G u'=eT s b G u:=by
 rcases xJ hG h h'' e with ⟨h1,h2⟩|⟨h1,h2,_,⟨h3,h4⟩|h3⟩
 ·rw [show u'=u by omega]
 ·have:=aAc a;unfold eT;rw [oh h1,oh oq,od h3,od oq]
 ·rw [show u'=u by omega]
def cV (q:Rat) (bits:Nat) (least beyond:Int):Nat:=kI (decide (q.num<0)) q.num.natAbs q.den bits least beyond
section
variable {lo hi x:Rat}{bits:Nat}{least beyond:Int}
structure Fmt (bits:Nat) (least beyond:Int):Prop where
 one:1≤bits
 bits:bits≤53
 low:-1074≤least
 top:beyond≤1024
 mid:least≤beyond
theorem gV:Fmt 24 (-149) 128:=⟨oz,oz,oz,oz,oz⟩
def uQ (q:Rat) (bits:Nat) (least:Int):Nat:=sB bits (least+(1075:Nat)+1).toNat (bY 1075 q.num.natAbs q.den)
theorem fC (F:Fmt bits least beyond) (q:Rat):cV q bits least beyond=eT (decide (q.num<0)) beyond 1075 (uQ q bits least):=
 aEq q.den_nz F.one (by have:=F.low;omega) F.mid
theorem lH (F:Fmt bits least beyond) (q:Rat):Img beyond 1075 (uQ q bits least):=aQo F.bits F.top oz (by have:=F.low;omega)
theorem mF (F:Fmt bits least beyond) (h:lo.num.natAbs*hi.den≤hi.num.natAbs*lo.den):uQ lo bits least≤uQ hi bits least:=aLn F.one (lM lo.den_pos hi.den_pos h)
theorem sW {x y:Rat}(h:x≤y) (h0:0≤x.num):x.num.natAbs*y.den≤y.num.natAbs*x.den:=by
 have h1:=(Rat.le_iff x y).1 h;have hd:=y.den_pos;have h2:0≤y.num:=by
  have:0≤x.num*y.den:=Int.mul_nonneg h0 oq;refine jg fun c=>?_;have:=Int.mul_neg_of_neg_of_pos (show y.num<0 by omega) (show (0:Int)<x.den by have:=x.den_pos;omega);omega
 have e1:x.num=(x.num.natAbs:Int):=oq
 have e2:y.num=(y.num.natAbs:Int):=oq
 rw [e1,e2]at h1
 exact_mod_cast h1
theorem jO {x y:Rat}(h:x≤y) (h0:y.num≤0):y.num.natAbs*x.den≤x.num.natAbs*y.den:=by
 have:=sW (Rat.neg_le_neg h) (by rw [Rat.neg_num];omega)
 rwa [Rat.neg_num,Rat.neg_num,Rat.neg_den,Rat.neg_den,Int.natAbs_neg,Int.natAbs_neg]at this
theorem lU {x y:Rat}(h:x≤y) (h0:0≤x.num):0≤y.num:=Rat.num_nonneg.2 (Rat.le_trans (Rat.num_nonneg.1 h0) h)
theorem wQ (F:Fmt bits least beyond) (h1:lo≤x) (h2:x≤hi) (e:cV lo bits least beyond=cV hi bits least beyond):cV x bits least beyond=cV lo bits least beyond:=by
 rw [fC F,fC F]at e;rw [fC F,fC F]
 by_cases a:0≤lo.num
 ·have b:=lU h1 a;have c:=lU h2 b;rw [decide_eq_false (show ¬ lo.num<0 by omega),decide_eq_false (show ¬ hi.num<0 by omega)]at e;rw [decide_eq_false (show ¬ lo.num<0 by omega),decide_eq_false (show ¬ x.num<0 by omega)];exact xK oz (lH F lo) (lH F hi) (mF F (sW h1 a)) (mF F (sW h2 b)) e
 ·by_cases c:0≤hi.num
  ·rw [decide_eq_true (show lo.num<0 by omega),decide_eq_false (show ¬ hi.num<0 by omega)]at e;rcases xJ oz (lH F lo) (lH F hi) e with ⟨z1,z2⟩|⟨_,_,z,_⟩
   ·have:uQ x bits least=0:=by
     by_cases b:0≤x.num
     ·have:=mF F (sW h2 b);omega
     ·have:=mF F (jO h1 oq);omega
    rw [this,z1];rfl
   ·cases z
  ·have b:x.num<0:=jg fun g=>c (lU h2 oq);rw [decide_eq_true (show lo.num<0 by omega),decide_eq_true (show hi.num<0 by omega)]at e;rw [decide_eq_true (show lo.num<0 by omega),decide_eq_true b];have:=xK oz (lH F hi) (lH F lo) (mF F (jO h2 oq)) (mF F (jO h1 oq)) e.symm;rw [this,e]
theorem aBk (F:Fmt bits least beyond) (x y:Rat):(double.order (cV x bits least beyond) (cV y bits least beyond) == some Ordering.eq)=decide (cV x bits least beyond=cV y bits least beyond):=by
 rw [fC F,fC F];exact aEy oz (lH F x) (lH F y)
theorem vT {G a d a' d':Nat}(hd:0<d) (hd':0<d') (h:a*d'≤a'*d) (hz:a'*2^G/d'*d<a*2^G):bY G a d=bY G a' d':=by
 have h1:=lM (G:=G) hd hd' h;refine vj h1 ?_;unfold bY;generalize a*2^G=X at *
 generalize a'*2^G/d'=z at *
 have h2:z≤X/d:=(zq hd).2 oq;have hx:=qi X d;rcases zz z (X/d) with g|g
 ·split <;> split <;> omega
 ·have e:z=X/d:=vj h2 g;have:X % d≠0:=fun c=>by
   rw [c,jl,←e,oa]at hx;omega
  rw [oh this];split <;> omega
theorem aBa (q:Rat) (G:Nat):q*((2^G:Nat):Rat)*(q.den:Rat)=((q.num*((2^G:Nat):Int):Int):Rat):=by
 rw [yv,Rat.mul_comm ((2^G:Nat):Rat),←yv,kR,yb];rfl
theorem aAz (q:Rat) (z:Int):(z:Rat)*(q.den:Rat)=((z*(q.den:Int):Int):Rat):=by
 rw [yb];rfl
theorem yB {q:Rat}{z:Int}{G:Nat}(h:¬ (z:Rat) / ((2^G:Nat):Rat)≤q):q.num*((2^G:Nat):Int)<z*q.den:=by
 have hp:(0:Rat)<((2^G:Nat):Rat):=vu.2 (ot G);have hd:(0:Rat)<(q.den:Rat):=vu.2 q.den_pos;have h1:=(Rat.mul_lt_mul_right hd).2 ((Rat.lt_div_iff hp).1 (Rat.not_le.1 h));rw [aBa,aAz]at h1;exact Rat.intCast_lt_intCast.1 h1
theorem yC {q:Rat}{z:Int}{G:Nat}(h:¬ q≤(z:Rat) / ((2^G:Nat):Rat)):z*q.den<q.num*((2^G:Nat):Int):=by
 have hp:(0:Rat)<((2^G:Nat):Rat):=vu.2 (ot G);have hd:(0:Rat)<(q.den:Rat):=vu.2 q.den_pos;have h1:=(Rat.mul_lt_mul_right hd).2 ((Rat.div_lt_iff hp).1 (Rat.not_le.1 h));rw [aBa,aAz]at h1;exact Rat.intCast_lt_intCast.1 h1
theorem cM (a b:Nat):((a:Int)*(b:Int))=((a*b:Nat):Int):=(vk a b).symm
theorem aEp (F:Fmt bits least beyond) (h:lo≤hi) (hno:∀z:Int,lo≤(z:Rat) / ((2^1075:Nat):Rat)→(z:Rat) / ((2^1075:Nat):Rat)≤hi→False) :
 cV lo bits least beyond=cV hi bits least beyond:=by
 rw [fC F,fC F];unfold uQ;generalize (1075:Nat)=G at *
 have hl:=lo.den_pos;have hh:=hi.den_pos
 by_cases a:0≤lo.num
 ·have b:=lU h a;have hab:=sW h a;have e1:hi.num=(hi.num.natAbs:Int):=oq
  have e2:lo.num=(lo.num.natAbs:Int):=oq
  rw [decide_eq_false (show ¬ lo.num<0 by omega),decide_eq_false (show ¬ hi.num<0 by omega)];have key:(hi.num.natAbs*2^G/hi.den)*lo.den<lo.num.natAbs*2^G:=by
   have g:((hi.num.natAbs*2^G/hi.den:Nat):Int)*lo.den<lo.num*((2^G:Nat):Int):=yC fun c=>hno _ c (jg fun c2=>by
    have:=yB c2;have h3:=zt (hi.num.natAbs*2^G) hi.den;generalize hi.num.natAbs=n at *
    rw [e1,cM,cM]at this
    omega)
   generalize lo.num.natAbs=n at *
   rw [e2,cM,cM]at g;omega
  rw [vT hl hh hab key]
 ·by_cases b:0≤hi.num
  ·exact (hno 0 (jg fun c=>by
    have:=yC c;have:=Int.mul_neg_of_neg_of_pos (show lo.num<0 by omega) (show (0:Int)<((2^G:Nat):Int) by have:=ot G;omega)
    omega) (jg fun c=>by
    have:=yB c;have:=Int.mul_nonneg b (show (0:Int)≤((2^G:Nat):Int) from Int.natCast_nonneg _)
    omega)).elim
  ·have hab:=jO h oq;have e1:hi.num=-(hi.num.natAbs:Int):=oq
   have e2:lo.num=-(lo.num.natAbs:Int):=oq
   rw [decide_eq_true (show lo.num<0 by omega),decide_eq_true (show hi.num<0 by omega)];have key:(lo.num.natAbs*2^G/lo.den)*hi.den<hi.num.natAbs*2^G:=by
    have g:hi.num*((2^G:Nat):Int) < -((lo.num.natAbs*2^G/lo.den:Nat):Int)*hi.den:=yB fun c=>hno _ (jg fun c2=>by
     have:=yC c2;have h3:=zt (lo.num.natAbs*2^G) lo.den;generalize lo.num.natAbs=n at *
     rw [e2,yh,yh,cM,cM]at this
     omega) c
    generalize hi.num.natAbs=n at *
    rw [e1,yh,yh,cM,cM]at g;omega
   rw [vT hh hl hab key]
end
def fI (s:Bool) (m:Nat) (p:Int):Rat:=mkRat (sgn s (m*2^p.toNat)) (2^(-p).toNat)
theorem aNf {G m:Nat}{p:Int}(hp:-(G:Int)≤p):bY G (m*2^p.toNat) (2^(-p).toNat)=m*2^(p+G+1).toNat:=by
 have e:m*2^p.toNat*2^G=m*2^(p+G).toNat*2^(-p).toNat:=by
  rw [qf,qf,←oi,←oi]
  congr 2
  omega
 unfold bY;rw [e,yf _ (ot _),Nat.mul_mod_left,od rfl,jl,show (p+G+1).toNat=(p+G).toNat+1 by omega,ql]
 ac_rfl
theorem aNe {G M D:Nat}(hD:0<D):bY G (M/Nat.gcd M D) (D/Nat.gcd M D)=bY G M D:=by
 have hg:0<Nat.gcd M D:=Nat.gcd_pos_of_pos_right M hD;obtain⟨a,ha⟩:=xl M D;obtain⟨d,hd⟩:=kj M D;generalize Nat.gcd M D=g at *
 have e1:M/g=a:=by rw [ha,yu _ hg]
 have e2:D/g=d:=by rw [hd,yu _ hg]
 have hd0:0<d:=jr fun e=>by rw [e,Nat.mul_zero]at hd;omega
 rw [e1,e2];have e3:a*D=M*d:=by rw [ha,hd];ac_rfl
 exact vj (lM hd0 hD oq) (lM hD hd0 oq)
theorem aLo {bits t e m:Nat}(hm:m≠0) (hb:bl m≤bits) (ht:t≤e):sB bits t (m*2^e)=m*2^e:=by
 unfold sB;rw [xS hm];generalize hw:max (bl m+e-bits) t=w;have e1:m*2^e=m*2^(e-w)*2^w:=by
  rw [qf,←oi]
  congr 2
  omega
 rw [e1,oG (ot _)]
theorem xF {s:Bool}{M:Nat}(h:M≠0):decide (sgn s M<0)=s:=by
 unfold sgn;cases s <;> simp <;> omega
theorem aBl {s:Bool}{m bits:Nat}{p least beyond:Int}(F:Fmt bits least beyond) (h0:m≠0) (hb:bl m≤bits) (hl:least≤p) (ht:(bl m:Int)+p≤beyond) :
 cV (fI s m p) bits least beyond=double.nearest s m p:=by
 have hlow:=F.low;have hM:m*2^p.toNat≠0:=jm h0 (xg (ot _));rw [fC F];unfold uQ fI;rw [pV _ (ot _),xF hM,gY _ (ot _),jG _ (ot _),mC,aNe (ot _)];generalize hG:(1075:Nat)=G;rw [aNf oq,aLo h0 hb oq];have hne:m*2^(p+G+1).toNat≠0:=jm h0 (xg (ot _));unfold eT;rw [oh hne,xS h0,oh oq];have:=cQ (f:=double) (neg:=s) (m:=m) (k:=(p+G+1).toNat) (p:=p) h0
 rwa [show p-((p+G+1).toNat:Nat)=-((G+1:Nat):Int) by omega]at this
theorem wS {bits:Nat}{least beyond:Int}:cV 0 bits least beyond=0:=by
 unfold cV kI;rfl
def cH (w:Nat):Nat:=w/2^52 % 2048
def fJ (w:Nat):Nat:=w % 2^52
def dZ (w:Nat):Bool:=w/2^63 == 1
def fO (w:Nat):Nat:=if cH w=0 then fJ w else 2^52+fJ w
def mK (w:Nat):Int:=(max (cH w) 1:Nat)-1075
theorem sM (w:Nat):w % 2^63=cH w*2^52+fJ w:=by
 unfold cH fJ;omega
theorem sR {w:Nat}(h:w<2^64):w=double.word (dZ w) (w % 2^63):=by
 unfold Format.word dZ;have es:double.signWeight=2^63:=rfl;have hd:w/2^63<2:=xe h;have hw:=qi w (2^63);rw [es];rcases zz (w/2^63) 1 with g|g
 ·have e:w/2^63=0:=oq
  rw [e]at hw ⊢;rw [show ((0:Nat) == 1)=false from rfl,oh oz];omega
 ·have e:w/2^63=1:=oq
  rw [e]at hw ⊢;rw [show ((1:Nat) == 1)=true from rfl,od rfl];omega
theorem oD (w:Nat):fJ w<2^52:=qy _ (ot 52)
theorem xX (w:Nat):cH w<2048:=qy _ oz
theorem aVm (w:Nat):w % 2^63<double.signWeight:=qy _ (ot 63)
theorem nN {w:Nat}(h:w<2^64):double.read w=if cH w<2047 then .number (dZ w) (fO w) (mK w) else if fJ w=0 then .infinity (dZ w) else .nan (dZ w) (fJ w):=by
 have hc:=oD w;have he:=xX w;have key:double.read (double.word (dZ w) (w % 2^63))=_:=qC (aVm w);rw [←sR h]at key;rw [key,sM];have eb:double.binade=2^52:=rfl;have ei:double.infRung=2047*2^52:=rfl;have el:double.leastPlace=-1074:=rfl;rw [eb,ei,el];unfold fO mK;generalize fJ w=c at *
 generalize cH w=E at *
 generalize dZ w=s
 by_cases g:E=0
 ·subst g;rw [od oq,od oz,od rfl]
  congr 1
  omega
 ·have d1:(E*2^52+c) / 2^52=E:=by
   rw [zj,yn _ _ (ot 52),qs hc,jx]
  have d2:(E*2^52+c) % 2^52=c:=by
   rw [zj,xf,qz hc]
  rw [oh oq]
  by_cases g2:E<2047
  ·rw [od oq,od g2,oh g,d1,d2]
   congr 1
   omega
  ·have e:E*2^52=2047*2^52:=by
    have:E=2047:=oq
    rw [this]
   have n1:¬ E*2^52+c<2047*2^52:=by rw [e];exact Nat.not_lt.2 (uq _ _)
   rw [oh n1,oh g2]
   by_cases g3:c=0
   ·have n2:E*2^52+c=2047*2^52:=by rw [e,g3,jl]
    rw [od n2,od g3]
   ·have n2:¬ E*2^52+c=2047*2^52:=fun h=>g3 (by rw [e]at h;exact Nat.add_left_cancel (h.trans (jl _).symm));rw [oh n2,oh g3];have n3:E*2^52+c-2047*2^52=c:=by rw [e,Nat.add_sub_cancel_left]
    rw [n3]
theorem aMq {w:Nat}(h:w<2^64) (hE:cH w<2047) (hm:fO w≠0):w=double.nearest (dZ w) (fO w) (mK w)∧Has double (fO w) (mK w):=by
 have hc:=oD w;have hw:=sR h;rw [sM]at hw;unfold fO mK at *
 generalize fJ w=c at *
 generalize cH w=E at *
 generalize dZ w=s at *
 have eb:double.binade=2^52:=rfl;have ei:double.infRung=2047*2^52:=rfl;have el:double.leastPlace=-1074:=rfl
 by_cases g:E=0
 ·subst g;rw [od rfl]at hm ⊢;have hl:c.log2<52:=(zg hm).2 hc;have hlast:last double c (((max 0 1:Nat):Int)-1075)=-1074:=by
   unfold last;show max (_-((52:Nat):Int)) (-1074)=_;omega
  refine⟨?_,hm,ze hc oz,by show (-1074:Int)≤_;omega,by show _+_-52 - -1074+3≤2048;omega⟩;rw [dB hm,hlast,el,eb,ei];rw [show (((max 0 1:Nat):Int)-1075 - -1074).toNat=0 by omega,show (-1074-(((max 0 1:Nat):Int)-1075)).toNat=0 by omega,show ((-1074:Int) - -1074).toNat=0 by omega,je,xw,gC,we oq]
  rwa [je]at hw
 ·rw [oh g]at hm ⊢;have hl:(2^52+c).log2=52:=by
   have a:(2^52+c).log2<53:=(zg hm).2 oq;have b:52≤(2^52+c).log2:=(Nat.le_log2 hm).2 oq;omega
  have hlast:last double (2^52+c) (((max E 1:Nat):Int)-1075)=(E:Int)-1075:=by
   unfold last;rw [hl];show max (_-((52:Nat):Int)) (-1074)=_;omega
  refine⟨?_,hm,by show 2^52+c<2^53;omega,by show (-1074:Int)≤_;omega,by rw [hl];show _+_-52 - -1074+3≤2048;omega⟩;rw [dB hm,hlast,el,eb,ei];rw [show (((max E 1:Nat):Int)-1075-((E:Int)-1075)).toNat=0 by omega,show ((E:Int)-1075-(((max E 1:Nat):Int)-1075)).toNat=0 by omega,show ((E:Int)-1075 - -1074).toNat=E-1 by omega,xw,gC,we oq];rw [show (E-1)*2^52+(2^52+c)=E*2^52+c by omega];exact hw
def eK (w:Nat):Nat:=w/2^23 % 256
def iN (w:Nat):Nat:=w % 2^23
def cF (w:Nat):Bool:=w/2^31 == 1
def cI (w:Nat):Nat:=if eK w=0 then iN w else 2^23+iN w
def cX (w:Nat):Int:=(max (eK w) 1:Nat)-150
theorem jI (w:Nat):w % 2^31=eK w*2^23+iN w:=by
 unfold eK iN;omega
theorem jM {w:Nat}(h:w<2^32):w=single.word (cF w) (w % 2^31):=by
 unfold Format.word cF;have es:single.signWeight=2^31:=rfl;have hd:w/2^31<2:=xe h;have hw:=qi w (2^31);rw [es];rcases zz (w/2^31) 1 with g|g
 ·have e:w/2^31=0:=oq
  rw [e]at hw ⊢;rw [show ((0:Nat) == 1)=false from rfl,oh oz];omega
 ·have e:w/2^31=1:=oq
  rw [e]at hw ⊢;rw [show ((1:Nat) == 1)=true from rfl,od rfl];omega
theorem pS (w:Nat):iN w<2^23:=qy _ (ot 23)
theorem tK (w:Nat):eK w<256:=qy _ oz
theorem aLm (w:Nat):w % 2^31<single.signWeight:=qy _ (ot 31)
theorem gO {w:Nat}(h:w<2^32):single.read w=if eK w<255 then .number (cF w) (cI w) (cX w) else if iN w=0 then .infinity (cF w) else .nan (cF w) (iN w):=by
 have hc:=pS w;have he:=tK w;have key:single.read (single.word (cF w) (w % 2^31))=_:=qC (aLm w);rw [←jM h]at key;rw [key,jI];have eb:single.binade=2^23:=rfl;have ei:single.infRung=255*2^23:=rfl;have el:single.leastPlace=-149:=rfl;rw [eb,ei,el];unfold cI cX;generalize iN w=c at *
 generalize eK w=E at *
 generalize cF w=s
 by_cases g:E=0
 ·subst g;rw [od oq,od oz,od rfl]
  congr 1
  omega
 ·have d1:(E*2^23+c) / 2^23=E:=by
   rw [zj,yn _ _ (ot 23),qs hc,jx]
  have d2:(E*2^23+c) % 2^23=c:=by
   rw [zj,xf,qz hc]
  rw [oh oq]
  by_cases g2:E<255
  ·rw [od oq,od g2,oh g,d1,d2]
   congr 1
   omega
  ·have e:E*2^23=255*2^23:=by
    have:E=255:=oq
    rw [this]
   have n1:¬ E*2^23+c<255*2^23:=by rw [e];exact Nat.not_lt.2 (uq _ _)
   rw [oh n1,oh g2]
   by_cases g3:c=0
   ·have n2:E*2^23+c=255*2^23:=by rw [e,g3,jl]
    rw [od n2,od g3]
   ·have n2:¬ E*2^23+c=255*2^23:=fun h=>g3 (by rw [e]at h;exact Nat.add_left_cancel (h.trans (jl _).symm));rw [oh n2,oh g3];have n3:E*2^23+c-255*2^23=c:=by rw [e,Nat.add_sub_cancel_left]
    rw [n3]
theorem lJ {w:Nat}(h:w<2^32) (hE:eK w<255) (hm:cI w≠0):w=single.nearest (cF w) (cI w) (cX w)∧Has single (cI w) (cX w):=by
 have hc:=pS w;have hw:=jM h;rw [jI]at hw;unfold cI cX at *
 generalize iN w=c at *
 generalize eK w=E at *
 generalize cF w=s at *
 have eb:single.binade=2^23:=rfl;have ei:single.infRung=255*2^23:=rfl;have el:single.leastPlace=-149:=rfl
 by_cases g:E=0
 ·subst g;rw [od rfl]at hm ⊢;have hl:c.log2<23:=(zg hm).2 hc;have hlast:last single c (((max 0 1:Nat):Int)-150)=-149:=by
   unfold last;show max (_-((23:Nat):Int)) (-149)=_;omega
  refine⟨?_,hm,ze hc oz,by show (-149:Int)≤_;omega,by show _+_-23 - -149+3≤256;omega⟩;rw [dB hm,hlast,el,eb,ei];rw [show (((max 0 1:Nat):Int)-150 - -149).toNat=0 by omega,show (-149-(((max 0 1:Nat):Int)-150)).toNat=0 by omega,show ((-149:Int) - -149).toNat=0 by omega,je,xw,gC,we oq]
  rwa [je]at hw
 ·rw [oh g]at hm ⊢;have hl:(2^23+c).log2=23:=by
   have a:(2^23+c).log2<24:=(zg hm).2 oq;have b:23≤(2^23+c).log2:=(Nat.le_log2 hm).2 oq;omega
  have hlast:last single (2^23+c) (((max E 1:Nat):Int)-150)=(E:Int)-150:=by
   unfold last;rw [hl];show max (_-((23:Nat):Int)) (-149)=_;omega
  refine⟨?_,hm,by show 2^23+c<2^24;omega,by show (-149:Int)≤_;omega,by rw [hl];show _+_-23 - -149+3≤256;omega⟩;rw [dB hm,hlast,el,eb,ei];rw [show (((max E 1:Nat):Int)-150-((E:Int)-150)).toNat=0 by omega,show ((E:Int)-150-(((max E 1:Nat):Int)-150)).toNat=0 by omega,show ((E:Int)-150 - -149).toNat=E-1 by omega,xw,gC,we oq];rw [show (E-1)*2^23+(2^23+c)=E*2^23+c by omega];exact hw
open IntKind (wrap)
open Go.RowKit
open Value (agg slice int bool tuple)
open Sy (Up Sees CallsG Seg execFn_use)
set_option maxRecDepth 100000
variable {k:World}{R:World→Value→Prop}
theorem aLh {n0:Nat}
 (h:Br (((wrap .i64 (wrap .u64 (BitVec.toNat (BitVec.ofInt (IntKind.bits .u64) (Int.fdiv ((n0:Nat):Int) (2^(min (Int.toNat 52) (IntKind.bits .u64)))) &&& BitVec.ofInt (IntKind.bits .u64) 2047)))):Int) == 2047) (Cl k 89 #[int .i64 0] fun k1 r0=>Gt 3 r0 fun cs1=>
 Rt R k1 (tuple #[agg cs1,int .i64 1])) (Br (decide (((wrap .i64 (wrap .u64 (BitVec.toNat (BitVec.ofInt (IntKind.bits .u64) (Int.fdiv ((n0:Nat):Int) (2^(min (Int.toNat 52) (IntKind.bits .u64)))) &&& BitVec.ofInt (IntKind.bits .u64) 2047)))):Int) > 0)) (Br (decide (((wrap .i64 (wrap .u64 (BitVec.toNat (BitVec.ofInt (IntKind.bits .u64) (Int.fdiv ((n0:Nat):Int) (2^(min (Int.toNat 52) (IntKind.bits .u64)))) &&& BitVec.ofInt (IntKind.bits .u64) 2047)))):Int) ≥ 1075)) (Cl k 174 #[int .u64 (wrap .u64 ((wrap .u64 (BitVec.toNat (BitVec.ofInt (IntKind.bits .u64) ((n0:Nat):Int) &&& BitVec.ofInt (IntKind.bits .u64) 4503599627370495)))+4503599627370496))] fun k4 r3=>∃A1 l1 c1,some (slice A1 l1 c1)=some r3∧
 Cl k4 227 #[slice A1 l1 c1,int .i64 (wrap .i64 ((wrap .i64 (wrap .u64 (BitVec.toNat (BitVec.ofInt (IntKind.bits .u64) (Int.fdiv ((n0:Nat):Int) (2^(min (Int.toNat 52) (IntKind.bits .u64)))) &&& BitVec.ofInt (IntKind.bits .u64) 2047))))-1075))] fun k6 r5=>∃A2 l2 c2,some (slice A2 l2 c2)=some r5∧
 ∀p3 k7,Up k6 k7→Sy.Blk k7 p3 64 #[int .u32 1]→
 Cl k7 173 #[bool (((Int.fdiv ((n0:Nat):Int) (2^(min (Int.toNat 63) (IntKind.bits .u64)))):Int) == 1),slice A2 l2 c2,slice (some ⟨p3,0,none⟩) 1 1] fun k9 r8=>Gt 3 r8 fun cs4=>
 Rt R k9 (tuple #[agg cs4,int .i64 0])) (Cl k 174 #[int .u64 (wrap .u64 ((wrap .u64 (BitVec.toNat (BitVec.ofInt (IntKind.bits .u64) ((n0:Nat):Int) &&& BitVec.ofInt (IntKind.bits .u64) 4503599627370495)))+4503599627370496))] fun k12 r11=>∃A1 l1 c1,some (slice A1 l1 c1)=some r11∧
 ∀p2 k13,Up k12 k13→Sy.Blk k13 p2 64 #[int .u32 1]→
 Cl k13 227 #[slice (some ⟨p2,0,none⟩) 1 1,int .i64 (wrap .i64 (1075-(wrap .i64 (wrap .u64 (BitVec.toNat (BitVec.ofInt (IntKind.bits .u64) (Int.fdiv ((n0:Nat):Int) (2^(min (Int.toNat 52) (IntKind.bits .u64)))) &&& BitVec.ofInt (IntKind.bits .u64) 2047))))))] fun k15 r14=>∃A3 l3 c3,some (slice A3 l3 c3)=some r14∧
 Cl k15 173 #[bool (((Int.fdiv ((n0:Nat):Int) (2^(min (Int.toNat 63) (IntKind.bits .u64)))):Int) == 1),slice A1 l1 c1,slice A3 l3 c3] fun k17 r16=>Gt 3 r16 fun cs4=>
 Rt R k17 (tuple #[agg cs4,int .i64 0]))) (Cl k 174 #[int .u64 (wrap .u64 (BitVec.toNat (BitVec.ofInt (IntKind.bits .u64) ((n0:Nat):Int) &&& BitVec.ofInt (IntKind.bits .u64) 4503599627370495)))] fun k20 r19=>∃A1 l1 c1,some (slice A1 l1 c1)=some r19∧
 ∀p2 k21,Up k20 k21→Sy.Blk k21 p2 64 #[int .u32 1]→
 Cl k21 227 #[slice (some ⟨p2,0,none⟩) 1 1,int .i64 1074] fun k23 r22=>∃A3 l3 c3,some (slice A3 l3 c3)=some r22∧
 Cl k23 173 #[bool (((Int.fdiv ((n0:Nat):Int) (2^(min (Int.toNat 63) (IntKind.bits .u64)))):Int) == 1),slice A1 l1 c1,slice A3 l3 c3] fun k25 r24=>Gt 3 r24 fun cs4=>
 Rt R k25 (tuple #[agg cs4,int .i64 0])))) :
  CallsG Tryz.prog 138 #[Value.float .f64 n0] k R:=
  qX { opq:=[42] } [.one (.var 0)] [Value.float .f64 n0] [.flt .f64] ⟨⟨_,rfl⟩,trivial⟩ h
theorem zL {n0:Nat}
 (h:∀n1,Sy.F2F .f32 .f64 n0 n1→
 Cl k 149 #[Value.float .f64 n1] fun k1 r0=>∃b2,∃A3 l3 c3,∃A4 l4 c4,∃n5,some (tuple #[agg #[bool b2,slice A3 l3 c3,slice A4 l4 c4],int .i64 n5])=some r0∧
 Rt R k1 (tuple #[agg #[bool b2,slice A3 l3 c3,slice A4 l4 c4],int .i64 n5])) :
  CallsG Tryz.prog 61 #[Value.float .f32 n0] k R:=
  qX { opq:=[],nanc:=true } [.one (.var 0)] [Value.float .f32 n0] [.flt .f32] ⟨⟨_,rfl⟩,trivial⟩ h
end Go.Proofs.YtifcjpacobpdmaaGreat

namespace Go.Proofs.YtifcjpacobpdmaaGreat
open IntKind (wrap)
open Go.RowKit Num Ieee FT
open Sy (Up Sees CallsG Seg)
namespace FT
theorem aKq {x y:Nat}{s:Bool}{t:Nat}(hx:double.read x=.nan s t):double.order x y=none:=by
 unfold Format.order;rw [hx];unfold Datum.order;rfl
theorem low52 {w:Nat}(h:w<2^64):(BitVec.ofInt 64 (w:Int) &&& BitVec.ofInt 64 4503599627370495).toNat=w % 2^52:=by
 rw [BitVec.toNat_and,pK _ h,show (BitVec.ofInt 64 4503599627370495).toNat=2^52-1 from by decide,yw]
theorem fdiv52 {w:Nat}:Int.fdiv ((w:Nat):Int) (2^(min (Int.toNat 52) (IntKind.bits .u64)))=((w/2^52:Nat):Int):=by
 rw [pow52,vm _ oz];rfl
theorem fdiv63 {w:Nat}:Int.fdiv ((w:Nat):Int) (2^(min (Int.toNat 63) (IntKind.bits .u64)))=((w/2^63:Nat):Int):=by
 rw [show (2:Int)^(min (Int.toNat 63) (IntKind.bits .u64))=9223372036854775808 from by decide,vm _ oz];rfl
theorem aHd {w:Nat}(h:w<2^64):wrap .i64 (wrap .u64 (BitVec.toNat (BitVec.ofInt (IntKind.bits .u64) (Int.fdiv ((w:Nat):Int) (2^(min (Int.toNat 52) (IntKind.bits .u64)))) &&& BitVec.ofInt (IntKind.bits .u64) 2047)))=(cH w:Int):=by
 have hE:=xX w;rw [fdiv52,show IntKind.bits .u64=64 from rfl,field h,show w/2^52 % 2048=cH w from rfl,wrap64 (ze hE oz),qt];omega
theorem bBg {w:Nat}(h:w<2^64):wrap .u64 (BitVec.toNat (BitVec.ofInt (IntKind.bits .u64) ((w:Nat):Int) &&& BitVec.ofInt (IntKind.bits .u64) 4503599627370495))=(fJ w:Int):=by
 have hc:=oD w;rw [show IntKind.bits .u64=64 from rfl,low52 h,show w % 2^52=fJ w from rfl,wrap64 (ze hc oz)]
theorem aZx {w:Nat}:((Int.fdiv ((w:Nat):Int) (2^(min (Int.toNat 63) (IntKind.bits .u64))):Int) == 1)=dZ w:=by
 rw [fdiv63];unfold dZ;rw [vz,beq_iff_eq,beq_iff_eq];omega
theorem aZj (w:Nat):fO w<2^53:=by
 have:=oD w;unfold fO;split <;> omega
end FT
open FT
def kT (w:Nat):Rat:=if cH w<2047 then fI (dZ w) (fO w) (mK w) else 0
theorem aBq {w:Nat}(h:cH w<2047) (hm:fO w=0):kT w=0:=by
 unfold kT fI;rw [od h,hm,je,show sgn (dZ w) 0=0 from by unfold sgn;cases dZ w <;> rfl,ye]
namespace W32
section
variable {k:World}{R:World→Value→Prop}{w:Nat}
theorem bBk {j n:Nat}(h:j<32*n):2^j<B^n:=by
 rw [sS,←vq];exact zr oz h
theorem aPi (j:Nat) (h:j≤1200):nw (1*2^j)≤40:=qb (aI (by rw [zk,sS,←vq];exact zr oz (show j<32*(j/32+1) by omega))) oq
theorem aQk (h:w<2^64) (C:∀k' ds,Up k k'→QV k' ds (kT w) 40→R k' (.tuple #[.agg ds,.int .i64 (if cH w<2047 then 0 else 1)])) :
 Cl k 138 #[.float .f64 w] R:=by
 intro k0 u0;replace C:=fun k' ds u=>C k' ds (u0.trans u);have hE:=xX w;have hc:=oD w;have hm:=aZj w;refine aLh ?_
 try dsimp only
 rw [aHd h,bBg h,aZx];have e53:(2:Nat)^53=9007199254740992:=rfl;have e52:(2:Nat)^52=4503599627370496:=rfl;have nm:nw (fO w)≤2:=aI (ze hm (by decide +kernel));refine⟨fun f=>?_,fun f=>?_⟩
 ·have f:=eq_of_beq f;have g:¬ cH w<2047:=oq
  have hn:kT w=0:=by unfold kT;rw [oh g]
  rw [oh g,hn]at C;exact mH (z:=0) oz oz fun k1 ds u1 h1=>⟨ds,h1.seg,rfl,fun k2 u2=>C k2 ds (u1.trans u2) ((h1.up u2).mono oz)⟩
 ·have f:¬ ((cH w:Nat):Int)=2047:=by simpa using f
  have g:cH w<2047:=oq
  have hn:kT w=fI (dZ w) (fO w) (mK w):=by unfold kT;rw [od g]
  rw [od g,hn]at C;refine⟨fun f1=>?_,fun f1=>?_⟩
  ·have f1:=ow f1;have em:fO w=2^52+fJ w:=by unfold fO;rw [oh oq]
   have ep:mK w=(cH w:Int)-1075:=by unfold mK;omega
   have ew:wrap .u64 ((fJ w:Int)+4503599627370496)=((fO w:Nat):Int):=by
    rw [em,show ((fJ w:Int)+4503599627370496)=((2^52+fJ w:Nat):Int) by omega,wrap64 oq]
   rw [ew];refine⟨fun f2=>?_,fun f2=>?_⟩
   ·have f2:=ow f2;have es:wrap .i64 ((cH w:Int)-1075)=((cH w-1075:Nat):Int):=by rw [qt];omega
    rw [es]
    have nr:nw (fO w*2^(cH w-1075))≤40:=aI (by
     have a:fO w*2^(cH w-1075)<2^(53+(cH w-1075)):=by rw [oi];exact qa hm (ot _)
     exact ze a (bBk oq))
    refine uC oq fun k1 A c u1 h1=>⟨_,_,_,rfl,?_⟩;refine kZ h1 oq oq fun k2 A c u2 h2=>⟨_,_,_,rfl,?_⟩;intro p3 k3 u3 hp3;refine aEd (K:=40) (q:=fI (dZ w) (fO w) (mK w)) (h2.up u3) (pY hp3) oz nr oz oz ?_ fun k4 b A l c A' l' c' u4 hQ e1 e2=>⟨_,(QV.mk1 hQ e1 e2).seg,rfl,fun k5 u5=>C k5 _ (u1.trans (u2.trans (u3.trans (u4.trans u5)))) ((QV.mk1 hQ e1 e2).up u5)⟩;unfold fI;rw [ep,show ((cH w:Int)-1075).toNat=cH w-1075 by omega,show (-((cH w:Int)-1075)).toNat=0 by omega]
   ·have f2:=ov f2;have es:wrap .i64 (1075-(cH w:Int))=((1075-cH w:Nat):Int):=by rw [qt];omega
    rw [es];have nr:=aPi (1075-cH w) oq;refine uC oq fun k1 A c u1 h1=>⟨_,_,_,rfl,?_⟩;intro p2 k2 u2 hp2;refine kZ (pY hp2) oz oq fun k3 A c u3 h3=>⟨_,_,_,rfl,?_⟩;refine aEd (K:=40) (q:=fI (dZ w) (fO w) (mK w)) ((h1.up u2).up u3) h3 (zb oz (ot _)) oq nr oz ?_ fun k4 b A l c A' l' c' u4 hQ e1 e2=>⟨_,(QV.mk1 hQ e1 e2).seg,rfl,fun k5 u5=>C k5 _ (u1.trans (u2.trans (u3.trans (u4.trans u5)))) ((QV.mk1 hQ e1 e2).up u5)⟩;unfold fI;rw [ep,show ((cH w:Int)-1075).toNat=0 by omega,show (-((cH w:Int)-1075)).toNat=1075-cH w by omega,zy,jj,zk]
  ·have f1:=ov f1;have em:fO w=fJ w:=by unfold fO;rw [od oq]
   obtain⟨j,hj⟩:∃j:Nat,j=1074:=⟨_,rfl⟩;have ep:mK w=-(j:Int):=by unfold mK;omega
   have nr:=aPi j oq;rw [←em,show (1074:Int)=(j:Int) by omega];refine uC oq fun k1 A c u1 h1=>⟨_,_,_,rfl,?_⟩;intro p2 k2 u2 hp2;refine kZ (s:=j) (pY hp2) oz oq fun k3 A c u3 h3=>⟨_,_,_,rfl,?_⟩;refine aEd (K:=40) (q:=fI (dZ w) (fO w) (mK w)) ((h1.up u2).up u3) h3 (zb oz (ot _)) oq nr oz ?_ fun k4 b A l c A' l' c' u4 hQ e1 e2=>⟨_,(QV.mk1 hQ e1 e2).seg,rfl,fun k5 u5=>C k5 _ (u1.trans (u2.trans (u3.trans (u4.trans u5)))) ((QV.mk1 hQ e1 e2).up u5)⟩;unfold fI;rw [ep,show (-(j:Int)).toNat=0 by omega,show (- -(j:Int)).toNat=j by omega,zy,jj,zk]
end
end W32
namespace FT
theorem lt_of {x y:Int}(h:x<y):(some (compare x y) == some Ordering.lt)=true:=by
 simp only [compare,compareOfLessAndEq];rw [od h];rfl
theorem aGd {s:Bool}{n:Nat}:(Datum.number s n 0).toInt .zero=some (sgn s n):=by
 unfold Datum.toInt Datum.integral;simp only [];have e:Toward.zero.cut s (n <<< (0:Int).toNat) (-(0:Int)).toNat=n:=by
  unfold Toward.cut;simp
 rw [e];unfold signed sgn;rw [xw]
end FT
open FT
section
variable {k:World}{R:World→Value→Prop}{s:Bool}{m:Nat}{p q e:Int}{w:Nat}
theorem aJk (h:Has double m p) (hn:p+m.log2 < -1022) (C:∀k',Up k k'→R k' (.tuple #[.float .f64 (double.nearest s m (p+52)),.int .i64 (-52)])):Cl k 328 #[.float .f64 (double.nearest s m p)] R:=by
 intro k0 u0;refine aAv (tL fun k1 u1=>⟨_,rfl,fun _=>?_,fun f=>?_⟩)
 ·have hm:=pW (s:=s) (t:=false) aN h (Has.one (p:=52) oz oz);have h1:(4841369599423283200:Nat)=double.nearest false 1 52:=by decide +kernel
  rw [jj,Bool.xor_false,←h1]at hm;have hm':Sy.fltR .f64 .mul (double.nearest s m p) 4841369599423283200=some (double.nearest s m (p+52)):=hm;rw [hm'];exact⟨rfl,fun k2 u2=>C k2 (u0.trans (u1.trans u2))⟩
 ·exfalso;have hr:=h.read (neg:=false) aN;have hl:m.log2<53:=(zg h.ne).2 h.bits;have hlow:(-1074:Int)≤p:=h.low;have elast:last double m p=-1074:=by
   unfold last;show max (p+m.log2-((52:Nat):Int)) (-1074)=_;omega
  have hlog:(m*2^(p-last double m p).toNat).log2=m.log2+(p-last double m p).toNat:=eA h.ne;have hne:m*2^(p-last double m p).toNat≠0:=jm h.ne (xg (ot _));generalize last double m p=i at *
  subst elast;have hM:m*2^(p - -1074).toNat<2^52:=(zg hne).1 oq;generalize m*2^(p - -1074).toNat=M at *
  have hx:double.read 4503599627370496=.number false (2^52) (-1074):=by decide +kernel
  rw [show FloatKind.format .f64=double from rfl,hC hr hx]at f;rw [show min (-1074:Int) (-1074)=-1074 by omega,show ((-1074:Int) - -1074).toNat=0 by omega]at f;unfold signed at f;simp only [zp,if_false,xw]at f;rw [lt_of (by exact_mod_cast hM)]at f;cases f
theorem aAx (h:Has double m q) (hn:-1022≤q+m.log2):Int.toNat (wrap .u64 (BitVec.toNat (BitVec.ofInt (IntKind.bits .u64) (wrap .u64 (BitVec.toNat (BitVec.ofInt (IntKind.bits .u64) ((double.nearest s m q:Nat):Int) &&& ~~~(BitVec.ofInt (IntKind.bits .u64) 9218868437227405312)))) ||| BitVec.ofInt (IntKind.bits .u64) 4602678819172646912)))=double.nearest s m (-((m.log2+1:Nat):Int)):=by
 obtain⟨c,hc,hall,g1,g2,g3,g4⟩:=parts (s:=s) h hn;have hw:=(near64 s m q).1;have hl:m.log2<53:=(zg h.ne).2 h.bits;have hq:Has double m (-((m.log2+1:Nat):Int)):=⟨h.ne,h.bits,by show (-1074:Int)≤_;omega,by show -((m.log2+1:Nat):Int)+m.log2-52+1074+3≤2048;omega⟩;have:=aGx (F:=1022) hw (by cases s <;> decide) hc oz g1 g2;rw [show wrap .u64 (((1022:Nat):Int)*2^(min (Int.toNat 52) (IntKind.bits .u64)))=4602678819172646912 from by decide]at this;rw [this,hall _ hq oq,show (-((m.log2+1:Nat):Int)+m.log2+1023).toNat=1022 by omega]
theorem aHh {e0:Int}(h:Has double m q) (hn:-1022≤q+m.log2) (he:-1000≤e0∧e0≤1000):wrap .i64 (e0+(wrap .i64 ((wrap .i64 ((wrap .i64 (wrap .u64 (BitVec.toNat (BitVec.ofInt (IntKind.bits .u64) (Int.fdiv ((double.nearest s m q:Nat):Int) (2^(min (Int.toNat 52) (IntKind.bits .u64)))) &&& BitVec.ofInt (IntKind.bits .u64) 2047))))-1023))+1)))=e0+q+m.log2+1:=by
 obtain⟨c,hc,hall,g1,g2,g3,g4⟩:=parts (s:=s) h hn;have hw:=(near64 s m q).1;have g5:cH (double.nearest s m q)=(q+m.log2+1023).toNat:=g3;have g6:(q+m.log2+1023).toNat<2048:=g4;rw [aHd hw,g5,qt,qt,qt];omega
theorem nonzero {x:Nat}(h:Has double m p) (hx:double.read x=.number false 0 (-1074)):(double.order (double.nearest s m p) x == some Ordering.eq)=false:=by
 have hr:=h.read (neg:=s) aN;have hne:m*2^(p-last double m p).toNat≠0:=jm h.ne (xg (ot _));rw [hC hr hx];generalize m*2^(p-last double m p).toNat=M at *
 generalize last double m p=i at *
 have hz:signed s M (i-min i (-1074)).toNat≠0:=by
  unfold signed;rw [zf];have:=jm hne (xg (ot (i-min i (-1074)).toNat));generalize M*2^(i-min i (-1074)).toNat=z at this;cases s <;> simp <;> omega
 have hz2:signed false 0 (-1074-min i (-1074)).toNat=0:=by unfold signed;simp
 rw [hz2];refine Bool.eq_false_iff.2 fun o=>hz (mZ o)
theorem aYy (h:Has double m p) (C:∀k',Up k k'→R k' (.tuple #[.float .f64 (double.nearest s m (-((m.log2+1:Nat):Int))),.int .i64 (p+m.log2+1)])) :
 Cl k 235 #[.float .f64 (double.nearest s m p)] R:=by
 intro k0 u0;have h0:double.read 0=.number false 0 (-1074):=dG;have hl:m.log2<53:=(zg h.ne).2 h.bits;have hlow:(-1074:Int)≤p:=h.low;refine aHa fun k1 u1=>aHc ⟨fun f=>?_,fun _=>tM h fun k2 u2=>⟨_,rfl,(fun f=>by cases f),fun _=>tN h fun k5 u5=>⟨_,rfl,(fun f=>by cases f),fun _=>?_⟩⟩⟩
 ·have:=nonzero (s:=s) h h0;rw [show FloatKind.format .f64=double from rfl,this]at f;cases f
 by_cases hn:-1022≤p+m.log2
 ·refine aHg h hn fun k8 u8=>⟨_,_,rfl,fun k9 u9=>⟨_,_,rfl,fun k10 u10=>?_⟩⟩;have:=C k10 (u0.trans (u1.trans (u2.trans (u5.trans (u8.trans (u9.trans u10))))));rw [aAx h hn,aHh h hn oz,Int.zero_add];exact this
 ·have h':Has double m (p+52):=⟨h.ne,h.bits,by show (-1074:Int)≤_;omega,by show p+52+m.log2-52+1074+3≤2048;omega⟩;refine aJk h oq fun k8 u8=>⟨_,_,rfl,fun k9 u9=>⟨_,_,rfl,fun k10 u10=>?_⟩⟩;have:=C k10 (u0.trans (u1.trans (u2.trans (u5.trans (u8.trans (u9.trans u10))))));rw [aAx h' oq,aHh h' oq oz,show (-52:Int)+(p+52)+m.log2+1=p+m.log2+1 by omega];exact this
theorem aGh (h:Has double m p) (hp:p+m.log2=52):Sy.f2iOk .f64 .i64 (double.nearest s m p)=true∧Sy.f2i .f64 (double.nearest s m p)=sgn s (m*2^p.toNat)∧m*2^p.toNat<2^53:=by
 have hl:m.log2<53:=(zg h.ne).2 h.bits;have elast:last double m p=0:=by
  unfold last;show max (p+m.log2-((52:Nat):Int)) (-1074)=_;omega
 have hr:=h.read (neg:=s) aN;rw [elast,Int.sub_zero]at hr;have hne:m*2^p.toNat≠0:=jm h.ne (xg (ot _));have hM:m*2^p.toNat<2^53:=(zg hne).1 (by rw [eA h.ne];omega);have hd:(FloatKind.decode .f64 (double.nearest s m p)).toInt .zero=some (sgn s (m*2^p.toNat)):=by
  rw [bAt];show (double.read _).toInt .zero=_;rw [hr,aGd]
 refine⟨?_,?_,hM⟩
 ·unfold Sy.f2iOk;rw [hd];refine decide_eq_true ?_;have e1:IntKind.i64.min=-9223372036854775808:=rfl;have e2:IntKind.i64.max=9223372036854775807:=rfl;rw [e1,e2];have e3:(2:Nat)^53=9007199254740992:=rfl;unfold sgn;split <;> omega
 ·unfold Sy.f2i;rw [hd];rfl
theorem aLi {k:World}{A:Option Addr}{n c:Nat}{b:Bool}{z:Int}{K:Nat}(h:IntV k #[.bool b,.slice A n c] z K):RatV k #[.bool b,.slice A n c,.slice none 0 0] (z:Rat) K:=by
 obtain⟨b',A',n',c',e,hi,hn⟩:=h;injection e with e;injection e with e1 e;injection e1 with e1;injection e with e2 e;injection e2 with e2 e3 e4;subst e1 e2 e3 e4;exact⟨_,_,_,_,none,0,0,rfl,⟨by rw [Rat.num_intCast];exact hi,by rw [Rat.den_intCast,od rfl];exact LimR.nil⟩,hn,jk _⟩
theorem aHv {k:World}{K:Nat}:RatV k #[.bool false,.slice none 0 0,.slice none 0 0] 0 K:=
 ⟨_,_,_,_,none,0,0,rfl,⟨⟨rfl,LimR.nil⟩,LimR.nil⟩,jk _,jk _⟩
theorem aRf (s:Bool) (a b:Nat):sgn s (a*b)=sgn s a*(b:Int):=by
 unfold sgn;cases s <;> simp [Int.neg_mul]
theorem nB {s:Bool}{m j d:Nat}{p:Int}(h:p+d=j):mkRat (sgn s (m*2^j)) (1*2^d)=fI s m p:=by
 unfold fI;rw [zk];have e1:m*2^j=m*2^p.toNat*2^(j-p.toNat):=by rw [qf,←oi];congr 2;omega
 have e2:2^d=2^(-p).toNat*2^(j-p.toNat):=by rw [←oi];congr 1;omega
 rw [e1,e2,aRf,Rat.mkRat_mul_right (xg (ot _))]
theorem aGi (h:Has double m p) (C:∀k' ds,Up k k'→RatV k' ds (fI s m p) 1200→R k' (.tuple #[.agg ds,.int .i64 0])) :
 Cl k 149 #[.float .f64 (double.nearest s m p)] R:=by
 intro k0 u0;have hl:m.log2<53:=(zg h.ne).2 h.bits;have hlow:(-1074:Int)≤p:=h.low;have htop:p+m.log2-52+1074+3≤2048:=h.top;refine mI (tN h fun k1 u1=>⟨_,rfl,(fun f=>by cases f),fun _=>tM h fun k4 u4=>⟨_,rfl,(fun f=>by cases f),fun _=>?_⟩⟩);refine aYy h fun k7 u7=>⟨_,_,rfl,?_⟩;have hq:Has double m (-((m.log2+1:Nat):Int)):=⟨h.ne,h.bits,by show (-1074:Int)≤_;omega,by show -((m.log2+1:Nat):Int)+m.log2-52+1074+3≤2048;omega⟩;have hq':Has double m (-((m.log2+1:Nat):Int)+53):=⟨h.ne,h.bits,by show (-1074:Int)≤_;omega,by show -((m.log2+1:Nat):Int)+53+m.log2-52+1074+3≤2048;omega⟩;refine aEc hq oq hq' oz fun k9 u9=>⟨_,rfl,?_⟩;obtain⟨w1,w2,w3⟩:=aGh (s:=s) hq' oq;rw [w2];refine⟨w1,?_⟩;have e3:(2:Nat)^53=9007199254740992:=rfl;have ej:(-((m.log2+1:Nat):Int)+53).toNat=52-m.log2:=oq
 rw [ej]at w3 ⊢;have v9:=u0.trans (u1.trans (u4.trans (u7.trans u9)));have wE:wrap .i64 (p+m.log2+1-53)=p+m.log2-52:=by rw [qt];omega
 refine aBt (z:=sgn s (m*2^(52-m.log2))) (by unfold sgn;split <;> omega) (by unfold sgn;split <;> omega) fun k11 ds u11 hI=>?_;have hI':=hI;obtain⟨b,A,n,c,rfl,hr,hn⟩:=hI';refine⟨_,_,_,_,rfl,?_⟩
 try dsimp only
 rw [wE];have hz:(sgn s (m*2^(52-m.log2))).natAbs=m*2^(52-m.log2):=mC _ _;have hne:m*2^(52-m.log2)≠0:=jm h.ne (xg (ot _));have hb:b=s:=by rw [hr.neg];exact xF hne
 have hlim:=hr.lim;rw [hz]at hlim;refine⟨fun f=>?_,fun f=>?_⟩
 ·have f:=ow f;have es:p+m.log2-52=(((p+m.log2-52).toNat:Nat):Int):=oq
  rw [es];refine fN hlim oq oq fun k13 B j d u13 h13 l13=>⟨_,_,_,rfl,?_⟩;refine kF (K:=1200) h13 oq oq fun k15 ds u15 h15=>?_;have h15':=h15;obtain⟨b9,A10,l10,c10,rfl,_⟩:=h15';refine⟨_,_,_,_,rfl,fun k16 u16=>C k16 _ (v9.trans (u11.trans (u13.trans (u15.trans u16)))) ?_⟩;have:=(aLi h15).up u16;rw [hb]at this;have e:((sgn s (m*2^(52-m.log2)*2^(p+m.log2-52).toNat):Int):Rat)=fI s m p:=by
   rw [qf,←oi,←nB (j:=52-m.log2+(p+m.log2-52).toNat) (d:=0) oq];exact (Rat.mkRat_one _).symm
  rwa [e]at this
 ·have f:=ov f;have es:wrap .i64 (0-(p+m.log2-52))=(((52-p-m.log2).toNat:Nat):Int):=by rw [qt];omega
  rw [es];refine iJ (x:=1) oz fun k13 B j d u13 h13 l13=>⟨_,_,_,rfl,?_⟩;refine fN h13 oq oq fun k15 B j d u15 h15 l15=>⟨_,_,_,rfl,?_⟩;refine kW (K:=1200) ((hI.up (u13.trans u15)).mono oz) h15 (by have:=ot (52-p-m.log2).toNat;omega) oz oq fun k17 ds u17 h17=>?_;have h17':=h17;obtain⟨g,A,n,c,D,d,e,rfl,_⟩:=h17';refine⟨_,_,_,_,_,_,_,rfl,fun k18 u18=>C k18 _ (v9.trans (u11.trans (u13.trans (u15.trans (u17.trans u18))))) ?_⟩;have:=h17.up u18
  rwa [nB (p:=p) oq]at this
theorem aDj {s:Bool}(C:∀k' ds,Up k k'→RatV k' ds 0 1200→R k' (.tuple #[.agg ds,.int .i64 0])) :
 Cl k 149 #[.float .f64 (double.nearest s 0 0)] R:=by
 intro k0 u0;have f1:∀s,(Format.order double (double.nearest s 0 0) (double.nearest s 0 0) != some Ordering.eq)=false:=by decide +kernel
 have f2:(Format.order double (double.nearest false 0 0) 9218868437227405311 == some Ordering.gt)=false:=by decide +kernel
 have f3:∀s,(Format.order double (double.nearest s 0 0) 0 == some Ordering.eq)=true:=by decide +kernel
 have f4:∀s,Sy.f2iOk .f64 .i64 (double.nearest s 0 0)=true∧Sy.f2i .f64 (double.nearest s 0 0)=0:=by decide +kernel
 refine mI fun k1 u1=>lR fun k2 u2=>⟨_,rfl,fun f=>?_,fun _ k3 u3=>pR ⟨fun _=>tL fun k4 u4=>⟨_,rfl,fun k5 u5=>⟨_,rfl,fun f=>?_,fun _ k6 u6=>?_⟩⟩,fun f=>by cases f⟩⟩
 ·rw [show FloatKind.format .f64=double from rfl,f1 s]at f;cases f
 ·rw [show FloatKind.format .f64=double from rfl,f2]at f;cases f
 refine aHa fun k7 u7=>aHc ⟨fun _ k8 u8=>⟨_,_,rfl,fun k9 u9=>⟨_,_,rfl,?_⟩⟩,fun f=>by rw [show FloatKind.format .f64=double from rfl,f3 s]at f;cases f⟩;refine fun k10 u10=>aHb fun k11 u11=>aHf ⟨fun _ k12 u12=>⟨_,rfl,fun k13 u13=>⟨_,rfl,(f4 s).1,?_⟩⟩,fun f=>by rw [show FloatKind.format .f64=double from rfl,f3 s]at f;cases f⟩;rw [(f4 s).2];have v13:=u0.trans (u1.trans (u2.trans (u3.trans (u4.trans (u5.trans (u6.trans (u7.trans (u8.trans (u9.trans (u10.trans (u11.trans (u12.trans u13))))))))))));refine aBt (z:=0) oz oz fun k14 ds u14 hI=>?_;have hI':=hI;obtain⟨b,A,n,c,rfl,hr,hn⟩:=hI';refine⟨_,_,_,_,rfl,?_⟩
 try dsimp only
 rw [show wrap .i64 ((0:Int)-53)=-53 from by decide];refine⟨fun f=>absurd f oz,fun _=>?_⟩;rw [show wrap .i64 ((0:Int) - -53)=((53:Nat):Int) from by decide];refine iJ (x:=1) oz fun k15 B j d u15 h15 l15=>⟨_,_,_,rfl,?_⟩;refine fN h15 oq oz fun k16 B j d u16 h16 l16=>⟨_,_,_,rfl,?_⟩;refine kW (K:=1200) ((hI.up (u15.trans u16)).mono oz) h16 oz oz oq fun k17 ds u17 h17=>?_;have h17':=h17;obtain⟨g,A,n,c,D,d,e,rfl,_⟩:=h17';refine⟨_,_,_,_,_,_,_,rfl,fun k18 u18=>C k18 _ (v13.trans (u14.trans (u15.trans (u16.trans (u17.trans u18))))) ?_⟩;have:=h17.up u18
 rwa [ye]at this
theorem aOg {w:Nat}(h:w<2^64) (hE:cH w=2047) (hf:fJ w=0):w=double.nearest (dZ w) 1 5000:=by
 have e:=sR h;rw [sM,hE,hf]at e;rw [e];generalize dZ w=s;have key:∀s,double.word s (2047*2^52+0)=double.nearest s 1 5000:=by decide +kernel
 have k2:∀s,dZ (double.word s (2047*2^52+0))=s:=by decide +kernel
 rw [k2,key]
theorem aSe (h:w<2^64) (C:∀k' ds,Up k k'→RatV k' ds (kT w) 1200→R k' (.tuple #[.agg ds,.int .i64 (if cH w<2047 then 0 else 1)])) :
 Cl k 149 #[.float .f64 w] R:=by
 by_cases hE:cH w<2047
 ·rw [od hE]at C
  by_cases hm:fO w=0
  ·rw [aBq hE hm]at C;have e:w=double.nearest (dZ w) 0 0:=by
    have hr:w % 2^63=0:=by
     rw [sM];unfold fO at hm;split at hm
     ·rename_i g;rw [g,hm]
     ·have:=ot 52;omega
    have:=sR h;rw [hr]at this;rw [this];generalize dZ w=s;have k2:∀s,dZ (double.word s 0)=s:=by decide +kernel
    rw [k2];unfold Format.nearest;rw [od rfl]
   rw [e];exact aDj C
  ·obtain⟨e,hh⟩:=aMq h hE hm;have hn:kT w=fI (dZ w) (fO w) (mK w):=by unfold kT;rw [od hE]
   rw [hn]at C;rw [e];generalize dZ w=s at *
   generalize fO w=m at *
   generalize mK w=p at *
   exact aGi hh C
 ·have hE2:cH w=2047:=by have:=xX w;omega
  have hn:kT w=0:=by unfold kT;rw [oh hE]
  rw [oh hE,hn]at C;intro k0 u0;have hr:=nN h;rw [oh hE]at hr
  by_cases hf:fJ w=0
  ·have e:=aOg h hE2 hf;rw [e];generalize dZ w=s;have f1:∀s,(Format.order double (double.nearest s 1 5000) (double.nearest s 1 5000) != some Ordering.eq)=false:=by decide +kernel
   have f2:(Format.order double (double.nearest false 1 5000) 9218868437227405311 == some Ordering.gt)=true:=by decide +kernel
   refine mI fun k1 u1=>lR fun k2 u2=>⟨_,rfl,fun f=>?_,fun _ k3 u3=>pR ⟨fun _=>tL fun k4 u4=>⟨_,rfl,fun k5 u5=>⟨_,rfl,fun _ k6 u6=>?_,fun f=>?_⟩⟩,fun f=>by cases f⟩⟩
   ·rw [show FloatKind.format .f64=double from rfl,f1 s]at f;cases f
   ·exact C k6 _ (u0.trans (u1.trans (u2.trans (u3.trans (u4.trans (u5.trans u6)))))) aHv
   ·rw [show FloatKind.format .f64=double from rfl,f2]at f;cases f
  ·rw [oh hf]at hr;refine mI fun k1 u1=>lR fun k2 u2=>⟨_,rfl,fun _ k3 u3=>C k3 _ (u0.trans (u1.trans (u2.trans u3))) aHv,fun f=>?_⟩;rw [show FloatKind.format .f64=double from rfl,aKq hr]at f;cases f
end
open Go.RowKit Num Ieee FT W32
namespace FT
variable {f:Ieee.Format}
theorem iC {x y:Nat}{s t:Bool}{M N:Nat}{i j:Int}(hx:f.read x=.number s M i) (hy:f.read y=.number t N j) :
 f.order x y=some (compare (signed s M (i-min i j).toNat) (signed t N (j-min i j).toNat)):=by
 unfold Format.order;rw [hx,hy];rfl
theorem aKi {x y:Int}(h:¬ x<y):(some (compare x y) == some Ordering.lt)=false:=by
 simp only [compare,compareOfLessAndEq];rw [oh h];split <;> rfl
theorem lE {s:Bool}{j:Nat}:signed s 0 j=0:=by
 unfold signed;cases s <;> simp
theorem aKp {x y:Nat}{s t:Bool}{M:Nat}{i j:Int}(hx:f.read x=.number s M i) (hy:f.read y=.number t 0 j) (hM:M≠0):(f.order x y == some Ordering.lt)=s:=by
 rw [iC hx hy,lE];have hz:=jm hM (xg (ot (i-min i j).toNat));unfold signed;rw [zf];generalize M*2^(i-min i j).toNat=z at hz;cases s
 ·exact aKi (by simp)
 ·exact lt_of (by simp;omega)
theorem oQ {x y:Nat}{s t:Bool}{i j:Int}(hx:f.read x=.number s 0 i) (hy:f.read y=.number t 0 j):f.order x y=some Ordering.eq:=by
 rw [iC hx hy,lE,lE];simp [compare,compareOfLessAndEq]
theorem aPq {x:Nat}{s:Bool}{M:Nat}{i:Int}(hx:f.read x=.number s M i):f.order x x=some Ordering.eq:=by
 rw [iC hx hx];simp [compare,compareOfLessAndEq]
end FT
open FT
theorem pQ {m:Nat}{p:Int}(h:Has single m p):Has double m p:=by
 have h1:m<2^24:=h.bits;have h2:(-149:Int)≤p:=h.low;have h3:p+m.log2-23+149+3≤256:=h.top;exact⟨h.ne,ze h1 oz,by show (-1074:Int)≤p;omega,by show p+m.log2-52+1074+3≤2048;omega⟩
theorem aUj {s:Bool}{m:Nat}{p i:Int}(h:i≤p):fI s (m*2^(p-i).toNat) i=fI s m p:=by
 rw [←nB (s:=s) (m:=m) (p:=p) (d:=(-i).toNat) (j:=(p+(-i).toNat).toNat+0) oq];unfold fI;rw [zk,qf,←oi]
 congr 4
 omega
theorem aPf {s:Bool}{m:Nat}{p:Int}(h:Has double m p):kT (double.nearest s m p)=fI s m p∧cH (double.nearest s m p)<2047:=by
 have a:=nN (near64 s m p).1;rw [h.read aN]at a;unfold kT
 by_cases g:cH (double.nearest s m p)<2047
 ·rw [od g]at a ⊢;injection a with a1 a2 a3;rw [←a1,←a2,←a3,aUj h.last_le];exact⟨rfl,g⟩
 ·rw [oh g]at a;split at a <;> cases a
def fP (w:Nat):Rat:=if eK w<255 then fI (cF w) (cI w) (cX w) else 0
theorem aDn {w:Nat}(h:w<2^32) (hm:cI w=0):w=single.word (cF w) 0∧eK w=0:=by
 have hE:eK w=0∧iN w=0:=by
  unfold cI at hm;split at hm
  ·exact⟨by assumption,hm⟩
  ·have:=ot 23;omega
 have:=jM h;rw [jI,hE.1,hE.2]at this;exact⟨this,hE.1⟩
theorem aGz {v n:Nat}(h:v<2^32) (hc:Sy.F2F .f32 .f64 v n):n<2^64∧(cH n<2047↔eK v<255)∧kT n=fP v:=by
 have hr:=gO h
 by_cases hE:eK v<255
 ·have hv:fP v=fI (cF v) (cI v) (cX v):=by unfold fP;rw [od hE]
  by_cases hm:cI v=0
  ·obtain⟨e,e0⟩:=aDn h hm;have hz:fP v=0:=by
    rw [hv,hm];unfold fI;rw [je,show sgn (cF v) 0=0 from by unfold sgn;cases cF v <;> rfl,ye]
   rw [hz];have key:∀s,Sy.f2fOk .f32 .f64 (single.word s 0)=true∧Sy.f2f .f32 .f64 (single.word s 0)<2^64∧cH (Sy.f2f .f32 .f64 (single.word s 0))<2047∧fO (Sy.f2f .f32 .f64 (single.word s 0))=0:=by decide +kernel
   obtain⟨k1,k2,k3,k4⟩:=key (cF v);rw [←e]at k1 k2 k3 k4;rcases hc with ⟨_,rfl⟩|⟨c,_⟩
   ·exact⟨k2,⟨fun _=>hE,fun _=>k3⟩,aBq k3 k4⟩
   ·rw [k1]at c;cases c
  ·obtain⟨e,hh⟩:=lJ h hE hm;have hd:=pQ hh;obtain⟨c1,c2⟩:=jC (k:=.f32) (k':=.f64) (s:=cF v) oz eO aN hh hd;have c1:Sy.f2f .f32 .f64 (single.nearest (cF v) (cI v) (cX v))=double.nearest (cF v) (cI v) (cX v):=c1;have c2:Sy.f2fOk .f32 .f64 (single.nearest (cF v) (cI v) (cX v))=true:=c2;rw [←e]at c1 c2;obtain⟨d1,d2⟩:=aPf (s:=cF v) hd;rcases hc with ⟨_,rfl⟩|⟨c,_⟩
   ·rw [c1,d1,hv];exact⟨(near64 _ _ _).1,⟨fun _=>hE,fun _=>d2⟩,rfl⟩
   ·rw [c2]at c;cases c
 ·have hv:fP v=0:=by unfold fP;rw [oh hE]
  rw [hv];have hE2:eK v=255:=by have:=tK v;omega
  have bad:∀n,n<2^64→¬ cH n<2047→n<2^64∧(cH n<2047↔eK v<255)∧kT n=0:=fun n h1 h2=>⟨h1,⟨fun g=>absurd g h2,fun g=>absurd g hE⟩,by unfold kT;rw [oh h2]⟩;rw [oh hE]at hr
  by_cases hf:iN v=0
  ·have e:=jM h;rw [jI,hE2,hf]at e;have key:∀s,Sy.f2fOk .f32 .f64 (single.word s (255*2^23+0))=true∧Sy.f2f .f32 .f64 (single.word s (255*2^23+0))<2^64∧¬ cH (Sy.f2f .f32 .f64 (single.word s (255*2^23+0)))<2047:=by decide +kernel
   obtain⟨k1,k2,k3⟩:=key (cF v);rw [←e]at k1 k2 k3;rcases hc with ⟨_,rfl⟩|⟨c,_⟩
   ·exact bad _ k2 k3
   ·rw [k1]at c;cases c
  ·rw [oh hf]at hr;have hd:FloatKind.decode .f32 v=.nan (cF v) (iN v):=hr;rcases hc with ⟨c,_⟩|⟨_,t,c⟩
   ·unfold Sy.f2fOk at c;rw [hd]at c;cases c
   ·rw [hd,od (by rfl)]at c;subst c;have e:Question.cut (.nanConv .f64 v) t=(t % 2)*9223372036854775808+9218868437227405312+1+(t/2) % 4503599627370495:=rfl;rw [e];have ha:t % 2<2:=qy _ oz;have hb:t/2 % 4503599627370495<4503599627370495:=qy _ oz;generalize t % 2=a at *
    generalize t/2 % 4503599627370495=b at *
    refine bad _ ?_ ?_
    ·rw [show (2:Nat)^64=18446744073709551616 from rfl];omega
    ·unfold cH;have e3:(a*9223372036854775808+9218868437227405312+1+b) / 2^52=a*2048+2047:=by
      rw [show (2:Nat)^52=4503599627370496 from rfl];omega
     rw [e3];omega
section
variable {k:World}{R:World→Value→Prop}{w v:Nat}
theorem aRa (h:w<2^64) (C:∀k',Up k k'→R k' (.bool (dZ w))):Cl k 21 #[.float .f64 w] R:=by
 intro k0 u0;refine aNt fun k1 u1=>?_;have e:(decide ((wrap .i64 ((w:Nat):Int))<0))=dZ w:=by
  unfold dZ;rw [vz,decide_eq_true_iff,beq_iff_eq,qt];rw [show (2:Nat)^64=18446744073709551616 from rfl]at h;rw [show (2:Nat)^63=9223372036854775808 from rfl];omega
 rw [e];exact C k1 (u0.trans u1)
theorem vI (h:v<2^32) (C:∀k' ds,Up k k'→RatV k' ds (fP v) 1200→R k' (.tuple #[.agg ds,.int .i64 (if eK v<255 then 0 else 1)])) :
 Cl k 61 #[.float .f32 v] R:=by
 intro k0 u0;refine zL fun n hc=>?_;obtain⟨h1,h2,h3⟩:=aGz h hc;refine aSe h1 fun k1 ds u1 hd=>?_;rw [h3]at hd;have hd':=hd;obtain⟨g,A,n,c,D,d,e,rfl,_⟩:=hd';refine⟨_,_,_,_,_,_,_,_,rfl,fun k2 u2=>?_⟩;have:=C k2 _ (u0.trans (u1.trans u2)) (hd.up u2)
 by_cases g:eK v<255
 ·rw [od g]at this;rw [od (h2.2 g)];exact this
 ·rw [oh g]at this;rw [oh fun c=>g (h2.1 c)];exact this
theorem kS (h:v<2^32) (hE:eK v<255):(single.order (Sy.f2f .f64 .f32 (cV (fP v) 24 (-149) 128)) v == some Ordering.eq)=true∧
 ∀n,Sy.F2F .f32 .f64 (Sy.f2f .f64 .f32 (cV (fP v) 24 (-149) 128)) n→n<2^64∧(dZ n == (single.order v 0 == some Ordering.lt))=true:=by
 have hr:=gO h;have hz:single.read 0=.number false 0 (-149):=by decide +kernel
 rw [od hE]at hr
 by_cases hm:cI v=0
 ·have hn:fP v=0:=by
   unfold fP;rw [od hE,hm];unfold fI;rw [je,show sgn (cF v) 0=0 from by unfold sgn;cases cF v <;> rfl,ye]
  have e0:Sy.f2f .f64 .f32 0=0:=by decide +kernel
  have e1:Sy.f2f .f32 .f64 0=0∧Sy.f2fOk .f32 .f64 0=true:=by decide +kernel
  rw [hn,wS,e0];rw [hm]at hr;refine⟨by rw [oQ hz hr];rfl,fun n hc=>?_⟩;rcases hc with ⟨_,rfl⟩|⟨c,_⟩
  ·rw [e1.1,oQ hr hz];exact⟨oz,rfl⟩
  ·rw [e1.2]at c;cases c
 ·obtain⟨e,hh⟩:=lJ h hE hm;have hd:=pQ hh;have hn:fP v=fI (cF v) (cI v) (cX v):=by unfold fP;rw [od hE]
  have hl:(cI v).log2<24:=(zg hh.ne).2 hh.bits;have hb:bl (cI v)=(cI v).log2+1:=by unfold bl;rw [oh hm]
  have htop:cX v+(cI v).log2-23+149+3≤256:=hh.top;have hnear:=aBl (s:=cF v) (p:=cX v) gV hm oq hh.low oq;have c1:Sy.f2f .f64 .f32 (double.nearest (cF v) (cI v) (cX v))=single.nearest (cF v) (cI v) (cX v):=(jC (k:=.f64) (k':=.f32) (s:=cF v) oz aN eO hd hh).1;have c2:Sy.f2f .f32 .f64 (single.nearest (cF v) (cI v) (cX v))=double.nearest (cF v) (cI v) (cX v)∧Sy.f2fOk .f32 .f64 (single.nearest (cF v) (cI v) (cX v))=true:=jC (k:=.f32) (k':=.f64) (s:=cF v) oz eO aN hh hd;rw [hn,hnear,c1,←e];rw [←e]at c2;refine⟨by rw [aPq hr];rfl,fun n hc=>?_⟩;rcases hc with ⟨_,rfl⟩|⟨c,_⟩
  ·rw [c2.1,aKp hr hz hm];refine⟨(near64 _ _ _).1,?_⟩;have a:=nN (near64 (cF v) (cI v) (cX v)).1;rw [hd.read aN]at a;have es:dZ (double.nearest (cF v) (cI v) (cX v))=cF v:=by
    split at a
    ·injection a with a1;exact a1.symm
    ·split at a <;> cases a
   rw [es];exact beq_self_eq_true _
  ·rw [c2.2]at c;cases c
end
