/- Walks: math/bits.Div64. -/
import Derived.Test.YthiaclljcnincaaGreatApLimb1
import Derived.Test.YthiaclljcnincaaGreatApShelf
import Derived.Deep.DeepCutAuto
set_option maxHeartbeats 1000000
set_option maxRecDepth 100000
namespace Go.Proofs.YthiaclljcnincaaGreat
open Go.RowKit Num
theorem nM {x:Nat}(h:x≠0):bl x=1+bl (x/2):=by
 have h1:bl x≤1+bl (x/2):=by
  rw [vg,kF,jj];have:=mE (x/2);omega
 have h2:1≤bl x:=by
  refine zw fun hlt=>?_;have:=(kF (n:=x) (k:=0)).1 oq;simp at this;exact h this
 have h3:bl (x/2)≤bl x-1:=by
  rw [kF];have h4:=mE x;rw [show bl x=(bl x-1)+1 by omega,jj]at h4;omega
 omega
theorem wT:∀(f x:Nat),x<2^f→Lib.bitLenAux f x=bl x:=by
 intro f
 induction f with
 | zero=>intro x h;have:x=0:=by simpa using h
         subst this;rfl
 | succ f ih=>
  intro x h;unfold Lib.bitLenAux
  by_cases h0:x=0
  ·subst h0;rfl
  ·rw [oh h0,ih _ (by rw [jj]at h;omega),←nM h0]
theorem aGw (x:Nat) (h:x<18446744073709551616):Lib.bitLen x=bl x:=wT 64 x h
theorem aZw {x:Nat}(h:x<18446744073709551616):bl x≤64:=kF.2 h
theorem aMx (y s:Nat) (w:World) (hy:y<18446744073709551616) (hs:s+bl y=64) :
 Calls Tryz.prog 105 #[.int .u64 y] w fun e w'=>e=.returned (.int .i64 s)∧w=w':=
 (Tryz.bits_LeadingZeros64 (y:Int) w oq oq).mono fun e w' ⟨he,hw⟩=>⟨by
   rw [he,oo,aGw y hy]
   congr 2
   omega,hw.symm⟩
theorem aHi (lo y:Nat) (w:World) (hlo:lo<18446744073709551616) (h:0<y) :
 Calls Tryz.prog 110 #[.int .u64 0,.int .u64 lo,.int .u64 y] w fun e w'=>e=.returned (.tuple #[.int .u64 ((lo/y:Nat):Int),.int .u64 ((lo % y:Nat):Int)])∧∃n,w'=w.drewN n:=by
 have hy0:(((y:Nat):Int) == 0)=false:=by simp;omega
 have hd:((0:Int) == 0)=true:=rfl
 go_enter Tryz.func110,Tryz.ntmps110
 go_wp2_with fail
 go_quiet (fail)
 go_wp2_with fail
 go_ret2
 have hle:lo/y≤lo:=zt _ _
 exact⟨by
  have e:IntKind.u64.wrap ((lo:Int) / (y:Int))=(lo:Int) / (y:Int):=by
   rw [IntKind.wrap_u64,←Int.natCast_ediv];generalize lo/y=z at *
   omega
  simp [e],_,rfl⟩
theorem mask32 (a:Nat) (ha:a<18446744073709551616):bits .and .u64 (a:Int) 4294967295=((a % 4294967296:Nat):Int):=by
 have h:=u64_and_nat a 4294967295 ha oz;rw [show a &&& 4294967295=a % 4294967296 from Nat.and_two_pow_sub_one_eq_mod a 32]at h;exact h
theorem aHk (hi lo y s:Nat) (hlo:lo<18446744073709551616) (hh:hi<y) (_hy:y<18446744073709551616) (hs:s+bl y=64) :
 ∃Y n1 n0 n32 m1 m0 m:Nat,y*2^s=Y∧Y=n1*4294967296+n0∧n0<4294967296∧2147483648≤n1∧n1<4294967296∧
  (hi*18446744073709551616+lo)*2^s=n32*18446744073709551616+m∧m=m1*4294967296+m0∧m1<4294967296∧m0<4294967296∧n32<Y∧
  IntKind.u64.wrap ((y:Int)*2^s)=(Y:Int)∧(Y:Int) / 4294967296=(n1:Int)∧bits .and .u64 (Y:Int) 4294967295=(n0:Int)∧
  bits .or .u64 (IntKind.u64.wrap ((hi:Int)*2^s)) ((lo:Int) / 2^(64-s))=(n32:Int)∧
  IntKind.u64.wrap ((lo:Int)*2^s)=(m:Int)∧(m:Int) / 4294967296=(m1:Int)∧
  bits .and .u64 (m:Int) 4294967295=(m0:Int):=by
 have hP:0<2^s:=oc oq;have hR:0<2^(64-s):=oc oq;have hsp:18446744073709551616=2^s*2^(64-s):=by rw [←jt,show s+(64-s)=64 by omega]
 have hy1:y*2^s<18446744073709551616:=by
  have h1:=jr (mE y) hP;rw [←jt,show bl y+s=64 by omega]at h1;exact h1
 have hy2:9223372036854775808≤y*2^s:=by
  have h1:=ol (2^s) (nH (n:=y) oq);rw [←jt]at h1;have h3:=nM (x:=y) oq;rw [show bl y-1+s=63 by omega]at h1;exact h1
 have hh1:hi*2^s+2^s≤y*2^s:=by
  have:=ol (2^s) hh
  rwa [zj]at this
 have hc:=lE lo (2^s) (2^(64-s)) hP hR;rw [←hsp]at hc;have hlo2:lo/2^(64-s)<2^s:=by rw [qj hR,←hsp];exact hlo
 have hN:(hi*18446744073709551616+lo)*2^s=(hi*2^s)*18446744073709551616+lo*2^s:=by
  rw [jo,Nat.mul_right_comm]
 refine⟨y*2^s,y*2^s/4294967296,y*2^s % 4294967296,hi*2^s+lo/2^(64-s),lo*2^s % 18446744073709551616/4294967296,lo*2^s % 18446744073709551616 % 4294967296,lo*2^s % 18446744073709551616,
  rfl,oq,oq,oq,oq,?_,oq,oq,oq,oq,?_,?_,?_,?_,?_,?_,?_⟩
 ·rw [hN];have:=hc.2;omega
 ·rw [IntKind.wrap_u64,show ((y:Int)*2^s)=((y*2^s:Nat):Int) by simp];omega
 ·omega
 ·exact mask32 _ hy1
 ·rw [IntKind.wrap_u64,show ((hi:Int)*2^s)=((hi*2^s:Nat):Int) by simp,show ((lo:Int) / 2^(64-s))=((lo/2^(64-s):Nat):Int) by simp,
   show ((hi*2^s:Nat):Int) % 18446744073709551616=((hi*2^s:Nat):Int) by omega,u64_or_nat _ _ oq oq,oa hi,←Nat.two_pow_add_eq_or_of_lt hlo2]
 ·rw [IntKind.wrap_u64,show ((lo:Int)*2^s)=((lo*2^s:Nat):Int) by simp];omega
 ·omega
 ·exact mask32 _ (qg _ oz)
theorem vH (Y n1 n0 n32 m1:Nat) (hY:Y=n1*4294967296+n0) (h0:n0<4294967296) (h1:2147483648≤n1) (h1':n1<4294967296) (hn:n32<Y) (hm:m1<4294967296) :
 ∃q r:Nat,q*n1+r=n32∧r<n1∧q≤4294967297∧(n32*4294967296+m1) / Y≤q∧IntKind.u64.wrap ((n32:Int) / (n1:Int))=(q:Int)∧IntKind.u64.wrap ((n32:Int)-IntKind.u64.wrap ((q:Int)*(n1:Int)))=(r:Int):=by
 have i1:=aHt (u1:=m1) hY h0 hn hm oq oq;have J1:=jf n32 n1;rw [oa]at J1;have J2:n32 % n1<n1:=qg _ oq;refine⟨n32/n1,n32 % n1,J1,J2,i1.1,i1.2,?_,?_⟩
 ·rw [IntKind.wrap_u64,←Int.natCast_ediv];have:=i1.1;generalize n32/n1=z at *
  omega
 ·rw [←vd,IntKind.wrap_u64,IntKind.wrap_u64];generalize n32/n1*n1=z at *
  generalize n32 % n1=r at *
  omega
theorem zV (Y n32 m1 Q:Nat) (hY:Y<18446744073709551616) (hp:0<Y) (hQ:Q=(n32*4294967296+m1) / Y) :
 IntKind.u64.wrap (IntKind.u64.wrap (IntKind.u64.wrap ((n32:Int)*4294967296)+(m1:Int))-IntKind.u64.wrap ((Q:Int)*(Y:Int)))=(((n32*4294967296+m1) % Y:Nat):Int):=by
 have h1:=jf (n32*4294967296+m1) Y;have h2:=qg (n32*4294967296+m1) hp;rw [←hQ]at h1;rw [←vd,oa Q Y];simp only [IntKind.wrap_u64];generalize (n32*4294967296+m1) % Y=X at *
 generalize Y*Q=Z at *
 omega
theorem aTf {N y s Y n32 m m1 m0 Q X Q' X':Nat}(hY:y*2^s=Y) (hp:0<Y) (hU:N*2^s=n32*18446744073709551616+m) (hm:m=m1*4294967296+m0)
 (hQ:Q=(n32*4294967296+m1) / Y) (hX:X=(n32*4294967296+m1) % Y) (hQ':Q'=(X*4294967296+m0) / Y) (hX':X'=(X*4294967296+m0) % Y) :
 N/y=Q*4294967296+Q'∧N % y=X' / 2^s:=by
 have h:=aMn (n32:=n32) (D:=4294967296) (m1:=m1) (m0:=m0) hp;rw [←hX,←hQ,←hQ',←hX']at h;have e:(n32*4294967296+m1)*4294967296+m0=N*2^s:=by rw [hU,hm];omega
 rw [e,←hY]at h;have hP:0<2^s:=oc oq;rw [Nat.mul_div_mul_right _ _ hP,Nat.mul_mod_mul_right]at h;exact⟨h.1,by rw [←h.2,Nat.mul_div_cancel _ hP]⟩
theorem aCl (hi lo y s:Nat) (w:World) (hlo:lo<18446744073709551616) (hy:y<18446744073709551616) (h:0<hi) (hh:hi<y) (hs:s+bl y=64) :
 Calls Tryz.prog 110 #[.int .u64 hi,.int .u64 lo,.int .u64 y] w fun e w'=>e=.returned (.tuple #[.int .u64 (((hi*18446744073709551616+lo) / y:Nat):Int),.int .u64 (((hi*18446744073709551616+lo) % y:Nat):Int)])∧∃n,w'=w.drewN n:=by
 have hy0:(((y:Nat):Int) == 0)=false:=by simp;omega
 have hi0:(((hi:Nat):Int) == 0)=false:=by simp;omega
 obtain⟨Y,n1,n0,n32,m1,m0,m,eY,eY2,hn0,hn1,hn1',eU,em,hm1,hm0,hnY,r1,r2,r3,r4,r5,r6,r7⟩:=aHk hi lo y s hlo hh hy hs;have EY:=ou eY;have EY2:=ou eY2;have EU:=ou eU;clear eY eY2 eU;have EM:=ou em;clear em;have hz:0<n1:=oq
 have HN1:=ou hn1;have HN1':=ou hn1';have HN0:=ou hn0;have HM1:=ou hm1;have HM0:=ou hm0;clear hn1 hn1' hn0 hm1 hm0;have HS:=ou hs;have hs63:s≤63:=by
  have:=nM (x:=y) oq;omega
 clear hs;obtain⟨q,r,j1,j2,j3,j4,j5,j6⟩:=vH Y n1 n0 n32 m1 EY2.out HN0.out HN1.out HN1'.out hnY HM1.out;have hY0:0<Y:=oq
 obtain⟨Q,hQ⟩:∃Q,Q=(n32*4294967296+m1) / Y:=⟨_,rfl⟩;have hYl:Y<18446744073709551616:=by have:=EY2.out;have:=HN0.out;have:=HN1'.out;omega
 have j7:=zV Y n32 m1 Q hYl hY0 hQ;have hX:=qg (n32*4294967296+m1) hY0;obtain⟨X,eX⟩:∃X,X=(n32*4294967296+m1) % Y:=⟨_,rfl⟩;rw [←eX]at j7 hX;rw [←hQ]at j4;have hQl:Q<4294967296:=by rw [hQ];exact aFg hnY HM1.out
 obtain⟨q',r',k1,k2,k3,k4,k5,k6⟩:=vH Y n1 n0 X m0 EY2.out HN0.out HN1.out HN1'.out hX HM0.out;obtain⟨Q',hQ'⟩:∃Q',Q'=(X*4294967296+m0) / Y:=⟨_,rfl⟩;have k7:=zV Y X m0 Q' hYl hY0 hQ';obtain⟨X',eX'⟩:∃X',X'=(X*4294967296+m0) % Y:=⟨_,rfl⟩;rw [←eX']at k7;rw [←hQ']at k4;have hQl':Q'<4294967296:=by rw [hQ'];exact aFg hX HM0.out
 have HQ:=ou hQ;have HX:=ou eX;have HQ':=ou hQ';have HX':=ou eX';have J1:=ou j1;have K1:=ou k1;clear hQ eX hQ' eX' j1 k1
 go_enter Tryz.func110,Tryz.ntmps110
 go_upto_block 0 with (go_at_call 105;refine (aMx y s _ hy HS.out).mono ?_;rintro e w' ⟨rfl,rfl⟩)
 go_cut [15] (fun q wx=>wx=w∧q=.int .u64 (Q:Int))
 case first=>
  go_wp2_with fail
  have b1:=HN1'.out;have bm:=HM1.out;have b0:=HN0.out
  go_loop [15,16] (fun a b=>∃qv rv:Nat,a=.int .u64 qv∧b=.int .u64 rv∧Hid (qv*n1+rv=n32)∧rv<4294967296∧Q≤qv∧qv≤4294967297) (fun a _=>(intOf a).toNat)
  case atStart=>exact⟨q,r,rfl,rfl,J1,oq,j4,j3⟩
  case round=>
   obtain⟨qv,rv,rfl,rfl,hJ,hr,hge,hle⟩:=hrel;have next:Q<qv→Hid ((qv-1)*n1+(rv+n1)=n32):=fun hlt=>by
    unfold Hid;have:=hJ.out;obtain⟨z,rfl⟩:∃z,qv=z+1:=⟨qv-1,oq⟩;rw [zj]at this;rw [wu];omega
   have fin:Q<qv→4294967296≤rv+n1→qv-1=Q:=fun hlt hd=>by
    have:=vL (u1:=m1) EY2.out hY0 b0 (next hlt).out hd oq (by rw [←HQ.out];omega)
    rw [this,←HQ.out]
   have NX:=ou next
   have FN:=ou fin;clear next fin
   by_cases hbig:(4294967296:Int)≤(qv:Int)
   ·by_cases hd:(4294967296:Int)≤(rv:Int)+(n1:Int)
    ·go_wp2_with fail
     go_meet
     exact⟨rfl,by rw [←FN.out oq oq];go_num⟩
    ·go_wp2_with fail
     go_round
     case rel=>exact⟨qv-1,rv+n1,by go_num,by go_num,NX.out oq,oq,oq,oq⟩
     case measure=>simp [intOf];omega
   ·obtain⟨p,ep⟩:∃p,p=qv*n0:=⟨_,rfl⟩;have hp:p<18446744073709551616:=by
     rw [ep];have:qv*n0≤4294967295*4294967295:=ky oq oq;omega
    have wp:IntKind.u64.wrap ((qv:Int)*(n0:Int))=(p:Int):=by
     rw [←vd,←ep,IntKind.wrap_u64];omega
    have EP:=ou ep;clear ep
    by_cases ht:(4294967296:Int)*(rv:Int)+(m1:Int)<(p:Int)
    ·have hlt:Q<qv:=by
      rw [HQ.out];exact vM EY2.out bm hJ.out (by rw [←EP.out];omega)
     by_cases hd:(4294967296:Int)≤(rv:Int)+(n1:Int)
     ·go_wp2_with fail
      go_meet
      exact⟨rfl,by rw [←FN.out hlt oq];go_num⟩
     ·go_wp2_with fail
      go_round
      case rel=>exact⟨qv-1,rv+n1,by go_num,by go_num,NX.out hlt,oq,oq,oq⟩
      case measure=>simp [intOf];omega
    ·have e:qv=Q:=by
      have:=tI (u1:=m1) EY2.out hY0 hJ.out (by rw [←EP.out];omega) (by rw [←HQ.out];exact hge);rw [this,←HQ.out]
     have HE:=ou e;clear e
     go_wp2_with fail
     go_meet
     exact⟨rfl,by rw [HE.out]⟩
 case rest=>
  obtain⟨rfl,rfl⟩:=hcut
  go_upto_block 2 with fail
  go_cut [18] (fun q wx=>wx=wc∧q=.int .u64 (Q':Int))
  case first=>
   go_wp2_with fail
   have b1:=HN1'.out;have bm:=HM0.out;have b0:=HN0.out
   go_loop [18,16] (fun a b=>∃qv rv:Nat,a=.int .u64 qv∧b=.int .u64 rv∧Hid (qv*n1+rv=X)∧rv<4294967296∧Q'≤qv∧qv≤4294967297) (fun a _=>(intOf a).toNat)
   case atStart=>exact⟨q',r',rfl,rfl,K1,oq,k4,k3⟩
   case round=>
    obtain⟨qv,rv,rfl,rfl,hJ,hr,hge,hle⟩:=hrel;have next:Q'<qv→Hid ((qv-1)*n1+(rv+n1)=X):=fun hlt=>by
     unfold Hid;have:=hJ.out;obtain⟨z,rfl⟩:∃z,qv=z+1:=⟨qv-1,oq⟩;rw [zj]at this;rw [wu];omega
    have fin:Q'<qv→4294967296≤rv+n1→qv-1=Q':=fun hlt hd=>by
     have:=vL (u1:=m0) EY2.out hY0 b0 (next hlt).out hd oq (by rw [←HQ'.out];omega)
     rw [this,←HQ'.out]
    have NX:=ou next
    have FN:=ou fin;clear next fin
    by_cases hbig:(4294967296:Int)≤(qv:Int)
    ·by_cases hd:(4294967296:Int)≤(rv:Int)+(n1:Int)
     ·go_wp2_with fail
      go_meet
      exact⟨rfl,by rw [←FN.out oq oq];go_num⟩
     ·go_wp2_with fail
      go_round
      case rel=>exact⟨qv-1,rv+n1,by go_num,by go_num,NX.out oq,oq,oq,oq⟩
      case measure=>simp [intOf];omega
    ·obtain⟨p,ep⟩:∃p,p=qv*n0:=⟨_,rfl⟩;have hp:p<18446744073709551616:=by
      rw [ep];have:qv*n0≤4294967295*4294967295:=ky oq oq;omega
     have wp:IntKind.u64.wrap ((qv:Int)*(n0:Int))=(p:Int):=by
      rw [←vd,←ep,IntKind.wrap_u64];omega
     have EP:=ou ep;clear ep
     by_cases ht:(4294967296:Int)*(rv:Int)+(m0:Int)<(p:Int)
     ·have hlt:Q'<qv:=by
       rw [HQ'.out];exact vM EY2.out bm hJ.out (by rw [←EP.out];omega)
      by_cases hd:(4294967296:Int)≤(rv:Int)+(n1:Int)
      ·go_wp2_with fail
       go_meet
       exact⟨rfl,by rw [←FN.out hlt oq];go_num⟩
      ·go_wp2_with fail
       go_round
       case rel=>exact⟨qv-1,rv+n1,by go_num,by go_num,NX.out hlt,oq,oq,oq⟩
       case measure=>simp [intOf];omega
     ·have e:qv=Q':=by
       have:=tI (u1:=m0) EY2.out hY0 hJ.out (by rw [←EP.out];omega) (by rw [←HQ'.out];exact hge);rw [this,←HQ'.out]
      have HE:=ou e;clear e
      go_wp2_with fail
      go_meet
      exact⟨rfl,by rw [HE.out]⟩
  case rest=>
   obtain⟨rfl,rfl⟩:=hcut
   go_wp2_with fail
   go_ret2
   have hf:=aTf EY.out hY0 EU.out EM.out HQ.out HX.out HQ'.out HX'.out;exact⟨by rw [hf.1,hf.2];simp,0,rfl⟩
theorem vG (hi lo y:Nat) (w:World) (hlo:lo<18446744073709551616) (hy:y<18446744073709551616) (hh:hi<y) :
 Calls Tryz.prog 110 #[.int .u64 hi,.int .u64 lo,.int .u64 y] w fun e w'=>e=.returned (.tuple #[.int .u64 (((hi*18446744073709551616+lo) / y:Nat):Int),.int .u64 (((hi*18446744073709551616+lo) % y:Nat):Int)])∧∃n,w'=w.drewN n:=by
 rcases ju hi with h0|h0
 ·subst h0;simp only [xf,qc];exact aHi lo y w hlo hh
 ·have:=aZw hy;exact aCl hi lo y (64-bl y) w hlo hy h0 hh oq
