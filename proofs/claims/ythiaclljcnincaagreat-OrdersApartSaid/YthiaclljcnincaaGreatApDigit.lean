/- Walks: a digit of a quotient. -/
import Derived.Test.YthiaclljcnincaaGreatApDivide
import Derived.Deep.DeepMust
namespace Go.Proofs.YthiaclljcnincaaGreat
open Go.RowKit Num
set_option maxRecDepth 100000 in
set_option maxHeartbeats 2000000 in
theorem zU (A:Option Addr) (c m n g j cu U N:Nat) (w:World) (h:RW w A (n+2) c m) (hU:RowF w g 94 (wq U) N) (hj:j+n+3≤N) (hN:N≤34359738368) (hu:U/B64^j<B64^(n+3)) (hcu:n+3≤cu)
 (hm0:0<m) (hq:U/B64^j<m*B64) (hA:∀b o,A=some ⟨b,o,none⟩→b≠g) (hsm:wq U (j+(n+2))<wq m (n+1)) :
 Calls Tryz.prog 107 #[.slice (some ⟨g,j,none⟩) (n+3) cu,.slice A (n+2) c] w (DigitQ U j m N g w):=by
 have hql:U/B64^j/m<18446744073709551616:=by rw [qj hm0,oa];exact hq
 have hgs:=zR (p:=U/B64^j) hm0 h.lt hu (by rw [gX];exact hsm);rw [gX,gX,gX]at hgs;obtain⟨q,hQ⟩:∃q,q=U/B64^j/m:=⟨_,rfl⟩;rw [←hQ]at hql hgs;have HQ:=ou hQ;clear hQ;have hc1:w.cell? ⟨g,j+(n+2),none⟩=some (.int .u64 (wq U (j+(n+2)))):=by exact hU.cell oq
 have hc3:w.cell? ⟨g,j+(n+1),none⟩=some (.int .u64 (wq U (j+(n+1)))):=by exact hU.cell oq
 have hc4:w.cell? ⟨g,j+n,none⟩=some (.int .u64 (wq U (j+n))):=by exact hU.cell oq
 obtain⟨b1,o1,rfl,hb1,hcv⟩:=h.at_ oq;have hc2:w.cell? ⟨b1,o1+(n+1),none⟩=some (.int .u64 (wq m (n+1))):=hcv (n+1) oq;have hc5:w.cell? ⟨b1,o1+n,none⟩=some (.int .u64 (wq m n)):=hcv n oq;have hdec:decide (wq U (j+(n+2))<wq m (n+1))=true:=decide_eq_true hsm;have HU:=ou hU;have HR:=ou h;have l1:=bN U (j+(n+1));have l2:=bN m (n+1);have l3:=bN U (j+n);have l4:=bN m n;generalize wq U (j+(n+2))=un at *
 generalize wq U (j+(n+1))=u1 at *
 generalize wq U (j+n)=u2 at *
 generalize wq m (n+1)=v1 at *
 generalize wq m n=v2 at *
 have hcl0:=fun W=>vG un u1 v1 W l1 l2 hsm;have hdm:=jf (un*18446744073709551616+u1) v1;have hrl:=qg (un*18446744073709551616+u1) (y:=v1) oq;have hql0:(un*18446744073709551616+u1) / v1<18446744073709551616:=by
  rw [qj oq,oa 18446744073709551616 v1];exact aGx hsm l1
 obtain⟨q0,e0⟩:∃q0,q0=(un*18446744073709551616+u1) / v1:=⟨_,rfl⟩;obtain⟨r0,e1⟩:∃r0,r0=(un*18446744073709551616+u1) % v1:=⟨_,rfl⟩;rw [←e0,←e1]at hdm;rw [←e1]at hrl;rw [←e0]at hql0 hgs;simp only [←e0,←e1]at hcl0;have hcall:=ou hcl0;have HDM:=ou hdm;have HGS:=ou hgs;have hq0:q≤q0:=hgs.1;clear hcl0 e0 e1 hdm hgs;clear hU h hcv
 go_enter Tryz.func107,Tryz.ntmps107
 go_wp2_with fail
 go_quiet (fail)
 go_wp2_with fail
 go_quiet ((go_at_call 110;exact aJj (hcall.out _)))
 go_upto_block 0 with fail
 go_cut [6] (fun gs wx=>∃gv:Nat,gs=.int .u64 gv∧q≤gv∧gv<18446744073709551616∧∃d,wx=w.drewN d)
 case first=>
  go_wp2_with fail
  go_loopw [6,7] (fun a b wx=>∃gv rv:Nat,(∃d,wx=w.drewN d)∧a=.int .u64 gv∧b=.int .u64 rv∧Hid (v1*gv+rv=un*18446744073709551616+u1)∧q≤gv∧gv<18446744073709551616∧rv<18446744073709551616) (fun a _ _=>(intOf a).toNat)
  case atStart=>exact⟨q0,r0,dn2 _ _ _,rfl,rfl,HDM,hq0,hql0,oq⟩
  case round=>
   obtain⟨gv,rv,⟨d1,rfl⟩,rfl,rfl,hJ,hge,hgl,hrl'⟩:=hrel;obtain⟨hi,lo,hml,hlo⟩:∃hi lo:Nat,gv*v2=hi*18446744073709551616+lo∧lo<18446744073709551616:=⟨gv*v2/18446744073709551616,gv*v2 % 18446744073709551616,oq,oq⟩;have HM:=ou hml;clear hml;have htest:rv*18446744073709551616+u2<hi*18446744073709551616+lo→q<gv:=fun h=>HGS.out.2 gv rv (by rw [oa];exact hJ.out) (by rw [HM.out];exact h);have HTest:=ou htest;clear htest;rcases yj hi rv with hc|hc|hc
   ·clear HTest
    go_wp2_with (go_at_call 83;refine (fF gv v2 hi lo hgl l4 HM.out hlo _).mono ?_;rintro e w' ⟨rfl,rfl⟩)
    go_meet
    exact⟨gv,rfl,hge,hgl,_,rfl⟩
   ·have hle1:hi≤rv:=oq
    have hle2:rv≤hi:=oq
    have heq:((hi:Int) == (rv:Int))=true:=by simp;omega
    clear hc
    by_cases hl:lo≤u2
    ·clear HTest
     go_wp2_with (go_at_call 83;refine (fF gv v2 hi lo hgl l4 HM.out hlo _).mono ?_;rintro e w' ⟨rfl,rfl⟩)
     go_meet
     exact⟨gv,rfl,hge,hgl,_,rfl⟩
    ·have hlt:q<gv:=HTest.out oq;clear HTest;have HLT:=ou hlt;have hJ':Hid (v1*(gv-1)+(rv+v1)=un*18446744073709551616+u1):=by
      unfold Hid;have h1:=hJ.out;obtain⟨z,rfl⟩:∃z,gv=z+1:=⟨gv-1,oq⟩;rw [zu,js]at h1;rw [wu];omega
     by_cases hov:rv+v1<18446744073709551616
     ·have ha:∀W,(callFunc 84 #[.int .u64 rv,.int .u64 v1,.int .u64 0]).run Tryz.prog W=.ok (.value (.tuple #[.int .u64 ((rv+v1:Nat):Int),.int .u64 0])) W:=fun W=>by
       rw [nK,oi hov,qa hov];rfl
      rw [xl]at ha
      go_wp2_with (go_at_call 83;refine (fF gv v2 hi lo hgl l4 HM.out hlo _).mono ?_;rintro e w' ⟨rfl,rfl⟩)
      go_roundw
      case rel=>first|exact⟨gv-1,rv+v1,⟨_,rfl⟩,by go_num,by go_num,hJ',oq,oq,hov⟩|((repeat apply Exists.intro);exact⟨⟨gv-1,rv+v1,⟨_,rfl⟩,by go_num,by go_num,hJ',oq,oq,hov⟩,rfl⟩)
      case measure=>simp [intOf];omega
     ·obtain⟨sm,hsm2⟩:∃sm,sm=rv+v1-18446744073709551616:=⟨_,rfl⟩;have ha:∀W,(callFunc 84 #[.int .u64 rv,.int .u64 v1,.int .u64 0]).run Tryz.prog W=.ok (.value (.tuple #[.int .u64 (sm:Int),.int .u64 1])) W:=fun W=>by
       rw [nK,show (rv+v1) % 18446744073709551616=sm by omega,show (rv+v1) / 18446744073709551616=1 by omega];rfl
      clear hsm2 hov
      go_wp2_with (go_at_call 83;refine (fF gv v2 hi lo hgl l4 HM.out hlo _).mono ?_;rintro e w' ⟨rfl,rfl⟩)
      go_meet
      exact⟨gv-1,by go_num,oq,oq,_,rfl⟩
   ·have hlt:q<gv:=HTest.out oq;clear HTest;have hne:((hi:Int) == (rv:Int))=false:=by simp;omega
    have HLT:=ou hlt;have hJ':Hid (v1*(gv-1)+(rv+v1)=un*18446744073709551616+u1):=by
     unfold Hid;have h1:=hJ.out;obtain⟨z,rfl⟩:∃z,gv=z+1:=⟨gv-1,oq⟩;rw [zu,js]at h1;rw [wu];omega
    by_cases hov:rv+v1<18446744073709551616
    ·have ha:∀W,(callFunc 84 #[.int .u64 rv,.int .u64 v1,.int .u64 0]).run Tryz.prog W=.ok (.value (.tuple #[.int .u64 ((rv+v1:Nat):Int),.int .u64 0])) W:=fun W=>by
      rw [nK,oi hov,qa hov];rfl
     rw [xl]at ha
     go_wp2_with (go_at_call 83;refine (fF gv v2 hi lo hgl l4 HM.out hlo _).mono ?_;rintro e w' ⟨rfl,rfl⟩)
     go_roundw
     case rel=>first|exact⟨gv-1,rv+v1,⟨_,rfl⟩,by go_num,by go_num,hJ',oq,oq,hov⟩|((repeat apply Exists.intro);exact⟨⟨gv-1,rv+v1,⟨_,rfl⟩,by go_num,by go_num,hJ',oq,oq,hov⟩,rfl⟩)
     case measure=>simp [intOf];omega
    ·obtain⟨sm,hsm2⟩:∃sm,sm=rv+v1-18446744073709551616:=⟨_,rfl⟩;have ha:∀W,(callFunc 84 #[.int .u64 rv,.int .u64 v1,.int .u64 0]).run Tryz.prog W=.ok (.value (.tuple #[.int .u64 (sm:Int),.int .u64 1])) W:=fun W=>by
      rw [nK,show (rv+v1) % 18446744073709551616=sm by omega,show (rv+v1) / 18446744073709551616=1 by omega];rfl
     clear hsm2 hov
     go_wp2_with (go_at_call 83;refine (fF gv v2 hi lo hgl l4 HM.out hlo _).mono ?_;rintro e w' ⟨rfl,rfl⟩)
     go_meet
     exact⟨gv-1,by go_num,oq,oq,_,rfl⟩
 case rest=>
  obtain⟨g0,rfl,hg0,hg1,d0,rfl⟩:=hcut
  go_wp2_with fail
  go_loopw [6] (fun gs wr=>∃gv:Nat,gs=.int .u64 gv∧q≤gv∧gv<18446744073709551616∧RowF wr g 94 (wq U) N∧RW wr (some ⟨b1,o1,none⟩) (n+2) c m∧w.grownBy wr (some g)) (fun gs _=>(intOf gs).toNat)
  case atStart=>exact⟨g0,rfl,hg0,hg1,HU.out.drewN _,HR.out.drewN _,tN (World.grownBy.refl _ _) _⟩
  case round=>
   obtain⟨gv,rfl,hge,hgl,hb,hr,ho⟩:=hrel;have HT:=ou (wL (some ⟨b1,o1,none⟩) c m (n+2) gv g j cu U N wr hr hb oq oq hu hcu hgl hA)
   by_cases ht:gv*m≤U/B64^j
   ·have e:q=gv:=by rw [HQ.out]at hge ⊢;exact Nat.le_antisymm hge ((zy hm0).2 ht)
    have HE:=ou e;have HTT:=ou ht;clear e ht hge hb hr
    go_wp2_with fail
    refine HT.out.mono ?_;rintro e w' ⟨rfl,hb1,ho1⟩;rw [decide_eq_true HTT.out];rw [og HTT.out]at hb1;have HB1:=ou hb1;clear hb1
    go_wp2_with fail
    go_ret
    exact DigitQ.mk (HQ.out.symm.trans HE.out) HB1.out (jP ho ho1)
   ·have hlt:q<gv:=by
     refine vu fun hle=>ht ?_;rw [HQ.out]at hle;exact (zy hm0).1 hle
    have HTT:=ou ht;clear ht hge hb
    go_wp2_with fail
    refine HT.out.mono ?_;rintro e w' ⟨rfl,hb1,ho1⟩;rw [decide_eq_false HTT.out];rw [oh HTT.out]at hb1;have HB1:=ou hb1;clear hb1
    go_wp2_with fail
    go_roundw
    case rel=>(repeat apply Exists.intro);exact⟨⟨gv-1,by go_num,oq,oq,HB1.out,hr.grown ho1 hA,jP ho ho1⟩,rfl⟩
    case measure=>simp [intOf];omega
