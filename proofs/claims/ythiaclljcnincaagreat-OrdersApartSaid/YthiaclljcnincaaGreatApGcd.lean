/- Walks: the greatest common divisor of package exact's natural numbers. -/
import Derived.Test.YthiaclljcnincaaGreatApDivide2
import Derived.Deep.LoopGhost
set_option maxHeartbeats 2000000
namespace Go.Proofs.YthiaclljcnincaaGreat
open Go.RowKit Num
theorem aKs (A A':Option Addr) (c c' a b:Nat) (w:World) (h:LR w A c a) (h':LR w A' c' b) (ha:nw a≤1) (hb:nw b=1) :
 Calls Tryz.prog 104 #[.slice A (nw a) c,.slice A' 1 c'] w fun e w'=>e=.returned (.int .u64 ((Nat.gcd a b:Nat):Int))∧∃n,w'=w.drewN n:=by
 have hlb:=cJ b;rw [hb]at hlb;have hvb:=hlb.val1;obtain⟨b2,o2,rfl,hb2,hc2⟩:=h'.at_ oq;have hy:w.cell? ⟨b2,o2,none⟩=some (.int .u64 (b:Nat)):=by
  have:=hc2 0 oq
  rwa [jh,show wq b 0=b from hvb]at this
 have hbl:b<18446744073709551616:=by have:=hlb.lt;rwa [yx]at this
 have hal:a<18446744073709551616:=by
  have h1:=dA a;have h2:=qb aG ha;rw [yx]at h2;exact qy h1 h2
 rcases ju (nw a) with h0|h0
 ·have e:=bS.1 h0;subst e;rw [nw_zero];clear h h' hc2 hlb hvb hb ha h0
  go_enter Tryz.func104,Tryz.ntmps104
  go_wp2_with fail
  go_loopw [5,6] (fun xs ys wr=>∃x y:Nat,xs=.int .u64 x∧ys=.int .u64 y∧x<18446744073709551616∧y<18446744073709551616∧Hid (Nat.gcd x y=Nat.gcd 0 b)∧∃d,wr=w.drewN d) (fun _ ys _=>(intOf ys).toNat)
  case atStart=>exact⟨0,b,rfl,rfl,hal,hbl,rfl,0,rfl⟩
  case round=>
   obtain⟨x,y,rfl,rfl,hx,hyl,hg,d,rfl⟩:=hrel;rcases ju y with h1|h1
   ·subst h1;have hg':=hg.out;rw [wg]at hg';have HG:=ou hg';clear hg'
    go_wp2_with fail
    go_ret
    exact⟨by rw [←HG.out];rfl,_,rfl⟩
   ·have hml:=qg x h1
    go_wp2_with fail
    go_quiet (fail)
    go_wp2_with fail
    go_roundw
    case rel=>exact⟨y,x % y,rfl,by go_num,hyl,oq,by unfold Hid;rw [←hg.out,xp y,←Nat.gcd_rec,xp],dn2 _ _ _⟩
    case measure=>simp [intOf];omega
 ·have h1:nw a=1:=oq
  have hla:=cJ a;rw [h1]at hla;have hva:=hla.val1;obtain⟨b1,o1,rfl,hb1,hc1⟩:=h.at_ oq;have hx:w.cell? ⟨b1,o1,none⟩=some (.int .u64 (a:Nat)):=by
   have:=hc1 0 oq
   rwa [jh,show wq a 0=a from hva]at this
  rw [h1];clear h h' hc2 hlb hvb hb ha h0 h1 hla hva hc1
  go_enter Tryz.func104,Tryz.ntmps104
  go_wp2_with fail
  go_loopw [5,6] (fun xs ys wr=>∃x y:Nat,xs=.int .u64 x∧ys=.int .u64 y∧x<18446744073709551616∧y<18446744073709551616∧Hid (Nat.gcd x y=Nat.gcd a b)∧∃d,wr=w.drewN d) (fun _ ys _=>(intOf ys).toNat)
  case atStart=>exact⟨a,b,rfl,rfl,hal,hbl,rfl,0,rfl⟩
  case round=>
   obtain⟨x,y,rfl,rfl,hx,hyl,hg,d,rfl⟩:=hrel;rcases ju y with h1|h1
   ·subst h1;have hg':=hg.out;rw [wg]at hg';have HG:=ou hg';clear hg'
    go_wp2_with fail
    go_ret
    exact⟨by rw [←HG.out];rfl,_,rfl⟩
   ·have hml:=qg x h1
    go_wp2_with fail
    go_quiet (fail)
    go_wp2_with fail
    go_roundw
    case rel=>exact⟨y,x % y,rfl,by go_num,hyl,oq,by unfold Hid;rw [←hg.out,xp y,←Nat.gcd_rec,xp],dn2 _ _ _⟩
    case measure=>simp [intOf];omega
set_option maxRecDepth 100000 in
theorem aTl (A A':Option Addr) (c c' a b:Nat) (w:World) (h:LR w A c a) (h':LR w A' c' b) (hb:nw a≤8589934592) (hb':nw b≤8589934592) :
 Calls Tryz.prog 77 #[.slice A (nw a) c,.slice A' (nw b) c'] w fun e w'=>(∃v,e=.returned v∧LV w' v (Nat.gcd a b))∧Below w.heap.size w w':=by
 go_enter Tryz.func77,Tryz.ntmps77
 go_wp2_with fail
 go_loopg [0,1] b (fun g X Y wr=>∃x,∃(Ax Ay:Option Addr) (cx cy:Nat),X=.slice Ax (nw x) cx∧Y=.slice Ay (nw g) cy∧LR wr Ax cx x∧LR wr Ay cy g∧nw x≤8589934592∧nw g≤8589934592∧Hid (Nat.gcd x g=Nat.gcd a b)∧Below w.heap.size w wr)
 case atStart=>exact⟨a,A,A',c,c',rfl,rfl,h,h',hb,hb',rfl,Below.refl _ _⟩
 case round=>
  obtain⟨x,Ax,Ay,cx,cy,rfl,rfl,hx,hy,nx,ny,hg,hbel⟩:=hrel;rcases ju gk with h0|h0
  ·subst h0;have e:=hg.out;rw [wg]at e;have hv:LV wr (.slice Ax (nw x) cx) (Nat.gcd a b):=by rw [←e];exact hx.lv
   have HV:=ou hv;rw [nw_zero];clear hv e hg hx hy nx ny;generalize nw x=nx' at *
   go_wp2_with fail
   go_ret
   exact⟨⟨_,rfl,HV.out⟩,hbel⟩
  ·have hgn:0<nw gk:=zx fun e=>by have:=bS.1 e;omega
   by_cases hs:nw x≤1∧nw gk≤1
   ·obtain⟨s1,s2⟩:=hs;have HS:=ou (aKs Ax Ay cx cy x gk wr hx hy s1 oq);rw [show nw gk=1 by omega];have hgl:Nat.gcd x gk<18446744073709551616:=by
     have h1:=dA gk;have h2:=qb aG s2;rw [yx]at h2;exact jm (Nat.gcd_le_right x h0) (qy h1 h2)
    have HG:=ou hgl;clear hgl hx hy h h' s2 hgn;generalize nw x=nx' at *
    go_wp2_with fail
    refine HS.out.mono ?_;rintro e w' ⟨rfl,d,rfl⟩;rw [hg.out];have HG2:=HG.out;rw [hg.out]at HG2;have HG3:=ou HG2;clear HG2
    go_wp2_with fail
    refine (uN _ _ HG3.out).mono ?_;rintro e w2 ⟨⟨v,rfl,hv⟩,hb2⟩;have HV:=ou hv;clear hv
    go_wp2_with fail
    go_ret
    exact⟨⟨_,rfl,HV.out⟩,(cX hbel d).trans (hb2.mono hbel.size)⟩
   ·have HD:=ou (sV Ax Ay cx cy x gk wr hx hy h0 nx ny);have hml:=qg x h0;have hg2:Hid (Nat.gcd gk (x % gk)=Nat.gcd a b):=by unfold Hid;rw [←hg.out,xp gk,←Nat.gcd_rec,xp]
    have hnm:nw (x % gk)≤nw gk:=aY (yh hml (dA gk));have HY:=ou hy;clear hy hx hg h h'
    by_cases s1:nw x≤1
    ·have s2:¬ nw gk≤1:=fun e=>hs ⟨s1,e⟩;clear hs
     go_wp2_with fail
     refine HD.out.mono ?_;rintro e w2 ⟨⟨v1,v2,rfl,hv1,A2,c2,rfl,hv2⟩,hb2⟩;have HV2:=ou hv2;clear hv1 hv2
     go_wp2_with fail
     go_roundg (x % gk)
     case measure=>exact hml
     case rel=>exact⟨gk,Ay,A2,cy,c2,rfl,rfl,HY.out.below hb2,HV2.out,ny,oq,hg2,hbel.trans (hb2.mono hbel.size)⟩
    ·clear hs
     go_wp2_with fail
     refine HD.out.mono ?_;rintro e w2 ⟨⟨v1,v2,rfl,hv1,A2,c2,rfl,hv2⟩,hb2⟩;have HV2:=ou hv2;clear hv1 hv2
     go_wp2_with fail
     go_roundg (x % gk)
     case measure=>exact hml
     case rel=>exact⟨gk,Ay,A2,cy,c2,rfl,rfl,HY.out.below hb2,HV2.out,ny,oq,hg2,hbel.trans (hb2.mono hbel.size)⟩
