/- Walks: products of package exact's natural numbers. -/
import Derived.Test.YthiaclljcnincaaGreatApLimb1
import Derived.Test.YthiaclljcnincaaGreatApShelf
set_option maxHeartbeats 2000000
namespace Go.Proofs.YthiaclljcnincaaGreat
open Go.RowKit Num
def mrq (a b i:Nat):Nat:=mrow B64 a b i
def mcq (a b i k:Nat):Nat:=mcar B64 a b i k
theorem aMz (a b i:Nat):mcq a b i 0=0:=vR a b i
theorem aYh (a b i k:Nat):mcq a b i k<18446744073709551616:=xK aG a b i k
theorem aNf (a b:Nat):mrq a b 0=0:=by simp [mrq,mrow,Nat.mod_one]
theorem aUa (a b:Nat) {k j:Nat}(h:j<k):wq (mrq a b (k+1)) j=wq (mrq a b k) j:=aAo aG a b h
theorem aIj (a b k N:Nat):dX (mrq a b (k+1)) (mrq a b k) k N=dN (mrq a b k) N:=jR _ _ _ _ fun _ h=>aUa a b h
theorem aIk (a b k n' N:Nat) (hb:b<B64^n'):dX (mrq a b (k+1)) (mrq a b k) (k+n'+1) N=dN (mrq a b (k+1)) N:=
 tZ _ _ _ _ fun j h=>qJ aG hb oq
theorem aTt (a b k n':Nat) (hb:b<B64^n'):mcq a b k n'=wq (mrq a b (k+1)) (k+n'):=aAn aG hb
theorem aTz (a b n:Nat) (ha:a<B64^n):mrq a b n=a*b:=by unfold mrq mrow;rw [oi ha]
theorem aNg (a b i k:Nat):∃hi lo lo1 c1 c2:Nat,
 wq a i*wq b k=hi*18446744073709551616+lo∧lo<18446744073709551616∧hi+c1<18446744073709551616∧hi+c1+c2<18446744073709551616∧
 (∀w,(callFunc 84 #[.int .u64 lo,.int .u64 (wq (mrq a b i) (i+k)),.int .u64 0]).run Tryz.prog w=.ok (.value (.tuple #[.int .u64 lo1,.int .u64 c1])) w)∧
 (∀w,(callFunc 84 #[.int .u64 lo1,.int .u64 (mcq a b i k),.int .u64 0]).run Tryz.prog w=.ok (.value (.tuple #[.int .u64 (wq (mrq a b (i+1)) (i+k)),.int .u64 c2])) w)∧
 hi+c1+c2=mcq a b i (k+1):=by
 have hs:=vQ aG a b i k;have hc:=aYh a b i k;have hu:=bN (mrq a b i) (i+k);have hx:=bN a i;have hy:=bN b k;have e1:wq (mrq a b (i+1)) (i+k)=(wq (mrq a b i) (i+k)+wq a i*wq b k+mcq a b i k) % 18446744073709551616:=hs.1;have e2:mcq a b i (k+1)=(wq (mrq a b i) (i+k)+wq a i*wq b k+mcq a b i k) / 18446744073709551616:=hs.2;have hp:wq a i*wq b k≤18446744073709551615*18446744073709551615:=ky oq oq;have h0:∀x y:Nat,∀w,(callFunc 84 #[.int .u64 x,.int .u64 y,.int .u64 0]).run Tryz.prog w=.ok (.value (.tuple #[.int .u64 (((x+y) % 18446744073709551616:Nat):Int),.int .u64 (((x+y) / 18446744073709551616:Nat):Int)])) w:=fun x y w=>add64 x y 0 oq w;rw [e1,e2];generalize wq a i*wq b k=p at *
 generalize wq (mrq a b i) (i+k)=u at *
 generalize mcq a b i k=c at *
 clear hs e1 e2 hx hy
 refine⟨p/18446744073709551616,p % 18446744073709551616,(p % 18446744073709551616+u) % 18446744073709551616,(p % 18446744073709551616+u) / 18446744073709551616,
  ((p % 18446744073709551616+u) % 18446744073709551616+c) / 18446744073709551616,oq,oq,oq,oq,h0 _ _,fun w=>?_,oq⟩
 rw [h0]
 congr 6
 omega
theorem fF (x y hi lo:Nat) (hx:x<18446744073709551616) (hy:y<18446744073709551616) (h:x*y=hi*18446744073709551616+lo) (hlo:lo<18446744073709551616) (w:World) :
 Calls Tryz.prog 83 #[.int .u64 x,.int .u64 y] w fun e w'=>e=.returned (.tuple #[.int .u64 hi,.int .u64 lo])∧w=w':=
 (Tryz.bits_Mul64 x y hx hy w).mono fun e w' ⟨he,hw⟩=>⟨by
   rw [he,h,show (hi*18446744073709551616+lo) / 18446744073709551616=hi by omega,show (hi*18446744073709551616+lo) % 18446744073709551616=lo by omega],hw.symm⟩
set_option maxRecDepth 100000 in
theorem aEm (A A':Option Addr) (c c' a b n n':Nat) (w:World) (h:RW w A n c a) (h':RW w A' n' c' b) (h1:a≠1) (h2:b≠1) (en:nw a=n) (en':nw b=n') (hn:n≤17179869184) (hn':n'≤17179869184)
 (hL:LR w A c a) (hL':LR w A' c' b) (_hb:nw a≤17179869184) (_hb':nw b≤17179869184) :
 Calls Tryz.prog 54 #[.slice A n c,.slice A' n' c'] w fun e w'=>(∃v,e=.returned v∧LV w' v (a*b))∧Below w.heap.size w w':=by
 have i1:=jB A c a w hL oq;have i2:=jB A' c' b w hL' oq;rw [en,decide_eq_false h1]at i1;rw [en',decide_eq_false h2]at i2;have I1:=ou i1;have I2:=ou i2;clear i1 i2 hL hL' en en' h1 h2 _hb _hb';have hmk:=fG (n+n') (n+n') (oy _) oq oq;rw [xl]at hmk
 go_enter Tryz.func54,Tryz.ntmps54
 go_wp2_with fail
 refine I1.out.mono ?_;rintro e w' ⟨rfl,rfl⟩
 go_wp2_with fail
 refine I2.out.mono ?_;rintro e w' ⟨rfl,rfl⟩
 go_wp2_with fail
 go_loopw [28] (fun i wr=>∃k:Nat,k≤n∧i=.int .i64 k∧Blk wr w.heap.size 94 (dN (mrq a b k) (n+n'))∧Below w.heap.size w wr) (fun i _=>n-(intOf i).toNat)
 case atStart=>
  refine⟨0,jx _,rfl,?_,(Below.refl _ _).alloc (oy _) _⟩;rw [aNf];exact Blk.new _ _ _
 case round=>
  obtain⟨k,hk,rfl,hblk,hbel⟩:=hrel;obtain⟨wo,rfl⟩:∃wo:World,wo=wr:=⟨_,rfl⟩;clear hmk I1 I2
  by_cases hlt:k<n
  ·obtain⟨b1,o1,rfl,hb1,hc1⟩:=h.at_ oq;have hx:wo.cell? ⟨b1,o1+k,none⟩=some (.int .u64 (wq a k)):=(hbel.cell (p:=⟨_,_,none⟩) hb1).trans (hc1 k hlt);have Z0:=ou (aMz a b k);have HB0:=ou hblk;clear hblk hc1 h
   go_wp2_with fail
   go_loopw [8,35] (fun cv i wi=>∃j:Nat,j≤n'∧i=.int .i64 j∧cv=.int .u64 (mcq a b k j)∧Blk wi w.heap.size 94 (dX (mrq a b (k+1)) (mrq a b k) (k+j) (n+n'))∧Below w.heap.size w wi) (fun _ i _=>n'-(intOf i).toNat)
   case atStart=>
    refine⟨0,jx _,rfl,by rw [Z0.out];rfl,?_,hbel⟩;have hz:=HB0.out;rw [←aIj a b k]at hz;exact hz
   case round=>
    obtain⟨j,hj,rfl,rfl,hblk,hbel'⟩:=hrel
    by_cases hltj:j<n'
    ·obtain⟨b2,o2,rfl,hb2,hc2⟩:=h'.at_ oq;have hy:wr.cell? ⟨b2,o2+j,none⟩=some (.int .u64 (wq b j)):=(hbel'.cell (p:=⟨_,_,none⟩) hb2).trans (hc2 j hltj);have hout:wr.cell? ⟨w.heap.size,k+j,none⟩=some (.int .u64 (wq (mrq a b k) (k+j))):=by rw [hblk.cell,jQ _ _ (oy _) oq]
     have hfr:wr.frozen? ⟨w.heap.size,k+j,none⟩=false:=hblk.frozen _;obtain⟨hi,lo,lo1,c1,c2,q1,q2,q3,q4,q5,q6,q7⟩:=aNg a b k j;have Q1:=ou q1;have Q7:=ou q7;have HB:=ou hblk;have bx:=bN a k;have bw:=bN b j;clear q1 q7 hc2 h' hblk HB0 Z0
     go_wp2_with (go_at_call 83;refine (fF _ _ hi lo bx bw Q1.out q2 _).mono ?_;rintro e w' ⟨rfl,rfl⟩)
     go_roundw
     case rel=>exact⟨j+1,oq,by go_num,by rw [←Q7.out];go_num,by have:=HB.out.set_ (k+j) (.int .u64 (wq (mrq a b (k+1)) (k+j)));rwa [fV]at this,hbel'.setCell (oy _) _⟩
     case measure=>simp [intOf];omega
    ·obtain rfl:j=n':=oq
     have hout:wr.cell? ⟨w.heap.size,k+j,none⟩=some (.int .u64 (wq (mrq a b k) (k+j))):=by rw [hblk.cell,jQ _ _ (oy _) oq]
     have hfr:wr.frozen? ⟨w.heap.size,k+j,none⟩=false:=hblk.frozen _;have HB:=ou hblk;have HE:=ou (aTt a b k j h'.lt);have HO:=ou (aIk a b k j (n+j) h'.lt);clear hblk HB0 Z0 h'
     go_wp2
     go_roundw
     case rel=>exact⟨k+1,oq,by go_num,by rw [HE.out,←HO.out];have:=HB.out.set_ (k+j) (.int .u64 (wq (mrq a b (k+1)) (k+j)));rwa [fV]at this,hbel'.setCell (oy _) _⟩
     case measure=>simp [intOf];omega
  ·obtain rfl:k=n:=oq
   have hlt2:a*b<B64^(k+n'):=by rw [jt];exact xa h.lt h'.lt
   rw [aTz a b k h.lt]at hblk;have hr:=RW.ofBlk hblk (oy _) hlt2;clear hblk h h' hlt2
   go_wp2_with (go_at_call 71;refine (fX _ _ _ _ _ hr oq).mono ?_;rintro e w' ⟨rfl,rfl⟩)
   go_ret
   exact jA rfl hr.toLR hbel
theorem aKv (A A':Option Addr) (c c' a b:Nat) (w:World) (h:LR w A c a) (h':LR w A' c' b) (hb:nw a≤17179869184) (hb':nw b≤17179869184) :
 Calls Tryz.prog 54 #[.slice A (nw a) c,.slice A' (nw b) c'] w fun e w'=>(∃v,e=.returned v∧LV w' v (a*b))∧Below w.heap.size w w':=by
 have hn:=mF a;have hn':=mF b;have i1:=jB A c a w h oq;have i2:=jB A' c' b w h' oq
 by_cases h1:a=1
 ·have hv:LV w (.slice A' (nw b) c') (a*b):=by rw [h1,yv];exact h'.lv
  rw [decide_eq_true h1]at i1;have I1:=ou i1;have HV:=ou hv;clear i1 i2 h1 h h' hv;generalize nw a=n at *
  generalize nw b=n' at *
  go_enter Tryz.func54,Tryz.ntmps54
  go_wp2_with fail
  refine I1.out.mono ?_;rintro e w' ⟨rfl,rfl⟩
  go_wp2_with fail
  go_ret
  exact⟨⟨_,rfl,HV.out⟩,Below.refl _ _⟩
 ·by_cases h2:b=1
  ·have hv:LV w (.slice A (nw a) c) (a*b):=by rw [h2,js];exact h.lv
   rw [decide_eq_false h1]at i1;rw [decide_eq_true h2]at i2;have I1:=ou i1;have I2:=ou i2;have HV:=ou hv;clear i1 i2 h1 h2 h h' hv;generalize nw a=n at *
   generalize nw b=n' at *
   go_enter Tryz.func54,Tryz.ntmps54
   go_wp2_with fail
   refine I1.out.mono ?_;rintro e w' ⟨rfl,rfl⟩
   go_wp2_with fail
   refine I2.out.mono ?_;rintro e w' ⟨rfl,rfl⟩
   go_wp2_with fail
   go_ret
   exact⟨⟨_,rfl,HV.out⟩,Below.refl _ _⟩
  ·exact aEm A A' c c' a b _ _ w h h' h1 h2 rfl rfl oq oq h h' hb hb'
