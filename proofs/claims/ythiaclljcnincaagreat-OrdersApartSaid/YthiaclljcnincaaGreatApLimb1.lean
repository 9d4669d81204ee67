/- Walks: the small functions of package exact's natural numbers. -/
import Derived.Test.YthiaclljcnincaaGreatRows
import Derived.Test.YthiaclljcnincaaGreatApMem
import Derived.WalkLawsBesides
import Derived.BigQuiet
import Derived.Shelf.Spec.BitsCarry
set_option maxHeartbeats 1000000
namespace Go.Proofs.YthiaclljcnincaaGreat
open Go.RowKit Num
theorem aZu {x:Nat}(h:(((x:Nat):Int) == 0)=true):x=0:=by simpa using h
theorem aZx {x:Nat}(h:(((x:Nat):Int) == 0)=false):x≠0:=by simpa using h
theorem fX (A:Option Addr) (n c m:Nat) (w:World) (h:RW w A n c m) (hn:n≤1152921504606846976) :
 Calls Tryz.prog 71 #[.slice A n c] w fun e w'=>e=.returned (.slice A (nw m) c)∧w=w':=by
 go_enter Tryz.func71,Tryz.ntmps71
 go_wp2
 go_loop [0] (fun s=>∃k:Nat,k≤n∧s=.slice A k c∧RW w A k c m) (fun s=>lenOf s)
 case atStart=>exact⟨n,oy _,rfl,h⟩
 case round=>
  obtain⟨k,hk,rfl,hr⟩:=hrel;rcases ju k with h0|h0
  ·subst h0
   go_wp2
   go_ret
   exact⟨by rw [hr.norm oq];rfl,rfl⟩
  ·obtain⟨b,o,rfl,hb,hc⟩:=hr.at_ h0;have hc1:=hc (k-1) oq;have hcc:=hr.cap
   go_wp2
   ·have ht:=aZu ‹(((wq m (k-1):Nat):Int) == 0)=true›
    go_round
    case rel=>exact⟨k-1,oq,rfl,hr.low ht h0⟩
    case measure=>simp [lenOf];omega
   ·have ht:=aZx ‹(((wq m (k-1):Nat):Int) == 0)=false›
    go_ret
    exact⟨by rw [hr.norm (fun _=>ht)];rfl,rfl⟩
theorem uN (x:Nat) (w:World) (hx:x<18446744073709551616) :
 Calls Tryz.prog 46 #[.int .u64 x] w fun e w'=>(∃v,e=.returned v∧LV w' v x)∧Below w.heap.size w w':=by
 have hr:RW (w.alloc (.cells #[.int .u64 x] 94)) (some ⟨w.heap.size,0,none⟩) 1 1 x:=
  ⟨by simpa [B64] using hx,oy _,fun _=>⟨_,_,rfl,by simp,fun i hi=>by
    have:i=0:=oq
    subst this
    simp [wq,oX (b:=B64) hx]⟩⟩
 go_enter Tryz.func46,Tryz.ntmps46
 go_wp2_with (go_at_call 71;refine (fX _ _ _ x _ hr oq).mono ?_;rintro e w' ⟨rfl,rfl⟩)
 go_ret
 exact⟨⟨_,rfl,hr.toLR.lv⟩,(Below.refl _ _).alloc (oy _) _⟩
theorem jB (A:Option Addr) (c m:Nat) (w:World) (h:LR w A c m) (hb:nw m≤1152921504606846976) :
 Calls Tryz.prog 78 #[.slice A (nw m) c] w fun e w'=>e=.returned (.bool (decide (m=1)))∧w=w':=by
 have hn:=mF m
 by_cases h1:nw m=1
 ·obtain⟨b,o,rfl,hb,hc⟩:=h.at_ oq;have hc1:=hc 0 oq;rw [jh]at hc1;have hL:=cJ m;rw [h1]at hL;have hv:=hL.val1;rw [show wd B64 m 0=wq m 0 from rfl]at hv;rw [hv]at hc1;rw [h1];have e:decide (m=1)=((m:Int) == 1):=by rw [vw];simp;omega
  rw [e];clear hv hL h1 e
  go_enter Tryz.func78,Tryz.ntmps78
  go_wp2
  go_ret
  exact⟨rfl,rfl⟩
 ·have h2:(((nw m:Nat):Int) == 1)=false:=by simpa using (by omega:¬ ((nw m:Int)=1))
  have e:decide (m=1)=false:=decide_eq_false fun e=>h1 (by subst e;exact kI (Len.one oz oz));rw [e];clear e h1
  go_enter Tryz.func78,Tryz.ntmps78
  go_wp2
  go_ret
  exact⟨rfl,rfl⟩
def gE (a b:Nat):Int:=if a<b then -1 else if a=b then 0 else 1
theorem aLv (A A':Option Addr) (n c c' a b:Nat) (w:World) (h:RW w A n c a) (h':RW w A' n c' b) (hn:n≤1152921504606846976) :
 Calls Tryz.prog 86 #[.slice A n c,.slice A' n c'] w fun e w'=>e=.returned (.int .i64 (gE a b))∧∃n,w'=w.drewN n:=by
 have E0:=ou ((qa h.lt).trans (qa h'.lt).symm)
 go_enter Tryz.func86,Tryz.ntmps86
 go_wp2
 go_loopw [5] (fun i wr=>∃k:Nat,k≤n∧i=.int .i64 ((k:Int)-1)∧Hid (a/B64^k=b/B64^k)∧∃d,wr=w.drewN d) (fun i _=>(intOf i+1).toNat)
 case atStart=>exact⟨n,oy _,by go_num,E0,0,rfl⟩
 case round=>
  obtain⟨k,hk,rfl,E,d,rfl⟩:=hrel;rcases ju k with h0|h0
  ·subst h0
   go_wp2
   go_ret
   exact⟨yF (by have:=E.out;simp at this;simp [gE,this]),d,rfl⟩
  ·obtain⟨k,rfl⟩:∃j,k=j+1:=⟨k-1,oq⟩;obtain⟨b1,o1,rfl,hb1,hc1⟩:=h.at_ oq;obtain⟨b2,o2,rfl,hb2,hc2⟩:=h'.at_ oq;have hc1:=hc1 k oq;have hc2:=hc2 k oq;have ek:((k+1:Nat):Int)-1=(k:Int):=oq
   rw [ek]
   go_wp2
   go_quiet (fail)
   go_wp2
   ·go_ret
    have hlt:wq a k<wq b k:=by assumption
    exact⟨yF (by rw [gE,og (wW E.out hlt)]),dn2 _ _ _⟩
   ·have hge:¬ wq a k<wq b k:=by assumption
    go_quiet (fail)
    go_wp2
    ·go_ret
     have hlt:wq b k<wq a k:=by assumption
     have:=wW (n:=b) (m:=a) E.out.symm hlt;exact⟨yF (by rw [gE,oh oq,oh oq]),dn3 _ _ _ _⟩
    ·have hge':¬ wq b k<wq a k:=by assumption
     have E':=ou (aLu E.out (show wd B64 a k=wd B64 b k from (show wq a k=wq b k by omega)))
     go_roundw
     case rel=>exact⟨k,oq,rfl,E',_,rfl⟩
     case measure=>simp [intOf]
theorem rT (A A':Option Addr) (c c' a b:Nat) (w:World) (h:LR w A c a) (h':LR w A' c' b) (_hb:nw a≤1152921504606846976) (hb':nw b≤1152921504606846976) :
 Calls Tryz.prog 86 #[.slice A (nw a) c,.slice A' (nw b) c'] w fun e w'=>e=.returned (.int .i64 (gE a b))∧∃n,w'=w.drewN n:=by
 have hn:=mF a;have hn':=mF b
 by_cases hlen:nw a=nw b
 ·unfold LR at h;rw [hlen]at h ⊢;exact aLv A A' _ c c' a b w h h' oq
 ·have h1:(((nw a:Nat):Int) != (nw b:Nat))=true:=by rw [bne_iff_ne];omega
  rcases zb (nw a) (nw b) with hl|hl
  ·have hr:gE a b=-1:=by rw [gE,og ((cJ a).lt_of aG (cJ b) hl)]
   rw [hr];clear hr
   go_enter Tryz.func86,Tryz.ntmps86
   go_wp2
   go_ret
   exact⟨rfl,0,rfl⟩
  ·have hr:gE a b=1:=by
    have:=(cJ b).lt_of aG (cJ a) oq;rw [gE,oh oq,oh oq]
   rw [hr];clear hr
   go_enter Tryz.func86,Tryz.ntmps86
   go_wp2
   go_ret
   exact⟨rfl,0,rfl⟩
theorem info64:(Tryz.prog.info? 94).map (fun i=>(i.zero,i.size,i.bytes))=some (some (.int .u64 0),1,8):=by kernel_rfl
theorem fG (n c:Nat) (hnc:n≤c) (hc:c≤1152921504606846976) (hb:c≤35184372088832) (w:World) :
 (Instr.makeSlice 31 (.int .i64 (n:Int)) (.int .i64 (c:Int))).run Tryz.prog w=.ok (.slice (some ⟨w.heap.size,0,none⟩) n c) (w.alloc (.cells (dN 0 c) 94)):=by
 obtain⟨i0,hi,hz,hs,hy⟩:=info_parts info64;have hbb:(i0.bytes:Int)*(c:Int)≤281474976710656:=by rw [hy];omega
 have hr:=run_make (P:=Tryz.prog) w 31 94 i0 _ Tryz.underlying31 hi hz .i64 .i64 n c oq oq hbb oq;simp only [oo,hs,js]at hr;rw [hr];have:madeCells (Value.int .u64 0).cells c=dN 0 c:=aKh c;rw [this]
theorem add64 (x y c:Nat) (hc:c≤1) (w:World):(callFunc 84 #[.int .u64 x,.int .u64 y,.int .u64 c]).run Tryz.prog w =
 .ok (.value (.tuple #[.int .u64 (((x+y+c) % 18446744073709551616:Nat):Int),.int .u64 (((x+y+c) / 18446744073709551616:Nat):Int)])) w:=by
 rw [run_callFunc_extern Tryz.func84 ox ox ox (e:=add64Entry) ox,run_add64 x y c oq oq oq oq];simp only [Result.andThen]
 congr 5 <;> omega
theorem sub64 (x y b:Nat) (hb:b≤1) (w:World):(callFunc 109 #[.int .u64 x,.int .u64 y,.int .u64 b]).run Tryz.prog w =
 .ok (.value (.tuple #[.int .u64 (((x+18446744073709551616-y-b) % 18446744073709551616:Nat):Int),.int .u64 ((if x<y+b then 1 else 0:Nat):Int)])) w:=by
 rw [run_callFunc_extern Tryz.func109 ox ox ox (e:=sub64Entry) ox,run_sub64 x y b hb];rfl
theorem nK (x y:Nat) (w:World):(callFunc 84 #[.int .u64 x,.int .u64 y,.int .u64 0]).run Tryz.prog w =
 .ok (.value (.tuple #[.int .u64 (((x+y) % 18446744073709551616:Nat):Int),.int .u64 (((x+y) / 18446744073709551616:Nat):Int)])) w:=add64 x y 0 oq w
def cyq (a b k:Nat):Nat:=carry B64 a b k
def boq (a b k:Nat):Nat:=borrow B64 a b k
theorem aCh (a b k:Nat):cyq a b k≤1:=zL aG a b k
theorem aXu (a b k:Nat):boq a b k≤1:=pC a b k
theorem aEt (a b k:Nat) (w:World):(callFunc 84 #[.int .u64 (wq a k),.int .u64 (wq b k),.int .u64 (cyq a b k)]).run Tryz.prog w =
 .ok (.value (.tuple #[.int .u64 (wq (a+b) k),.int .u64 (cyq a b (k+1))])) w:=by
 rw [add64 _ _ _ (aCh a b k)];have e1:wq (a+b) k=(wq a k+wq b k+cyq a b k) % 18446744073709551616:=aEp aG a b k;have e2:cyq a b (k+1)=(wq a k+wq b k+cyq a b k) / 18446744073709551616:=sM aG a b k;rw [e1,e2]
theorem yN (a b k:Nat) (h:b≤a) (w:World):(callFunc 109 #[.int .u64 (wq a k),.int .u64 (wq b k),.int .u64 (boq a b k)]).run Tryz.prog w =
 .ok (.value (.tuple #[.int .u64 (wq (a-b) k),.int .u64 (boq a b (k+1))])) w:=by
 rw [sub64 _ _ _ (aXu a b k)];have e1:wq (a-b) k=(wq a k+18446744073709551616-wq b k-boq a b k) % 18446744073709551616:=aRh aG h k;have e2:boq a b (k+1)=if wq a k<wq b k+boq a b k then 1 else 0:=pY aG a b k;rw [e1,e2]
theorem aMa (a b:Nat):cyq a b 0=0:=sO a b
theorem zJ (a b:Nat):boq a b 0=0:=pZ a b
theorem aOh {a b n:Nat}(ha:nw a=n) (hb:nw b≤n):cyq a b n=wq (a+b) n∧a+b<B64^(n+1)∧(cyq a b n=0→nw (a+b)=n)∧(cyq a b n≠0→nw (a+b)=n+1):=by
 have h1:a<B64^n:=ha▸dA a;have h2:b<B64^n:=qy (dA b) (qb aG hb);have hp:0<B64^n:=oc aG;have e:cyq a b n=(a+b) / B64^n:=aGy h1 h2;have hle:=aCh a b n;have hlt:a+b<B64^(n+1):=by
  rw [jj];have:B64^n*2≤B64^n*B64:=qn _ oz;omega
 have ew:wq (a+b) n=cyq a b n:=by
  show (a+b) / B64^n % B64=_;rw [←e];exact oi (by unfold B64;omega)
 refine⟨ew.symm,hlt,fun h0=>?_,fun h0=>?_⟩
 ·refine kI ⟨?_,fun hn=>?_⟩
  ·rw [h0]at e;exact vu fun hge=>by
    have:=(zy hp).2 (by rw [yv];exact hge);omega
  ·have:=(cJ a).le oq;rw [ha]at this;omega
 ·refine kI (Len.of_top hlt fun _=>?_);show wq (a+b) n≠0;rw [ew];exact h0
set_option maxRecDepth 100000 in
theorem aBc (A A':Option Addr) (c c' a b n n':Nat) (w:World) (h:RW w A n c a) (h':RW w A' n' c' b) (en:nw a=n) (en':nw b=n') (hle:n'≤n) (hn:n≤17179869184) (X Y:Value)
 (hXY:(X=.slice A n c∧Y=.slice A' n' c')∨(X=.slice A' n' c'∧Y=.slice A n c∧n'<n)) :
 Calls Tryz.prog 85 #[X,Y] w fun e w'=>(∃v,e=.returned v∧LV w' v (a+b))∧Below w.heap.size w w':=by
 obtain⟨he1,he2,he3,he4⟩:=aOh (b:=b) en oq;have H1:=ou he1;have H2:=ou he2;have H3:=ou he3;have H4:=ou he4;clear he1 he2 he3 he4;have E0:=ou (aMa a b);have hmk:=fG n (n+1) oq oq oq;rw [xl,Int.natCast_one]at hmk;clear en en';rcases hXY with ⟨rfl,rfl⟩|⟨rfl,rfl,hs⟩
 all_goals
  go_enter Tryz.func85,Tryz.ntmps85
  go_wp2
  go_loopw [6,25] (fun cv i wr=>∃k:Nat,k≤n∧i=.int .i64 k∧cv=.int .u64 (cyq a b k)∧Blk wr w.heap.size 94 (dN ((a+b) % B64^k) (n+1))∧Below w.heap.size w wr) (fun _ i _=>n-(intOf i).toNat)
  case atStart=>
   refine⟨0,jx _,rfl,by rw [E0.out];rfl,?_,(Below.refl _ _).alloc (oy _) _⟩;rw [ke,xn];exact Blk.new _ _ _
  case round=>
   obtain⟨k,hk,rfl,rfl,hblk,hbel⟩:=hrel
   by_cases hlt:k<n
   ·obtain⟨b1,o1,rfl,hb1,hc1⟩:=h.at_ oq;have hx:wr.cell? ⟨b1,o1+k,none⟩=some (.int .u64 (wq a k)):=(hbel.cell (p:=⟨_,_,none⟩) hb1).trans (hc1 k hlt);have hout:wr.cell? ⟨w.heap.size,k,none⟩=some (.int .u64 0):=by rw [hblk.cell,wF oq]
    have hfr:wr.frozen? ⟨w.heap.size,k,none⟩=false:=hblk.frozen k
    by_cases hlt':k<n'
    ·obtain⟨b2,o2,rfl,hb2,hc2⟩:=h'.at_ oq;have hy:wr.cell? ⟨b2,o2+k,none⟩=some (.int .u64 (wq b k)):=(hbel.cell (p:=⟨_,_,none⟩) hb2).trans (hc2 k hlt');have hadd:=aEt a b k;clear hc1 hc2 h h'
     go_wp2
     go_roundw
     case rel=>exact⟨k+1,oq,by go_num,rfl,by have:=hblk.set_ k (.int .u64 (wq (a+b) k));rwa [lS]at this,hbel.setCell (oy _) _⟩
     case measure=>simp [intOf];omega
    ·have hz:wq b k=0:=rH aG h'.lt oq;have hadd:∀W,(callFunc 84 #[.int .u64 (wq a k),.int .u64 0,.int .u64 (cyq a b k)]).run Tryz.prog W =
      .ok (.value (.tuple #[.int .u64 (wq (a+b) k),.int .u64 (cyq a b (k+1))])) W:=fun W=>by
      have:=aEt a b k W;rw [hz]at this;exact this
     clear hc1 h h' hz
     go_wp2
     go_roundw
     case rel=>exact⟨k+1,oq,by go_num,rfl,by have:=hblk.set_ k (.int .u64 (wq (a+b) k));rwa [lS]at this,hbel.setCell (oy _) _⟩
     case measure=>simp [intOf];omega
   ·obtain rfl:k=n:=oq
    obtain⟨i0,hi,hz0,hz1,hz2⟩:=info_parts info64;have hcl:=aCh a b k;have hBlk:=ou hblk;have hmod:∀i,i<k→wq ((a+b) % B64^k) i=wq (a+b) i:=fun i hi=>aZi _ hi;have HM:=ou hmod;have hI:=ou hi;have hZ0:=ou hz0;have hZ1:=ou hz1;have hZ2:=ou hz2;clear hmod hi hz0 hz1 hz2 hblk
    by_cases hc0:0<cyq a b k
    ·have hown:=hBlk.out.owns (base:=w.heap.size) (n:=k) (oy _) oq (by unfold maxLen;omega);have hbs:=hbel.size;have hlb:=hBlk.out.lt;have HO:=ou hown;clear hown
     go_wp2_with (at_builtin;refine wpList_append_fits _ rfl (.tmp 51) (.tmp 53) 31 rfl w.heap.size 94 i0 1 Tryz.underlying31 hI.out hZ1.out w.heap.size k (k+1) _ rfl (HO.out.alloc _) ⟨wr.heap.size,0,none⟩ 1 1 [.int .u64 (cyq a b k)] rfl rfl (cell_one_new _ _ _) (by intro u hu;simp at hu;subst hu;rfl) oq ?_;intro w1 hown1 hgrow1)
     go_ret
     have hg:=(hbel.alloc hbs _).grown hgrow1 (by simp;omega) (fun j hj=>by cases hj;exact oy _);have hs1:=hgrow1.size;simp at hs1;refine jA (H4.out oq) (RW.ofOwn hown1 oq (oy _) H2.out fun i hi=>?_).toLR hg
     by_cases hik:i<k
     ·rw [vf (by rw [iX _ oq];exact hik),aKg _ hik oq,HM.out i hik]
     ·have:i=k:=oq
      subst this;rw [vk (by rw [iX _ oq];omega),iX _ oq,Nat.sub_self,←H1.out];rfl
    ·have e:=H3.out oq;have hmk2:a+b<B64^k:=by have:=dA (a+b);rwa [e]at this
     have hb':=hBlk.out;rw [aNe _ hmk2]at hb';have HL:=ou (RW.ofBlk hb' oq hmk2).toLR;have HE:=ou e;clear e hmk2 hb'
     go_wp2
     go_ret
     exact jA HE.out HL.out hbel
theorem aOg (A A':Option Addr) (c c' a b:Nat) (w:World) (h:LR w A c a) (h':LR w A' c' b) (hb:nw a≤17179869184) (hb':nw b≤17179869184) :
 Calls Tryz.prog 85 #[.slice A (nw a) c,.slice A' (nw b) c'] w fun e w'=>(∃v,e=.returned v∧LV w' v (a+b))∧Below w.heap.size w w':=by
 have hn:=mF a;have hn':=mF b
 by_cases hle:nw b≤nw a
 ·exact aBc A A' c c' a b _ _ w h h' rfl rfl hle oq _ _ (.inl ⟨rfl,rfl⟩)
 ·rw [vg a b];exact aBc A' A c' c b a _ _ w h' h rfl rfl oq oq _ _ (.inr ⟨rfl,rfl,oq⟩)
