/- Walks: the small functions of package exact's natural numbers. -/
import Derived.Test.YtmifbgccpdmjpaaGreatRows
import Derived.Test.YtmifbgccpdmjpaaGreatTbMem
import Derived.WalkLawsBesides
import Derived.BigQuiet
import Derived.Shelf.Spec.BitsCarry
set_option maxHeartbeats 1000000
namespace Go.Proofs.YtmifbgccpdmjpaaGreat
open Go.RowKit Num
theorem bAy {x:Nat}(h:(((x:Nat):Int) == 0)=true):x=0:=by simpa using h
theorem bBa {x:Nat}(h:(((x:Nat):Int) == 0)=false):x≠0:=by simpa using h
theorem fV (A:Option Addr) (n c m:Nat) (w:World) (h:RW w A n c m) (hn:n≤1152921504606846976) :
 Calls Tryz.prog 282 #[.slice A n c] w fun e w'=>e=.returned (.slice A (nw m) c)∧w=w':=by
 go_enter Tryz.func282,Tryz.ntmps282
 go_wp2
 go_loop [0] (fun s=>∃k:Nat,k≤n∧s=.slice A k c∧RW w A k c m) (fun s=>lenOf s)
 case atStart=>exact⟨n,oy _,rfl,h⟩
 case round=>
  obtain⟨k,hk,rfl,hr⟩:=hrel;rcases jt k with h0|h0
  ·subst h0
   go_wp2
   go_ret
   exact⟨by rw [hr.norm oq];rfl,rfl⟩
  ·obtain⟨b,o,rfl,hb,hc⟩:=hr.at_ h0;have hc1:=hc (k-1) oq;have hcc:=hr.cap
   go_wp2
   ·have ht:=bAy ‹(((wq m (k-1):Nat):Int) == 0)=true›
    go_round
    case rel=>exact⟨k-1,oq,rfl,hr.low ht h0⟩
    case measure=>simp [lenOf];omega
   ·have ht:=bBa ‹(((wq m (k-1):Nat):Int) == 0)=false›
    go_ret
    exact⟨by rw [hr.norm (fun _=>ht)];rfl,rfl⟩
theorem uF (x:Nat) (w:World) (hx:x<18446744073709551616) :
 Calls Tryz.prog 195 #[.int .u64 x] w fun e w'=>(∃v,e=.returned v∧LV w' v x)∧Below w.heap.size w w':=by
 have hr:RW (w.alloc (.cells #[.int .u64 x] 355)) (some ⟨w.heap.size,0,none⟩) 1 1 x:=
  ⟨by simpa [B64] using hx,oy _,fun _=>⟨_,_,rfl,by simp,fun i hi=>by
    have:i=0:=oq
    subst this
    simp [wq,oO (b:=B64) hx]⟩⟩
 go_enter Tryz.func195,Tryz.ntmps195
 go_wp2_with (go_at_call 282;refine (fV _ _ _ x _ hr oq).mono ?_;rintro e w' ⟨rfl,rfl⟩)
 go_ret
 exact⟨⟨_,rfl,hr.toLR.lv⟩,(Below.refl _ _).alloc (oy _) _⟩
theorem iR (A:Option Addr) (c m:Nat) (w:World) (h:LR w A c m) (hb:nw m≤1152921504606846976) :
 Calls Tryz.prog 277 #[.slice A (nw m) c] w fun e w'=>e=.returned (.bool (decide (m=1)))∧w=w':=by
 have hn:=mG m
 by_cases h1:nw m=1
 ·obtain⟨b,o,rfl,hb,hc⟩:=h.at_ oq;have hc1:=hc 0 oq;rw [jv]at hc1;have hL:=cL m;rw [h1]at hL;have hv:=hL.val1;rw [show wd B64 m 0=wq m 0 from rfl]at hv;rw [hv]at hc1;rw [h1];have e:decide (m=1)=((m:Int) == 1):=by rw [xq];simp;omega
  rw [e];clear hv hL h1 e
  go_enter Tryz.func277,Tryz.ntmps277
  go_wp2
  go_ret
  exact⟨rfl,rfl⟩
 ·have h2:(((nw m:Nat):Int) == 1)=false:=by simpa using (by omega:¬ ((nw m:Int)=1))
  have e:decide (m=1)=false:=decide_eq_false fun e=>h1 (by subst e;exact jZ (Len.one oz oz));rw [e];clear e h1
  go_enter Tryz.func277,Tryz.ntmps277
  go_wp2
  go_ret
  exact⟨rfl,rfl⟩
def gB (a b:Nat):Int:=if a<b then -1 else if a=b then 0 else 1
theorem aLp (A A':Option Addr) (n c c' a b:Nat) (w:World) (h:RW w A n c a) (h':RW w A' n c' b) (hn:n≤1152921504606846976) :
 Calls Tryz.prog 140 #[.slice A n c,.slice A' n c'] w fun e w'=>e=.returned (.int .i64 (gB a b))∧∃n,w'=w.drewN n:=by
 have E0:=ou ((jx h.lt).trans (jx h'.lt).symm)
 go_enter Tryz.func140,Tryz.ntmps140
 go_wp2
 go_loopw [5] (fun i wr=>∃k:Nat,k≤n∧i=.int .i64 ((k:Int)-1)∧Hid (a/B64^k=b/B64^k)∧∃d,wr=w.drewN d) (fun i _=>(intOf i+1).toNat)
 case atStart=>exact⟨n,oy _,by go_num,E0,0,rfl⟩
 case round=>
  obtain⟨k,hk,rfl,E,d,rfl⟩:=hrel;rcases jt k with h0|h0
  ·subst h0
   go_wp2
   go_ret
   exact⟨xS (by have:=E.out;simp at this;simp [gB,this]),d,rfl⟩
  ·obtain⟨k,rfl⟩:∃j,k=j+1:=⟨k-1,oq⟩;obtain⟨b1,o1,rfl,hb1,hc1⟩:=h.at_ oq;obtain⟨b2,o2,rfl,hb2,hc2⟩:=h'.at_ oq;have hc1:=hc1 k oq;have hc2:=hc2 k oq;have ek:((k+1:Nat):Int)-1=(k:Int):=oq
   rw [ek]
   go_wp2
   go_quiet (fail)
   go_wp2
   ·go_ret
    have hlt:wq a k<wq b k:=by assumption
    exact⟨xS (by rw [gB,od (wQ E.out hlt)]),dn2 _ _ _⟩
   ·have hge:¬ wq a k<wq b k:=by assumption
    go_quiet (fail)
    go_wp2
    ·go_ret
     have hlt:wq b k<wq a k:=by assumption
     have:=wQ (n:=b) (m:=a) E.out.symm hlt;exact⟨xS (by rw [gB,oh oq,oh oq]),dn3 _ _ _ _⟩
    ·have hge':¬ wq b k<wq a k:=by assumption
     have E':=ou (aLo E.out (show wd B64 a k=wd B64 b k from (show wq a k=wq b k by omega)))
     go_roundw
     case rel=>exact⟨k,oq,rfl,E',_,rfl⟩
     case measure=>simp [intOf]
theorem rL (A A':Option Addr) (c c' a b:Nat) (w:World) (h:LR w A c a) (h':LR w A' c' b) (_hb:nw a≤1152921504606846976) (hb':nw b≤1152921504606846976) :
 Calls Tryz.prog 140 #[.slice A (nw a) c,.slice A' (nw b) c'] w fun e w'=>e=.returned (.int .i64 (gB a b))∧∃n,w'=w.drewN n:=by
 have hn:=mG a;have hn':=mG b
 by_cases hlen:nw a=nw b
 ·unfold LR at h;rw [hlen]at h ⊢;exact aLp A A' _ c c' a b w h h' oq
 ·have h1:(((nw a:Nat):Int) != (nw b:Nat))=true:=by rw [bne_iff_ne];omega
  rcases zr (nw a) (nw b) with hl|hl
  ·have hr:gB a b=-1:=by rw [gB,od ((cL a).lt_of aI (cL b) hl)]
   rw [hr];clear hr
   go_enter Tryz.func140,Tryz.ntmps140
   go_wp2
   go_ret
   exact⟨rfl,0,rfl⟩
  ·have hr:gB a b=1:=by
    have:=(cL b).lt_of aI (cL a) oq;rw [gB,oh oq,oh oq]
   rw [hr];clear hr
   go_enter Tryz.func140,Tryz.ntmps140
   go_wp2
   go_ret
   exact⟨rfl,0,rfl⟩
theorem info64:(Tryz.prog.info? 355).map (fun i=>(i.zero,i.size,i.bytes))=some (some (.int .u64 0),1,8):=by kernel_rfl
theorem eZ (n c:Nat) (hnc:n≤c) (hc:c≤1152921504606846976) (hb:c≤35184372088832) (w:World) :
 (Instr.makeSlice 31 (.int .i64 (n:Int)) (.int .i64 (c:Int))).run Tryz.prog w=.ok (.slice (some ⟨w.heap.size,0,none⟩) n c) (w.alloc (.cells (dQ 0 c) 355)):=by
 obtain⟨i0,hi,hz,hs,hy⟩:=info_parts info64;have hbb:(i0.bytes:Int)*(c:Int)≤281474976710656:=by rw [hy];omega
 have hr:=run_make (P:=Tryz.prog) w 31 355 i0 _ Tryz.underlying31 hi hz .i64 .i64 n c oq oq hbb oq;simp only [ol,hs,zq]at hr;rw [hr];have:madeCells (Value.int .u64 0).cells c=dQ 0 c:=aJz c;rw [this]
theorem add64 (x y c:Nat) (hc:c≤1) (w:World):(callFunc 281 #[.int .u64 x,.int .u64 y,.int .u64 c]).run Tryz.prog w =
 .ok (.value (.tuple #[.int .u64 (((x+y+c) % 18446744073709551616:Nat):Int),.int .u64 (((x+y+c) / 18446744073709551616:Nat):Int)])) w:=by
 rw [run_callFunc_extern Tryz.func281 ox ox ox (e:=add64Entry) ox,run_add64 x y c oq oq oq oq];simp only [Result.andThen]
 congr 5 <;> omega
theorem sub64 (x y b:Nat) (hb:b≤1) (w:World):(callFunc 360 #[.int .u64 x,.int .u64 y,.int .u64 b]).run Tryz.prog w =
 .ok (.value (.tuple #[.int .u64 (((x+18446744073709551616-y-b) % 18446744073709551616:Nat):Int),.int .u64 ((if x<y+b then 1 else 0:Nat):Int)])) w:=by
 rw [run_callFunc_extern Tryz.func360 ox ox ox (e:=sub64Entry) ox,run_sub64 x y b hb];rfl
theorem nE (x y:Nat) (w:World):(callFunc 281 #[.int .u64 x,.int .u64 y,.int .u64 0]).run Tryz.prog w =
 .ok (.value (.tuple #[.int .u64 (((x+y) % 18446744073709551616:Nat):Int),.int .u64 (((x+y) / 18446744073709551616:Nat):Int)])) w:=add64 x y 0 oq w
def cyq (a b k:Nat):Nat:=carry B64 a b k
def boq (a b k:Nat):Nat:=borrow B64 a b k
theorem aCh (a b k:Nat):cyq a b k≤1:=zD aI a b k
theorem aYm (a b k:Nat):boq a b k≤1:=oU a b k
theorem aEt (a b k:Nat) (w:World):(callFunc 281 #[.int .u64 (wq a k),.int .u64 (wq b k),.int .u64 (cyq a b k)]).run Tryz.prog w =
 .ok (.value (.tuple #[.int .u64 (wq (a+b) k),.int .u64 (cyq a b (k+1))])) w:=by
 rw [add64 _ _ _ (aCh a b k)];have e1:wq (a+b) k=(wq a k+wq b k+cyq a b k) % 18446744073709551616:=aEp aI a b k;have e2:cyq a b (k+1)=(wq a k+wq b k+cyq a b k) / 18446744073709551616:=sC aI a b k;rw [e1,e2]
theorem yD (a b k:Nat) (h:b≤a) (w:World):(callFunc 360 #[.int .u64 (wq a k),.int .u64 (wq b k),.int .u64 (boq a b k)]).run Tryz.prog w =
 .ok (.value (.tuple #[.int .u64 (wq (a-b) k),.int .u64 (boq a b (k+1))])) w:=by
 rw [sub64 _ _ _ (aYm a b k)];have e1:wq (a-b) k=(wq a k+18446744073709551616-wq b k-boq a b k) % 18446744073709551616:=aRo aI h k;have e2:boq a b (k+1)=if wq a k<wq b k+boq a b k then 1 else 0:=pU aI a b k;rw [e1,e2]
theorem aLs (a b:Nat):cyq a b 0=0:=sD a b
theorem yZ (a b:Nat):boq a b 0=0:=pV a b
theorem aOa {a b n:Nat}(ha:nw a=n) (hb:nw b≤n):cyq a b n=wq (a+b) n∧a+b<B64^(n+1)∧(cyq a b n=0→nw (a+b)=n)∧(cyq a b n≠0→nw (a+b)=n+1):=by
 have h1:a<B64^n:=ha▸dF a;have h2:b<B64^n:=qu (dF b) (qh aI hb);have hp:0<B64^n:=oc aI;have e:cyq a b n=(a+b) / B64^n:=aHc h1 h2;have hle:=aCh a b n;have hlt:a+b<B64^(n+1):=by
  rw [qa];have:B64^n*2≤B64^n*B64:=jj _ oz;omega
 have ew:wq (a+b) n=cyq a b n:=by
  show (a+b) / B64^n % B64=_;rw [←e];exact qz (by unfold B64;omega)
 refine⟨ew.symm,hlt,fun h0=>?_,fun h0=>?_⟩
 ·refine jZ ⟨?_,fun hn=>?_⟩
  ·rw [h0]at e;exact vk fun hge=>by
    have:=(zv hp).2 (by rw [zy];exact hge);omega
  ·have:=(cL a).le oq;rw [ha]at this;omega
 ·refine jZ (Len.of_top hlt fun _=>?_);show wq (a+b) n≠0;rw [ew];exact h0
set_option maxRecDepth 100000 in
theorem aAz (A A':Option Addr) (c c' a b n n':Nat) (w:World) (h:RW w A n c a) (h':RW w A' n' c' b) (en:nw a=n) (en':nw b=n') (hle:n'≤n) (hn:n≤17179869184) (X Y:Value)
 (hXY:(X=.slice A n c∧Y=.slice A' n' c')∨(X=.slice A' n' c'∧Y=.slice A n c∧n'<n)) :
 Calls Tryz.prog 278 #[X,Y] w fun e w'=>(∃v,e=.returned v∧LV w' v (a+b))∧Below w.heap.size w w':=by
 obtain⟨he1,he2,he3,he4⟩:=aOa (b:=b) en oq;have H1:=ou he1;have H2:=ou he2;have H3:=ou he3;have H4:=ou he4;clear he1 he2 he3 he4;have E0:=ou (aLs a b);have hmk:=eZ n (n+1) oq oq oq;rw [xn,Int.natCast_one]at hmk;clear en en';rcases hXY with ⟨rfl,rfl⟩|⟨rfl,rfl,hs⟩
 all_goals
  go_enter Tryz.func278,Tryz.ntmps278
  go_wp2
  go_loopw [6,25] (fun cv i wr=>∃k:Nat,k≤n∧i=.int .i64 k∧cv=.int .u64 (cyq a b k)∧Blk wr w.heap.size 355 (dQ ((a+b) % B64^k) (n+1))∧Below w.heap.size w wr) (fun _ i _=>n-(intOf i).toNat)
  case atStart=>
   refine⟨0,zk _,rfl,by rw [E0.out];rfl,?_,(Below.refl _ _).alloc (oy _) _⟩;rw [xy,kj];exact Blk.new _ _ _
  case round=>
   obtain⟨k,hk,rfl,rfl,hblk,hbel⟩:=hrel
   by_cases hlt:k<n
   ·obtain⟨b1,o1,rfl,hb1,hc1⟩:=h.at_ oq;have hx:wr.cell? ⟨b1,o1+k,none⟩=some (.int .u64 (wq a k)):=(hbel.cell (p:=⟨_,_,none⟩) hb1).trans (hc1 k hlt);have hout:wr.cell? ⟨w.heap.size,k,none⟩=some (.int .u64 0):=by rw [hblk.cell,vZ oq]
    have hfr:wr.frozen? ⟨w.heap.size,k,none⟩=false:=hblk.frozen k
    by_cases hlt':k<n'
    ·obtain⟨b2,o2,rfl,hb2,hc2⟩:=h'.at_ oq;have hy:wr.cell? ⟨b2,o2+k,none⟩=some (.int .u64 (wq b k)):=(hbel.cell (p:=⟨_,_,none⟩) hb2).trans (hc2 k hlt');have hadd:=aEt a b k;clear hc1 hc2 h h'
     go_wp2
     go_roundw
     case rel=>exact⟨k+1,oq,by go_num,rfl,by have:=hblk.set_ k (.int .u64 (wq (a+b) k));rwa [lS]at this,hbel.setCell (oy _) _⟩
     case measure=>simp [intOf];omega
    ·have hz:wq b k=0:=rA aI h'.lt oq;have hadd:∀W,(callFunc 281 #[.int .u64 (wq a k),.int .u64 0,.int .u64 (cyq a b k)]).run Tryz.prog W =
      .ok (.value (.tuple #[.int .u64 (wq (a+b) k),.int .u64 (cyq a b (k+1))])) W:=fun W=>by
      have:=aEt a b k W;rw [hz]at this;exact this
     clear hc1 h h' hz
     go_wp2
     go_roundw
     case rel=>exact⟨k+1,oq,by go_num,rfl,by have:=hblk.set_ k (.int .u64 (wq (a+b) k));rwa [lS]at this,hbel.setCell (oy _) _⟩
     case measure=>simp [intOf];omega
   ·obtain rfl:k=n:=oq
    obtain⟨i0,hi,hz0,hz1,hz2⟩:=info_parts info64;have hcl:=aCh a b k;have hBlk:=ou hblk;have hmod:∀i,i<k→wq ((a+b) % B64^k) i=wq (a+b) i:=fun i hi=>bAl _ hi;have HM:=ou hmod;have hI:=ou hi;have hZ0:=ou hz0;have hZ1:=ou hz1;have hZ2:=ou hz2;clear hmod hi hz0 hz1 hz2 hblk
    by_cases hc0:0<cyq a b k
    ·have hown:=hBlk.out.owns (base:=w.heap.size) (n:=k) (oy _) oq (by unfold maxLen;omega);have hbs:=hbel.size;have hlb:=hBlk.out.lt;have HO:=ou hown;clear hown
     go_wp2_with (at_builtin;refine wpList_append_fits _ rfl (.tmp 51) (.tmp 53) 31 rfl w.heap.size 355 i0 1 Tryz.underlying31 hI.out hZ1.out w.heap.size k (k+1) _ rfl (HO.out.alloc _) ⟨wr.heap.size,0,none⟩ 1 1 [.int .u64 (cyq a b k)] rfl rfl (cell_one_new _ _ _) (by intro u hu;simp at hu;subst hu;rfl) oq ?_;intro w1 hown1 hgrow1)
     go_ret
     have hg:=(hbel.alloc hbs _).grown hgrow1 (by simp;omega) (fun j hj=>by cases hj;exact oy _);have hs1:=hgrow1.size;simp at hs1;refine iP (H4.out oq) (RW.ofOwn hown1 oq (oy _) H2.out fun i hi=>?_).toLR hg
     by_cases hik:i<k
     ·rw [vq (by rw [iL _ oq];exact hik),aJy _ hik oq,HM.out i hik]
     ·have:i=k:=oq
      subst this;rw [ky (by rw [iL _ oq];omega),iL _ oq,ww,←H1.out];rfl
    ·have e:=H3.out oq;have hmk2:a+b<B64^k:=by have:=dF (a+b);rwa [e]at this
     have hb':=hBlk.out;rw [aNb _ hmk2]at hb';have HL:=ou (RW.ofBlk hb' oq hmk2).toLR;have HE:=ou e;clear e hmk2 hb'
     go_wp2
     go_ret
     exact iP HE.out HL.out hbel
theorem aNz (A A':Option Addr) (c c' a b:Nat) (w:World) (h:LR w A c a) (h':LR w A' c' b) (hb:nw a≤17179869184) (hb':nw b≤17179869184) :
 Calls Tryz.prog 278 #[.slice A (nw a) c,.slice A' (nw b) c'] w fun e w'=>(∃v,e=.returned v∧LV w' v (a+b))∧Below w.heap.size w w':=by
 have hn:=mG a;have hn':=mG b
 by_cases hle:nw b≤nw a
 ·exact aAz A A' c c' a b _ _ w h h' rfl rfl hle oq _ _ (.inl ⟨rfl,rfl⟩)
 ·rw [vg a b];exact aAz A' A c' c b a _ _ w h' h rfl rfl oq oq _ _ (.inr ⟨rfl,rfl,oq⟩)
