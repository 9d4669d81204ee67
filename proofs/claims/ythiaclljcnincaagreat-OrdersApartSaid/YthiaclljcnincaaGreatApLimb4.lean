/- Walks: shifts of package exact's natural numbers. -/
import Derived.Test.YthiaclljcnincaaGreatApLimb1
import Derived.RegionTactic
import Derived.BigRegion
set_option maxHeartbeats 1000000
set_option maxRecDepth 100000
namespace Go.Proofs.YthiaclljcnincaaGreat
open Go.RowKit Num
theorem iY {s:Nat}(hs:s<64):B64=2^s*2^(64-s):=by
 rw [mK,←jt];congr 1;omega
theorem iB (q s:Nat):2^(64*q+s)=B64^q*2^s:=by
 rw [mK,←yk,←jt]
def lsh (a k i:Nat):Nat:=a % B64^i*2^k
theorem aMv (a k:Nat):lsh a k 0=0:=by simp [lsh,Nat.mod_one]
theorem aTr {a k n:Nat}(h:a<B64^n):lsh a k n=a*2^k:=by unfold lsh;rw [oi h]
theorem aYg (a q s i:Nat):lsh a (64*q+s) i<B64^(i+q)*2^s:=by
 unfold lsh;rw [iB,jt,jl];exact jr (qg _ (oc aG)) (zg (oc aG) (oc oq))
theorem aNu {u x s:Nat}(hs:s<64) (hu:u<2^s) (_hx:x<18446744073709551616) (hlt:u+x*2^s % B64<B64) :
 bits .or .u64 (u:Int) (IntKind.u64.wrap ((x:Int)*2^s))=((u+x*2^s % B64:Nat):Int):=by
 have e:IntKind.u64.wrap ((x:Int)*2^s)=((x*2^s % B64:Nat):Int):=by
  rw [IntKind.wrap_u64];simp [B64]
 have hb:u<18446744073709551616:=by unfold B64 at hlt;omega
 rw [e,u64_or_nat u (x*2^s % B64) hb (qg _ oz)];have hc:=(lE x (2^s) (2^(64-s)) (oc oq) (oc oq)).1;rw [←iY hs]at hc;rw [hc,oa _ (2^s),Nat.or_comm,←Nat.two_pow_add_eq_or_of_lt hu,vg]
theorem aTs {wr:World}{g t a q s j N:Nat}(hs:s<64) (_hj:j+q+1<N) (h:Blk wr g t (dN (lsh a (64*q+s) j) N)) :
 Blk ((wr.setCell ⟨g,j+q,none⟩ (.int .u64 (bits .or .u64 (wq (lsh a (64*q+s) j) (j+q):Int) (IntKind.u64.wrap ((wq a j:Int)*2^s))))).setCell ⟨g,j+q+1,none⟩ (.int .u64 ((wq a j:Int) / 2^(64-s)))).drew g t
  (dN (lsh a (64*q+s) (j+1)) N):=by
 have hP:0<2^s:=oc oq;have hR:0<2^(64-s):=oc oq;obtain⟨h1,h2,h3⟩:=aQp (iY hs) hP hR (aYg a q s j) (bN a j);have e1:=aNu hs h1 (bN a j) h2;have e2:((wq a j:Int) / 2^(64-s))=((wq a j/2^(64-s):Nat):Int):=by simp
 have e3:lsh a (64*q+s) (j+1)=lsh a (64*q+s) j+B64^(j+q)*(wq a j*2^s):=by
  unfold lsh;rw [dW,jo,iB,jt];unfold wq
  congr 1
  ac_rfl
 have hw:wq (lsh a (64*q+s) j) (j+q)=wd B64 (lsh a (64*q+s) j) (j+q):=rfl;rw [hw,e1,e2,e3,←h3];have hd:=(h.set_ (j+q) (.int .u64 ((wd B64 (lsh a (64*q+s) j) (j+q)+wq a j*2^s % B64:Nat):Int)));rw [uC _ _ _ _ h2]at hd;have hd2:=hd.set_ (j+q+1) (.int .u64 ((wq a j/2^(64-s):Nat):Int));rw [uC _ _ _ _ (jm (zt _ _) (bN a j))]at hd2;exact hd2.drew
theorem aHz (A:Option Addr) (c a n q s:Nat) (w:World) (h:RW w A n c a) (hn0:0<n) (hs:s<64) (hk:0<64*q+s) (hn:n≤17179869184) (hq:q≤17179869184) :
 Calls Tryz.prog 106 #[.slice A n c,.int .i64 ((64*q+s:Nat):Int)] w fun e w'=>(∃v,e=.returned v∧LV w' v (a*2^(64*q+s)))∧Below w.heap.size w w':=by
 have hmk:=fG (n+q+1) (n+q+1) (oy _) oq oq;simp only [xl,Int.natCast_one]at hmk;have k0:(((n:Nat):Int) == 0)=false:=by simp;omega
 have k1:(((64*q+s:Nat):Int) == 0)=false:=by simp;omega
 have d1:((64*q+s:Nat):Int) / 64=(q:Int):=oq
 have d2:((64*q+s:Nat):Int) % 64=(s:Int):=oq
 have HSb:=ou (fun (wr:World) j (hj:j+q+1<n+q+1)=>aTs (wr:=wr) (g:=w.heap.size) (t:=94) (a:=a) (q:=q) (s:=s) (j:=j) (N:=n+q+1) hs hj);have HEnd:=ou (aTr (k:=64*q+s) h.lt);have HLt:Hid (a*2^(64*q+s)<B64^(n+q+1)):=by
  have h1:=h.lt;have h2:2^s≤B64:=by rw [mK];exact qb oq oq
  unfold Hid;rw [iB,jj,jt,jl,←jl];exact qy (jr (jr h1 (oc aG)) (oc oq)) (by rw [jl];exact qn _ (qn _ h2))
 generalize 64*q+s=k at *
 go_enter Tryz.func106,Tryz.ntmps106
 go_wp2_with fail
 go_loopw [25] (fun i wr=>∃j:Nat,j≤n∧i=.int .i64 j∧Blk wr w.heap.size 94 (dN (lsh a k j) (n+q+1))∧Below w.heap.size w wr) (fun i _=>n-(intOf i).toNat)
 case atStart=>
  exact⟨0,jx _,rfl,by rw [aMv];exact Blk.new _ _ _,(Below.refl _ _).alloc (oy _) _⟩
 case round=>
  obtain⟨j,hj,rfl,hblk,hbel⟩:=hrel
  by_cases hlt:j<n
  ·obtain⟨b1,o1,rfl,hb1,hc1⟩:=h.at_ oq;have hx:wr.cell? ⟨b1,o1+j,none⟩=some (.int .u64 (wq a j)):=(hbel.cell (p:=⟨_,_,none⟩) hb1).trans (hc1 j hlt);have hout:wr.cell? ⟨w.heap.size,j+q,none⟩=some (.int .u64 (wq (lsh a k j) (j+q))):=by rw [hblk.cell,jH _ oq]
   have hfr:wr.frozen? ⟨w.heap.size,j+q,none⟩=false:=hblk.frozen _;have hfr2:wr.frozen? ⟨w.heap.size,j+q+1,none⟩=false:=hblk.frozen _;have hout2:∀u v:Value,wr.cell? ⟨w.heap.size,j+q,none⟩=some u→(wr.setCell ⟨w.heap.size,j+q,none⟩ v).cell? ⟨w.heap.size,j+q+1,none⟩=some (.int .u64 (wq (lsh a k j) (j+q+1))):=fun _ v _=>by
    rw [qh _ _ _ _ (by simp),hblk.cell,jH _ oq]
   have hout3:=fun v=>hout2 _ v hout;have HB:=ou hblk;clear hc1 hblk hmk hout2
   go_wp2_with fail
   go_region
   go_wp2_with fail
   go_roundw
   case rel=>exact⟨j+1,oq,by go_num,HSb.out _ _ oq HB.out,((hbel.setCell (oy _) _).setCell (oy _) _).drew⟩
   case measure=>simp [intOf];omega
  ·obtain rfl:j=n:=oq
   rw [HEnd.out]at hblk;have hr:=RW.ofBlk hblk (oy _) HLt.out;clear hblk h hmk
   go_wp2_with (go_at_call 71;refine (fX _ _ _ _ _ hr oq).mono ?_;rintro e w' ⟨rfl,rfl⟩)
   go_ret
   exact jA rfl hr.toLR hbel
theorem aAj (A:Option Addr) (c a k:Nat) (w:World) (h:LR w A c a) (hb:nw a≤17179869184) (hk:k≤17179869184) :
 Calls Tryz.prog 106 #[.slice A (nw a) c,.int .i64 (k:Int)] w fun e w'=>(∃v,e=.returned v∧LV w' v (a*2^k))∧Below w.heap.size w w':=by
 have hn:=mF a
 by_cases h0:nw a=0∨k=0
 ·have hv:LV w (.slice A (nw a) c) (a*2^k):=by
   have e:a*2^k=a:=by
    rcases h0 with h0|h0
    ·rw [bS.1 h0];simp
    ·rw [h0];simp
   rw [e];exact h.lv
  by_cases h1:nw a=0
  ·rw [h1]at hv ⊢;have HV:=ou hv;clear h1 h0 hv h hn
   go_enter Tryz.func106,Tryz.ntmps106
   go_wp2_with fail
   go_ret
   exact⟨⟨_,rfl,HV.out⟩,Below.refl _ _⟩
  ·have hk0:k=0:=oq
   have k0:(((nw a:Nat):Int) == 0)=false:=by simp;omega
   subst hk0;have HV:=ou hv;clear h hv;generalize nw a=n at *
   clear h0 h1
   go_enter Tryz.func106,Tryz.ntmps106
   go_wp2_with fail
   go_ret
   exact⟨⟨_,rfl,HV.out⟩,Below.refl _ _⟩
 ·obtain⟨q,s,hs,rfl⟩:∃q s,s<64∧k=64*q+s:=⟨k/64,k % 64,qg _ oq,oq⟩;exact aHz A c a _ q s w h oq hs oq oq oq
theorem aWp (a q s i:Nat) (hs:s<64):wq (a/2^(64*q+s)) i=wq a (i+q) / 2^s+wq a (i+q+1)*2^(64-s) % B64:=by
 rw [iB];exact aRg (iY hs) (oc oq) (oc oq) a q i
theorem aEe (a q s i:Nat) (hs:s<64) (h:a<B64^(i+q+1)):wq (a/2^(64*q+s)) i=wq a (i+q) / 2^s:=by
 rw [aWp _ _ _ _ hs,show wq a (i+q+1)=0 from kC h];simp
theorem aIt {u x s:Nat}(hs:s<64) (hu:u<18446744073709551616) :
 bits .or .u64 ((u/2^s:Nat):Int) (IntKind.u64.wrap ((x:Int)*2^(64-s)))=((u/2^s+x*2^(64-s) % B64:Nat):Int):=by
 have hR:0<2^(64-s):=oc oq;have hP:0<2^s:=oc oq;have e:IntKind.u64.wrap ((x:Int)*2^(64-s))=((x*2^(64-s) % B64:Nat):Int):=by
  rw [IntKind.wrap_u64];simp [B64]
 have hb:u/2^s<2^(64-s):=by
  rw [qj hP,oa,←iY hs];exact hu
 have hb2:u/2^s<18446744073709551616:=jm (zt _ _) hu;rw [e,u64_or_nat (u/2^s) (x*2^(64-s) % B64) hb2 (qg _ oz)];have hc:=(lE x (2^(64-s)) (2^s) hR hP).1;rw [oa (2^(64-s)),←iY hs]at hc;rw [hc,oa _ (2^(64-s)),Nat.or_comm,←Nat.two_pow_add_eq_or_of_lt hb,vg]
theorem aUz {wr:World}{g t s j N x:Nat}{m:Nat}(hs:s<64) (h:Blk wr g t (dX m 0 j N)) {u:Nat}(hu:u<18446744073709551616) (e:wq m j=u/2^s+x*2^(64-s) % B64) :
 Blk ((wr.setCell ⟨g,j,none⟩ (.int .u64 ((u:Int) / 2^s))).setCell ⟨g,j,none⟩ (.int .u64 (bits .or .u64 ((u:Int) / 2^s) (IntKind.u64.wrap ((x:Int)*2^(64-s)))))).drew g t (dX m 0 (j+1) N):=by
 have e2:((u:Int) / 2^s)=((u/2^s:Nat):Int):=by simp
 rw [e2,aIt hs hu,←e,←fV];have h1:=(h.set_ j (.int .u64 ((u/2^s:Nat):Int))).set_ j (.int .u64 (wq m j));rw [za]at h1;exact h1.drew
theorem aUy {wr:World}{g t s j N:Nat}{m:Nat}(h:Blk wr g t (dX m 0 j N)) {u:Nat}(e:wq m j=u/2^s) :
 Blk (wr.setCell ⟨g,j,none⟩ (.int .u64 ((u:Int) / 2^s))) g t (dX m 0 (j+1) N):=by
 have e2:((u:Int) / 2^s)=((u/2^s:Nat):Int):=by simp
 rw [e2,←e,←fV];exact h.set_ j _
theorem qT {m N:Nat}(h:m<B64^N):dX m 0 N N=dN m N:=tZ _ _ _ _ fun j hj=>by
 rw [show wq m j=0 from rH aG h hj];simp [wq,wd]
theorem aDx (A:Option Addr) (c a n q s:Nat) (w:World) (h:RW w A n c a) (hs:s<64) (hq:q<n) (hn:n≤17179869184) :
 Calls Tryz.prog 108 #[.slice A n c,.int .i64 ((64*q+s:Nat):Int)] w fun e w'=>(∃v,e=.returned v∧LV w' v (a/2^(64*q+s)))∧Below w.heap.size w w':=by
 have hmk:=fG (n-q) (n-q) (oy _) oq oq;rw [Int.ofNat_sub oq]at hmk;have d1:((64*q+s:Nat):Int) / 64=(q:Int):=oq
 have d2:((64*q+s:Nat):Int) % 64=(s:Int):=oq
 have HS:=ou (fun i=>aWp a q s i hs);have HL:=ou (fun i=>aEe a q s i hs);have HLt:Hid (a/2^(64*q+s)<B64^(n-q)):=by
  unfold Hid;rw [iB,←jp];refine jm (zt _ _) ?_;rw [qj (oc aG),←jt,xy oq];exact h.lt
 have HA:=ou h.lt;generalize 64*q+s=k at *
 go_enter Tryz.func108,Tryz.ntmps108
 go_wp2_with fail
 go_loopw [20] (fun i wr=>∃j:Nat,j≤n-q∧i=.int .i64 j∧Blk wr w.heap.size 94 (dX (a/2^k) 0 j (n-q))∧Below w.heap.size w wr) (fun i _=>(n-q)-(intOf i).toNat)
 case atStart=>
  exact⟨0,jx _,rfl,by rw [jR _ _ _ _ (fun _ h=>absurd h oq)];exact Blk.new _ _ _,(Below.refl _ _).alloc (oy _) _⟩
 case round=>
  obtain⟨j,hj,rfl,hblk,hbel⟩:=hrel
  by_cases hlt:j<n-q
  ·obtain⟨b1,o1,rfl,hb1,hc1⟩:=h.at_ oq;have hx:wr.cell? ⟨b1,o1+(j+q),none⟩=some (.int .u64 (wq a (j+q))):=(hbel.cell (p:=⟨_,_,none⟩) hb1).trans (hc1 (j+q) oq);have hout:wr.cell? ⟨w.heap.size,j,none⟩=some (.int .u64 (wq 0 j)):=by rw [hblk.cell,jQ _ _ (oy _) oq]
   have hfr:wr.frozen? ⟨w.heap.size,j,none⟩=false:=hblk.frozen _;have HB:=ou hblk
   by_cases hlt2:j+q+1<n
   ·have hx2:∀v,(wr.setCell ⟨w.heap.size,j,none⟩ v).cell? ⟨b1,o1+(j+q+1),none⟩=some (.int .u64 (wq a (j+q+1))):=fun v=>by
     rw [qh _ _ _ _ (by simp;try omega)]
     exact (hbel.cell (p:=⟨_,_,none⟩) hb1).trans (hc1 (j+q+1) oq)
    have hout2:∀v,(wr.setCell ⟨w.heap.size,j,none⟩ v).cell? ⟨w.heap.size,j,none⟩=some v:=fun v=>qs _ _ _ hout;clear hc1 hblk hmk h
    go_wp2_with fail
    go_region
    go_wp2_with fail
    go_roundw
    case rel=>exact⟨j+1,oq,by go_num,aUz hs HB.out (bN _ _) (HS.out j),((hbel.setCell (oy _) _).setCell (oy _) _).drew⟩
    case measure=>simp [intOf];omega
   ·clear hc1 hblk hmk h
    go_wp2_with fail
    go_roundw
    case rel=>exact⟨j+1,oq,by go_num,aUy HB.out (HL.out _ (qy HA.out (qb aG oq))),hbel.setCell (oy _) _⟩
    case measure=>simp [intOf];omega
  ·obtain rfl:j=n-q:=oq
   have hr:=RW.ofBlk (m:=a/2^k) (by rwa [qT HLt.out]at hblk) (oy _) HLt.out;clear hblk h hmk
   go_wp2_with (go_at_call 71;refine (fX _ _ _ _ _ hr oq).mono ?_;rintro e w' ⟨rfl,rfl⟩)
   go_ret
   exact jA rfl hr.toLR hbel
theorem aKc (A:Option Addr) (c a k:Nat) (w:World) (h:LR w A c a) (hb:nw a≤17179869184) (hk:k≤1152921504606846976) :
 Calls Tryz.prog 108 #[.slice A (nw a) c,.int .i64 (k:Int)] w fun e w'=>(∃v,e=.returned v∧LV w' v (a/2^k))∧Below w.heap.size w w':=by
 have hn:=mF a;obtain⟨q,s,hs,rfl⟩:∃q s,s<64∧k=64*q+s:=⟨k/64,k % 64,qg _ oq,oq⟩
 by_cases hq:q<nw a
 ·exact aDx A c a _ q s w h hs hq oq
 ·have hv:LV w (.slice none 0 0) (a/2^(64*q+s)):=by
   have e:a/2^(64*q+s)=0:=by
    rw [qa];rw [iB];refine qy (dA a) (qr (qb aG (show nw a≤q by omega)) (zl _ (oc oq)))
   rw [e];exact LV.nil
  have HV:=ou hv;have d1:((64*q+s:Nat):Int) / 64=(q:Int):=oq
  clear h hv;generalize 64*q+s=k at *
  generalize nw a=n at *
  go_enter Tryz.func108,Tryz.ntmps108
  go_wp2_with fail
  go_ret
  exact⟨⟨_,rfl,HV.out⟩,Below.refl _ _⟩
