/- Walks: shifts of package exact's natural numbers. -/
import Derived.Test.YtpeakfmjibfkpaaGreatFoLimb1
import Derived.RegionTactic
import Derived.BigRegion
namespace Go.Proofs.YtpeakfmjibfkpaaGreat
open Go.RowKit Num
theorem iW {s:Nat}(hs:s<64):B64=2^s*2^(64-s):=by
 rw [jJ,←Nat.pow_add];congr 1;omega
theorem gT (q s:Nat):2^(64*q+s)=B64^q*2^s:=by
 rw [jJ,←Nat.pow_mul,←Nat.pow_add]
def lsh (a k i:Nat):Nat:=a % B64^i*2^k
theorem aNr (a k:Nat):lsh a k 0=0:=by simp [lsh,Nat.mod_one]
theorem aSh {a k n:Nat}(h:a<B64^n):lsh a k n=a*2^k:=by unfold lsh;rw [Nat.mod_eq_of_lt h]
theorem aWd (a q s i:Nat):lsh a (64*q+s) i<B64^(i+q)*2^s:=by
 unfold lsh;rw [gT,Nat.pow_add,Nat.mul_assoc];exact Nat.mul_lt_mul_of_pos_right (Nat.mod_lt _ (Nat.pow_pos aE)) (Nat.mul_pos (Nat.pow_pos aE) (Nat.pow_pos (by omega)))
theorem aOk {u x s:Nat}(hs:s<64) (hu:u<2^s) (_hx:x<18446744073709551616) (hlt:u+x*2^s % B64<B64) :
 bits .or .u64 (u:Int) (IntKind.u64.wrap ((x:Int)*2^s))=((u+x*2^s % B64:Nat):Int):=by
 have e:IntKind.u64.wrap ((x:Int)*2^s)=((x*2^s % B64:Nat):Int):=by
  rw [IntKind.wrap_u64];simp [B64]
 have hb:u<18446744073709551616:=by unfold B64 at hlt;omega
 rw [e,u64_or_nat u (x*2^s % B64) hb (Nat.mod_lt _ (by decide))];have hc:=(lA x (2^s) (2^(64-s)) (Nat.pow_pos (by omega)) (Nat.pow_pos (by omega))).1;rw [←iW hs]at hc;rw [hc,Nat.mul_comm _ (2^s),Nat.or_comm,←Nat.two_pow_add_eq_or_of_lt hu,Nat.add_comm]
theorem aSi {wr:World}{g t a q s j N:Nat}(hs:s<64) (_hj:j+q+1<N) (h:Blk wr g t (cY (lsh a (64*q+s) j) N)) :
 Blk ((wr.setCell ⟨g,j+q,none⟩ (.int .u64 (bits .or .u64 (wq (lsh a (64*q+s) j) (j+q):Int) (IntKind.u64.wrap ((wq a j:Int)*2^s))))).setCell ⟨g,j+q+1,none⟩ (.int .u64 ((wq a j:Int) / 2^(64-s)))).drew g t
  (cY (lsh a (64*q+s) (j+1)) N):=by
 have hP:0<2^s:=Nat.pow_pos (by omega);have hR:0<2^(64-s):=Nat.pow_pos (by omega);obtain⟨h1,h2,h3⟩:=aPu (iW hs) hP hR (aWd a q s j) (bH a j);have e1:=aOk hs h1 (bH a j) h2;have e2:((wq a j:Int) / 2^(64-s))=((wq a j/2^(64-s):Nat):Int):=by simp
 have e3:lsh a (64*q+s) (j+1)=lsh a (64*q+s) j+B64^(j+q)*(wq a j*2^s):=by
  unfold lsh;rw [dI,Nat.add_mul,gT,Nat.pow_add];unfold wq
  congr 1
  ac_rfl
 have hw:wq (lsh a (64*q+s) j) (j+q)=wd B64 (lsh a (64*q+s) j) (j+q):=rfl;rw [hw,e1,e2,e3,←h3];have hd:=(h.set_ (j+q) (.int .u64 ((wd B64 (lsh a (64*q+s) j) (j+q)+wq a j*2^s % B64:Nat):Int)));rw [tR _ _ _ _ h2]at hd;have hd2:=hd.set_ (j+q+1) (.int .u64 ((wq a j/2^(64-s):Nat):Int));rw [tR _ _ _ _ (Nat.lt_of_le_of_lt (Nat.div_le_self _ _) (bH a j))]at hd2;exact hd2.drew
set_option maxRecDepth 100000 in
set_option maxHeartbeats 1000000 in
theorem aIu (A:Option Addr) (c a n q s:Nat) (w:World) (h:RW w A n c a) (hn0:0<n) (hs:s<64) (hk:0<64*q+s) (hn:n≤17179869184) (hq:q≤17179869184) :
 Calls Tryz.prog 187 #[.slice A n c,.int .i64 ((64*q+s:Nat):Int)] w fun e w'=>(∃v,e=.returned v∧LV w' v (a*2^(64*q+s)))∧Below w.heap.size w w':=by
 have hmk:=eG (n+q+1) (n+q+1) (Nat.le_refl _) (by omega) (by omega);simp only [Int.natCast_add,Int.natCast_one]at hmk;have k0:(((n:Nat):Int) == 0)=false:=by simp;omega
 have k1:(((64*q+s:Nat):Int) == 0)=false:=by simp;omega
 have d1:((64*q+s:Nat):Int) / 64=(q:Int):=by omega
 have d2:((64*q+s:Nat):Int) % 64=(s:Int):=by omega
 have HSb:=Lib.hid (fun (wr:World) j (hj:j+q+1<n+q+1)=>aSi (wr:=wr) (g:=w.heap.size) (t:=236) (a:=a) (q:=q) (s:=s) (j:=j) (N:=n+q+1) hs hj);have HEnd:=Lib.hid (aSh (k:=64*q+s) h.lt);have HLt:Hid (a*2^(64*q+s)<B64^(n+q+1)):=by
  have h1:=h.lt;have h2:2^s≤B64:=by rw [jJ];exact Nat.pow_le_pow_right (by omega) (by omega)
  unfold Hid;rw [gT,Nat.pow_succ,Nat.pow_add,Nat.mul_assoc,←Nat.mul_assoc];exact Nat.lt_of_lt_of_le (Nat.mul_lt_mul_of_pos_right (Nat.mul_lt_mul_of_pos_right h1 (Nat.pow_pos aE)) (Nat.pow_pos (by omega))) (by rw [Nat.mul_assoc];exact Nat.mul_le_mul_left _ (Nat.mul_le_mul_left _ h2))
 generalize 64*q+s=k at *
 go_enter Tryz.func187,Tryz.ntmps187
 go_wp2_with fail
 go_loopw [25] (fun i wr=>∃j:Nat,j≤n∧i=.int .i64 j∧Blk wr w.heap.size 236 (cY (lsh a k j) (n+q+1))∧Below w.heap.size w wr) (fun i _=>n-(intOf i).toNat)
 case atStart=>
  exact⟨0,Nat.zero_le _,rfl,by rw [aNr];exact Blk.new _ _ _,(Below.refl _ _).alloc (Nat.le_refl _) _⟩
 case round=>
  obtain⟨j,hj,rfl,hblk,hbel⟩:=hrel
  by_cases hlt:j<n
  ·obtain⟨b1,o1,rfl,hb1,hc1⟩:=h.at_ (by omega);have hx:wr.cell? ⟨b1,o1+j,none⟩=some (.int .u64 (wq a j)):=(hbel.cell (p:=⟨_,_,none⟩) hb1).trans (hc1 j hlt);have hout:wr.cell? ⟨w.heap.size,j+q,none⟩=some (.int .u64 (wq (lsh a k j) (j+q))):=by rw [hblk.cell,jG _ (by omega)]
   have hfr:wr.frozen? ⟨w.heap.size,j+q,none⟩=false:=hblk.frozen _;have hfr2:wr.frozen? ⟨w.heap.size,j+q+1,none⟩=false:=hblk.frozen _;have hout2:∀u v:Value,wr.cell? ⟨w.heap.size,j+q,none⟩=some u→(wr.setCell ⟨w.heap.size,j+q,none⟩ v).cell? ⟨w.heap.size,j+q+1,none⟩=some (.int .u64 (wq (lsh a k j) (j+q+1))):=fun _ v _=>by
    rw [World.cell?_setCell_other _ _ _ _ (by simp),hblk.cell,jG _ (by omega)]
   have hout3:=fun v=>hout2 _ v hout;have HB:=Lib.hid hblk;clear hc1 hblk hmk hout2
   go_wp2_with fail
   go_region
   go_wp2_with fail
   go_roundw
   case rel=>exact⟨j+1,by omega,by go_num,HSb.out _ _ (by omega) HB.out,((hbel.setCell (Nat.le_refl _) _).setCell (Nat.le_refl _) _).drew⟩
   case measure=>simp [intOf];omega
  ·obtain rfl:j=n:=by omega
   rw [HEnd.out]at hblk;have hr:=RW.ofBlk hblk (Nat.le_refl _) HLt.out;clear hblk h hmk
   go_wp2_with (go_at_call 171;refine (fL _ _ _ _ _ hr (by omega)).mono ?_;rintro e w' ⟨rfl,rfl⟩)
   go_ret
   exact iX rfl hr.toLR hbel
set_option maxHeartbeats 1000000 in
theorem sR (A:Option Addr) (c a k:Nat) (w:World) (h:LR w A c a) (hb:nw a≤17179869184) (hk:k≤17179869184) :
 Calls Tryz.prog 187 #[.slice A (nw a) c,.int .i64 (k:Int)] w fun e w'=>(∃v,e=.returned v∧LV w' v (a*2^k))∧Below w.heap.size w w':=by
 have hn:=mD a
 by_cases h0:nw a=0∨k=0
 ·have hv:LV w (.slice A (nw a) c) (a*2^k):=by
   have e:a*2^k=a:=by
    rcases h0 with h0|h0
    ·rw [aZ.1 h0];simp
    ·rw [h0];simp
   rw [e];exact h.lv
  by_cases h1:nw a=0
  ·rw [h1]at hv ⊢;have HV:=Lib.hid hv;clear h1 h0 hv h hn
   go_enter Tryz.func187,Tryz.ntmps187
   go_wp2_with fail
   go_ret
   exact⟨⟨_,rfl,HV.out⟩,Below.refl _ _⟩
  ·have hk0:k=0:=by omega
   have k0:(((nw a:Nat):Int) == 0)=false:=by simp;omega
   subst hk0;have HV:=Lib.hid hv;clear h hv;generalize nw a=n at *
   clear h0 h1
   go_enter Tryz.func187,Tryz.ntmps187
   go_wp2_with fail
   go_ret
   exact⟨⟨_,rfl,HV.out⟩,Below.refl _ _⟩
 ·obtain⟨q,s,hs,rfl⟩:∃q s,s<64∧k=64*q+s:=⟨k/64,k % 64,Nat.mod_lt _ (by omega),by omega⟩;exact aIu A c a _ q s w h (by omega) hs (by omega) (by omega) (by omega)
theorem aUx (a q s i:Nat) (hs:s<64):wq (a/2^(64*q+s)) i=wq a (i+q) / 2^s+wq a (i+q+1)*2^(64-s) % B64:=by
 rw [gT];exact aQl (iW hs) (Nat.pow_pos (by omega)) (Nat.pow_pos (by omega)) a q i
theorem aEw (a q s i:Nat) (hs:s<64) (h:a<B64^(i+q+1)):wq (a/2^(64*q+s)) i=wq a (i+q) / 2^s:=by
 rw [aUx _ _ _ _ hs,show wq a (i+q+1)=0 from gL h];simp
theorem aJj {u x s:Nat}(hs:s<64) (hu:u<18446744073709551616) :
 bits .or .u64 ((u/2^s:Nat):Int) (IntKind.u64.wrap ((x:Int)*2^(64-s)))=((u/2^s+x*2^(64-s) % B64:Nat):Int):=by
 have hR:0<2^(64-s):=Nat.pow_pos (by omega);have hP:0<2^s:=Nat.pow_pos (by omega);have e:IntKind.u64.wrap ((x:Int)*2^(64-s))=((x*2^(64-s) % B64:Nat):Int):=by
  rw [IntKind.wrap_u64];simp [B64]
 have hb:u/2^s<2^(64-s):=by
  rw [Nat.div_lt_iff_lt_mul hP,Nat.mul_comm,←iW hs];exact hu
 have hb2:u/2^s<18446744073709551616:=Nat.lt_of_le_of_lt (Nat.div_le_self _ _) hu;rw [e,u64_or_nat (u/2^s) (x*2^(64-s) % B64) hb2 (Nat.mod_lt _ (by decide))];have hc:=(lA x (2^(64-s)) (2^s) hR hP).1;rw [Nat.mul_comm (2^(64-s)),←iW hs]at hc;rw [hc,Nat.mul_comm _ (2^(64-s)),Nat.or_comm,←Nat.two_pow_add_eq_or_of_lt hb,Nat.add_comm]
theorem aTp {wr:World}{g t s j N x:Nat}{m:Nat}(hs:s<64) (h:Blk wr g t (dK m 0 j N)) {u:Nat}(hu:u<18446744073709551616) (e:wq m j=u/2^s+x*2^(64-s) % B64) :
 Blk ((wr.setCell ⟨g,j,none⟩ (.int .u64 ((u:Int) / 2^s))).setCell ⟨g,j,none⟩ (.int .u64 (bits .or .u64 ((u:Int) / 2^s) (IntKind.u64.wrap ((x:Int)*2^(64-s)))))).drew g t (dK m 0 (j+1) N):=by
 have e2:((u:Int) / 2^s)=((u/2^s:Nat):Int):=by simp
 rw [e2,aJj hs hu,←e,←fG];have h1:=(h.set_ j (.int .u64 ((u/2^s:Nat):Int))).set_ j (.int .u64 (wq m j));rw [Array.setIfInBounds_setIfInBounds]at h1;exact h1.drew
theorem aTo {wr:World}{g t s j N:Nat}{m:Nat}(h:Blk wr g t (dK m 0 j N)) {u:Nat}(e:wq m j=u/2^s) :
 Blk (wr.setCell ⟨g,j,none⟩ (.int .u64 ((u:Int) / 2^s))) g t (dK m 0 (j+1) N):=by
 have e2:((u:Int) / 2^s)=((u/2^s:Nat):Int):=by simp
 rw [e2,←e,←fG];exact h.set_ j _
theorem qM {m N:Nat}(h:m<B64^N):dK m 0 N N=cY m N:=tQ _ _ _ _ fun j hj=>by
 rw [show wq m j=0 from rA aE h hj];simp [wq,wd]
set_option maxRecDepth 100000 in
set_option maxHeartbeats 1000000 in
theorem aEm (A:Option Addr) (c a n q s:Nat) (w:World) (h:RW w A n c a) (hs:s<64) (hq:q<n) (hn:n≤17179869184) :
 Calls Tryz.prog 189 #[.slice A n c,.int .i64 ((64*q+s:Nat):Int)] w fun e w'=>(∃v,e=.returned v∧LV w' v (a/2^(64*q+s)))∧Below w.heap.size w w':=by
 have hmk:=eG (n-q) (n-q) (Nat.le_refl _) (by omega) (by omega);rw [Int.ofNat_sub (by omega)]at hmk;have d1:((64*q+s:Nat):Int) / 64=(q:Int):=by omega
 have d2:((64*q+s:Nat):Int) % 64=(s:Int):=by omega
 have HS:=Lib.hid (fun i=>aUx a q s i hs);have HL:=Lib.hid (fun i=>aEw a q s i hs);have HLt:Hid (a/2^(64*q+s)<B64^(n-q)):=by
  unfold Hid;rw [gT,←Nat.div_div_eq_div_mul];refine Nat.lt_of_le_of_lt (Nat.div_le_self _ _) ?_;rw [Nat.div_lt_iff_lt_mul (Nat.pow_pos aE),←Nat.pow_add,Nat.sub_add_cancel (by omega)];exact h.lt
 have HA:=Lib.hid h.lt;generalize 64*q+s=k at *
 go_enter Tryz.func189,Tryz.ntmps189
 go_wp2_with fail
 go_loopw [20] (fun i wr=>∃j:Nat,j≤n-q∧i=.int .i64 j∧Blk wr w.heap.size 236 (dK (a/2^k) 0 j (n-q))∧Below w.heap.size w wr) (fun i _=>(n-q)-(intOf i).toNat)
 case atStart=>
  exact⟨0,Nat.zero_le _,rfl,by rw [jV _ _ _ _ (fun _ h=>absurd h (by omega))];exact Blk.new _ _ _,(Below.refl _ _).alloc (Nat.le_refl _) _⟩
 case round=>
  obtain⟨j,hj,rfl,hblk,hbel⟩:=hrel
  by_cases hlt:j<n-q
  ·obtain⟨b1,o1,rfl,hb1,hc1⟩:=h.at_ (by omega);have hx:wr.cell? ⟨b1,o1+(j+q),none⟩=some (.int .u64 (wq a (j+q))):=(hbel.cell (p:=⟨_,_,none⟩) hb1).trans (hc1 (j+q) (by omega));have hout:wr.cell? ⟨w.heap.size,j,none⟩=some (.int .u64 (wq 0 j)):=by rw [hblk.cell,jU _ _ (Nat.le_refl _) (by omega)]
   have hfr:wr.frozen? ⟨w.heap.size,j,none⟩=false:=hblk.frozen _;have HB:=Lib.hid hblk
   by_cases hlt2:j+q+1<n
   ·have hx2:∀v,(wr.setCell ⟨w.heap.size,j,none⟩ v).cell? ⟨b1,o1+(j+q+1),none⟩=some (.int .u64 (wq a (j+q+1))):=fun v=>by
     rw [World.cell?_setCell_other _ _ _ _ (by simp;try omega)]
     exact (hbel.cell (p:=⟨_,_,none⟩) hb1).trans (hc1 (j+q+1) (by omega))
    have hout2:∀v,(wr.setCell ⟨w.heap.size,j,none⟩ v).cell? ⟨w.heap.size,j,none⟩=some v:=fun v=>World.cell?_setCell_same _ _ _ hout;clear hc1 hblk hmk h
    go_wp2_with fail
    go_region
    go_wp2_with fail
    go_roundw
    case rel=>exact⟨j+1,by omega,by go_num,aTp hs HB.out (bH _ _) (HS.out j),((hbel.setCell (Nat.le_refl _) _).setCell (Nat.le_refl _) _).drew⟩
    case measure=>simp [intOf];omega
   ·clear hc1 hblk hmk h
    go_wp2_with fail
    go_roundw
    case rel=>exact⟨j+1,by omega,by go_num,aTo HB.out (HL.out _ (Nat.lt_of_lt_of_le HA.out (Nat.pow_le_pow_right aE (by omega)))),hbel.setCell (Nat.le_refl _) _⟩
    case measure=>simp [intOf];omega
  ·obtain rfl:j=n-q:=by omega
   have hr:=RW.ofBlk (m:=a/2^k) (by rwa [qM HLt.out]at hblk) (Nat.le_refl _) HLt.out;clear hblk h hmk
   go_wp2_with (go_at_call 171;refine (fL _ _ _ _ _ hr (by omega)).mono ?_;rintro e w' ⟨rfl,rfl⟩)
   go_ret
   exact iX rfl hr.toLR hbel
set_option maxHeartbeats 1000000 in
theorem aKb (A:Option Addr) (c a k:Nat) (w:World) (h:LR w A c a) (hb:nw a≤17179869184) (hk:k≤1152921504606846976) :
 Calls Tryz.prog 189 #[.slice A (nw a) c,.int .i64 (k:Int)] w fun e w'=>(∃v,e=.returned v∧LV w' v (a/2^k))∧Below w.heap.size w w':=by
 have hn:=mD a;obtain⟨q,s,hs,rfl⟩:∃q s,s<64∧k=64*q+s:=⟨k/64,k % 64,Nat.mod_lt _ (by omega),by omega⟩
 by_cases hq:q<nw a
 ·exact aEm A c a _ q s w h hs hq (by omega)
 ·have hv:LV w (.slice none 0 0) (a/2^(64*q+s)):=by
   have e:a/2^(64*q+s)=0:=by
    rw [Nat.div_eq_of_lt];rw [gT];refine Nat.lt_of_lt_of_le (cQ a) (Nat.le_trans (Nat.pow_le_pow_right aE (show nw a≤q by omega)) (Nat.le_mul_of_pos_right _ (Nat.pow_pos (by omega))))
   rw [e];exact LV.nil
  have HV:=Lib.hid hv;have d1:((64*q+s:Nat):Int) / 64=(q:Int):=by omega
  clear h hv;generalize 64*q+s=k at *
  generalize nw a=n at *
  go_enter Tryz.func189,Tryz.ntmps189
  go_wp2_with fail
  go_ret
  exact⟨⟨_,rfl,HV.out⟩,Below.refl _ _⟩
