/- Walks: differences and products of package exact's natural numbers. -/
import Derived.Test.YtmifbgccpdmjpaaLpLimb1
namespace Go.Proofs.Ytmifbgccpdmjpaa
open Go.RowKit Num
set_option maxRecDepth 100000 in
set_option maxHeartbeats 1000000 in
theorem aCj (A A':Option Addr) (c c' a b:Nat) (w:World) (h:LR w A c a) (h':LR w A' c' b) (hle:b≤a) (hb:nw a≤17179869184) :
 Calls Try.prog 85 #[.slice A (nw a) c,.slice A' (nw b) c'] w fun e w'=>(∃v,e=.returned v∧LV w' v (a-b))∧Below w.heap.size w w':=by
 have hn0:=kS a;have hmono:nw b≤nw a:=aT (ja hle (cR a));have E0:=ou (vM a b);have H2:=ou (cR a);have hmk:=eA (nw a) (nw a) oq oq oq;unfold LR at h h';generalize nw a=n at *
 generalize nw b=n' at *
 go_enter Try.func85,Try.ntmps85
 go_wp2
 go_loopw [6,15] (fun cv i wr=>∃k:Nat,k≤n∧i=.int .i64 k∧cv=.int .u64 (boq a b k)∧Blk wr w.heap.size 53 (dA ((a-b) % B64^k) n)∧Below w.heap.size w wr) (fun _ i _=>n-(intOf i).toNat)
 case atStart=>
  refine⟨0,jm _,rfl,by rw [E0.out];rfl,?_,(Below.refl _ _).alloc (oy _) _⟩;rw [vr,xe];exact Blk.new _ _ _
 case round=>
  obtain⟨k,hk,rfl,rfl,hblk,hbel⟩:=hrel
  by_cases hlt:k<n
  ·obtain⟨b1,o1,rfl,hb1,hc1⟩:=h.at_ oq;have hx:wr.cell? ⟨b1,o1+k,none⟩=some (.int .u64 (wq a k)):=(hbel.cell (p:=⟨_,_,none⟩) hb1).trans (hc1 k hlt);have hout:wr.cell? ⟨w.heap.size,k,none⟩=some (.int .u64 0):=by rw [hblk.cell,tO oq]
   have hfr:wr.frozen? ⟨w.heap.size,k,none⟩=false:=hblk.frozen k
   by_cases hlt':k<n'
   ·obtain⟨b2,o2,rfl,hb2,hc2⟩:=h'.at_ oq;have hy:wr.cell? ⟨b2,o2+k,none⟩=some (.int .u64 (wq b k)):=(hbel.cell (p:=⟨_,_,none⟩) hb2).trans (hc2 k hlt');have hadd:=uZ a b k hle;clear hc1 hc2 h h' hmk
    go_wp2
    go_roundw
    case rel=>exact⟨k+1,oq,by go_num,rfl,by have:=hblk.set_ k (.int .u64 (wq (a-b) k));rwa [kJ]at this,hbel.setCell (oy _) _⟩
    case measure=>simp [intOf];omega
   ·have hz:wq b k=0:=oZ aF h'.lt oq;have hadd:∀W,(callFunc 90 #[.int .u64 (wq a k),.int .u64 0,.int .u64 (boq a b k)]).run Try.prog W =
     .ok (.value (.tuple #[.int .u64 (wq (a-b) k),.int .u64 (boq a b (k+1))])) W:=fun W=>by
     have:=uZ a b k hle W;rw [hz]at this;exact this
    clear hc1 h h' hz hmk
    go_wp2
    go_roundw
    case rel=>exact⟨k+1,oq,by go_num,rfl,by have:=hblk.set_ k (.int .u64 (wq (a-b) k));rwa [kJ]at this,hbel.setCell (oy _) _⟩
    case measure=>simp [intOf];omega
  ·obtain rfl:k=n:=oq
   have hlt2:a-b<B64^k:=by have:=H2.out;omega
   have hb':=hblk;rw [aGb _ hlt2]at hb';have hr:=RW.ofBlk hb' (oy _) hlt2;clear hb' hblk hmk h h';have HL:=ou hlt2;clear hlt2
   go_wp2_with (go_at_call 42;refine (fF _ _ _ _ _ hr oq).mono ?_;rintro e w' ⟨rfl,rfl⟩)
   go_ret
   exact gX rfl hr.toLR hbel
