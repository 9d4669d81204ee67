/- Walks: differences and products of package exact's natural numbers. -/
import Derived.Test.YthiaclljcnincaaGreatApLimb1
namespace Go.Proofs.YthiaclljcnincaaGreat
open Go.RowKit Num
set_option maxRecDepth 100000 in
set_option maxHeartbeats 1000000 in
theorem aIe (A A':Option Addr) (c c' a b:Nat) (w:World) (h:LR w A c a) (h':LR w A' c' b) (hle:b≤a) (hb:nw a≤17179869184) :
 Calls Tryz.prog 87 #[.slice A (nw a) c,.slice A' (nw b) c'] w fun e w'=>(∃v,e=.returned v∧LV w' v (a-b))∧Below w.heap.size w w':=by
 have hn0:=mF a;have hmono:nw b≤nw a:=aY (jm hle (dA a));have E0:=ou (zJ a b);have H2:=ou (dA a);have hmk:=fG (nw a) (nw a) oq oq oq;unfold LR at h h';generalize nw a=n at *
 generalize nw b=n' at *
 go_enter Tryz.func87,Tryz.ntmps87
 go_wp2
 go_loopw [6,15] (fun cv i wr=>∃k:Nat,k≤n∧i=.int .i64 k∧cv=.int .u64 (boq a b k)∧Blk wr w.heap.size 94 (dN ((a-b) % B64^k) n)∧Below w.heap.size w wr) (fun _ i _=>n-(intOf i).toNat)
 case atStart=>
  refine⟨0,jx _,rfl,by rw [E0.out];rfl,?_,(Below.refl _ _).alloc (oy _) _⟩;rw [ke,xn];exact Blk.new _ _ _
 case round=>
  obtain⟨k,hk,rfl,rfl,hblk,hbel⟩:=hrel
  by_cases hlt:k<n
  ·obtain⟨b1,o1,rfl,hb1,hc1⟩:=h.at_ oq;have hx:wr.cell? ⟨b1,o1+k,none⟩=some (.int .u64 (wq a k)):=(hbel.cell (p:=⟨_,_,none⟩) hb1).trans (hc1 k hlt);have hout:wr.cell? ⟨w.heap.size,k,none⟩=some (.int .u64 0):=by rw [hblk.cell,wF oq]
   have hfr:wr.frozen? ⟨w.heap.size,k,none⟩=false:=hblk.frozen k
   by_cases hlt':k<n'
   ·obtain⟨b2,o2,rfl,hb2,hc2⟩:=h'.at_ oq;have hy:wr.cell? ⟨b2,o2+k,none⟩=some (.int .u64 (wq b k)):=(hbel.cell (p:=⟨_,_,none⟩) hb2).trans (hc2 k hlt');have hadd:=yN a b k hle;clear hc1 hc2 h h' hmk
    go_wp2
    go_roundw
    case rel=>exact⟨k+1,oq,by go_num,rfl,by have:=hblk.set_ k (.int .u64 (wq (a-b) k));rwa [lS]at this,hbel.setCell (oy _) _⟩
    case measure=>simp [intOf];omega
   ·have hz:wq b k=0:=rH aG h'.lt oq;have hadd:∀W,(callFunc 109 #[.int .u64 (wq a k),.int .u64 0,.int .u64 (boq a b k)]).run Tryz.prog W =
     .ok (.value (.tuple #[.int .u64 (wq (a-b) k),.int .u64 (boq a b (k+1))])) W:=fun W=>by
     have:=yN a b k hle W;rw [hz]at this;exact this
    clear hc1 h h' hz hmk
    go_wp2
    go_roundw
    case rel=>exact⟨k+1,oq,by go_num,rfl,by have:=hblk.set_ k (.int .u64 (wq (a-b) k));rwa [lS]at this,hbel.setCell (oy _) _⟩
    case measure=>simp [intOf];omega
  ·obtain rfl:k=n:=oq
   have hlt2:a-b<B64^k:=by have:=H2.out;omega
   have hb':=hblk;rw [aNe _ hlt2]at hb';have hr:=RW.ofBlk hb' (oy _) hlt2;clear hb' hblk hmk h h';have HL:=ou hlt2;clear hlt2
   go_wp2_with (go_at_call 71;refine (fX _ _ _ _ _ hr oq).mono ?_;rintro e w' ⟨rfl,rfl⟩)
   go_ret
   exact jA rfl hr.toLR hbel
