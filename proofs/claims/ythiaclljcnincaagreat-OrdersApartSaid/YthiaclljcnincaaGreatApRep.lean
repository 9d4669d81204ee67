/- Predicates for the values of package exact, with every length and sign under a name of its own; the contracts of the natural numbers in these words. -/
import Derived.Test.YthiaclljcnincaaGreatApGcd
import Derived.Test.YthiaclljcnincaaGreatApLimb2
import Derived.Deep.RegionHeld3
namespace Go.Proofs.YthiaclljcnincaaGreat
open Go.RowKit Num
def sgn (neg:Bool) (m:Nat):Int:=if neg then -(m:Int) else m
theorem sD (neg:Bool) (m:Nat):(sgn neg m).natAbs=m:=by unfold sgn;cases neg <;> simp
theorem aGg (neg:Bool) (m:Nat):decide (sgn neg m<0)=(neg && decide (0<m)):=by
 unfold sgn;cases neg
 ·simp
 ·rw [vw];simp
theorem oP (z:Int):sgn (decide (z<0)) z.natAbs=z:=by
 unfold sgn
 by_cases h:z<0
 ·rw [decide_eq_true h];simp;omega
 ·rw [decide_eq_false h];simp;omega
theorem aDe {m:Nat}:0<nw m↔0<m:=by
 have:=@bS m;omega
def SameBut (N R:Nat) (w w':World):Prop:=∀b o,b<N→b≠R→w'.cell? ⟨b,o,none⟩=w.cell? ⟨b,o,none⟩
theorem SameBut.refl (N R:Nat) (w:World):SameBut N R w w:=fun _ _ _ _=>rfl
theorem SameBut.store {N R:Nat}{w w':World}(h:SameBut N R w w') (o:Nat) (v:Value):SameBut N R w (w'.setCell ⟨R,o,none⟩ v):=fun b i hbn hr=>by
 rw [qh _ _ _ _ (fun e=>hr (by injection e with e1;exact e1.symm))];exact h b i hbn hr
def noWord:Value→Bool | .int .u64 _=>false|_=>true
def NoWord (cs:Array Value):Prop:=cs.toList.all noWord=true
theorem NoWord.at_ {cs:Array Value}(h:NoWord cs) (i:Nat) (x:Int):cs[i]?≠some (.int .u64 x):=by
 intro e;unfold NoWord at h;rw [vp]at h
 have:=h (.int .u64 x) (by
  have:=Array.mem_of_getElem? e
  exact jz.2 this)
 simp [noWord]at this
theorem LR.grownR {w w':World}{A:Option Addr}{c m R:Nat}{T:TypeId}{cs:Array Value}(h:LR w A c m) (hR:Blk w R T cs) (hn:NoWord cs) (hg:w.grownBy w' (some R)):LR w' A c m:=
 ⟨h.lt,h.cap,fun hn0=>by
   obtain⟨b,o,e,hb,hc⟩:=h.at_ hn0;have hs:=hg.size;have hne:b≠R:=by
    rintro rfl;have h0:=hc 0 hn0;rw [hR.cell]at h0;exact hn.at_ _ _ h0
   exact⟨b,o,e,oq,fun i hi=>(World.cell?_of_block (hg.block b hb (fun e'=>hne (by injection e')))).trans (hc i hi)⟩⟩
structure Own (w w0:World) (N R:Nat) (T:TypeId) (cs:Array Value) (w':World):Prop where
 below:Below w.heap.size w w'
 size:N≤w'.heap.size
 blk:Blk w' R T cs
 same:SameBut N R w0 w'
section
variable {w w0 w1 w2:World}{N R:Nat}{T:TypeId}{cs:Array Value}
theorem Own.drew (h:Own w w0 N R T cs w1):Own w w0 N R T cs w1.drew:=⟨h.below.drew,h.size,h.blk,h.same⟩
theorem Own.drewN (h:Own w w0 N R T cs w1) (k:Nat):Own w w0 N R T cs (w1.drewN k):=⟨cX h.below k,h.size,h.blk,h.same⟩
theorem Own.call (h:Own w w0 N R T cs w1) (hb:Below w1.heap.size w1 w2):Own w w0 N R T cs w2:=
 ⟨h.below.trans (hb.mono h.below.size),qr h.size hb.size,h.blk.below hb h.blk.lt,fun b o hbn hr=>(hb.cell (p:=⟨b,o,none⟩) (show b<w1.heap.size by have:=h.size;omega)).trans (h.same b o hbn hr)⟩
theorem Own.cells (h:Own w w0 N R T cs w1):∀o,w1.cell? ⟨R,o,none⟩=cs[o]?:=fun o=>h.blk.cell o
theorem Own.free (h:Own w w0 N R T cs w1):∀o,w1.frozen? ⟨R,o,none⟩=false:=fun o=>h.blk.frozen o
end
def put2 (w:World) (R:Nat) (a b:Value):World:=(w.setCell ⟨R,0,none⟩ a).setCell ⟨R,1,none⟩ b
theorem aDm (w:World) (R:Nat) (a b:Value):w.grownBy (put2 w R a b) (some R):=by
 unfold put2;exact cY (g:=R) (p:=⟨R,1,none⟩) (cY (g:=R) (p:=⟨R,0,none⟩) (World.grownBy.refl w (some R)) (.inl rfl) a) (.inl rfl) b
theorem Blk.new1 (w:World) (o:Obj) (T:TypeId) (cs:Array Value):Blk ((w.alloc o).alloc (.cells cs T)) (w.heap.size+1) T cs:=by
 have:=Blk.new (w.alloc o) T cs
 rwa [wy]at this
theorem Blk.new2 (w:World) (o o':Obj) (T:TypeId) (cs:Array Value):Blk (((w.alloc o).alloc o').alloc (.cells cs T)) (w.heap.size+2) T cs:=by
 have:=Blk.new ((w.alloc o).alloc o') T cs
 rwa [wy,wy]at this
structure LimR (w:World) (A:Option Addr) (n c m:Nat):Prop where
 len:n=nw m
 lr:LR w A c m
structure IntR (w:World) (b:Bool) (A:Option Addr) (n c:Nat) (z:Int):Prop where
 neg:b=decide (z<0)
 lim:LimR w A n c z.natAbs
section
variable {w w':World}{A:Option Addr}{b:Bool}{n c m R:Nat}{z:Int}{T:TypeId}{cs:Array Value}
theorem LimR.below (h:LimR w A n c m) (hb:Below w.heap.size w w'):LimR w' A n c m:=⟨h.len,h.lr.below hb⟩
theorem LimR.drewN (h:LimR w A n c m) (k:Nat):LimR (w.drewN k) A n c m:=⟨h.len,h.lr.drewN k⟩
theorem LimR.grownR (h:LimR w A n c m) (hR:Blk w R T cs) (hn:NoWord cs) (hg:w.grownBy w' (some R)):LimR w' A n c m:=⟨h.len,h.lr.grownR hR hn hg⟩
theorem LimR.of (h:LR w A c m):LimR w A (nw m) c m:=⟨rfl,h⟩
theorem LimR.nil:LimR w none 0 0 0:=⟨nw_zero.symm,LR.nil⟩
theorem LimR.zero_iff (h:LimR w A n c m):n=0↔m=0:=by rw [h.len];exact bS
theorem LimR.pos_iff (h:LimR w A n c m):0<n↔0<m:=by rw [h.len];exact aDe
theorem IntR.below (h:IntR w b A n c z) (hb:Below w.heap.size w w'):IntR w' b A n c z:=⟨h.neg,h.lim.below hb⟩
theorem IntR.grownR (h:IntR w b A n c z) (hR:Blk w R T cs) (hn:NoWord cs) (hg:w.grownBy w' (some R)):IntR w' b A n c z:=⟨h.neg,h.lim.grownR hR hn hg⟩
end
def yZ (m K:Nat) (w:World) (e:Ending) (w':World):Prop:=(∃A n c,e=.returned (.slice A n c)∧LimR w' A n c m∧n≤K)∧Below w.heap.size w w'
def RetI (z:Int) (K:Nat) (w:World) (e:Ending) (w':World):Prop:=(∃b A n c,e=.returned (.agg #[.bool b,.slice A n c])∧IntR w' b A n c z∧n≤K)∧Below w.heap.size w w'
theorem oL {m K:Nat}{w:World}{e:Ending}{w':World}(h:(∃v,e=.returned v∧LV w' v m)∧Below w.heap.size w w') (hk:nw m≤K):yZ m K w e w':=by
 obtain⟨⟨v,rfl,A,c,rfl,h⟩,hb⟩:=h;exact⟨⟨A,nw m,c,rfl,.of h,hk⟩,hb⟩
section
variable {w:World}{A A':Option Addr}{n n' c c' a b:Nat}
theorem aYp (h:LimR w A n c a) (h':LimR w A' n' c' b) {K:Nat}(hk:n≤K) (hk':n'≤K) (hK:K≤17179869184) :
 Calls Tryz.prog 85 #[.slice A n c,.slice A' n' c'] w (yZ (a+b) (K+1) w):=by
 obtain⟨rfl,h⟩:=h;obtain⟨rfl,h'⟩:=h';exact (aOg A A' c c' a b w h h' oq oq).mono fun e w' q=>oL q (by have:=aYj a b;omega)
theorem aFl (h:LimR w A n c a) (h':LimR w A' n' c' b) (hle:b≤a) (hn:n≤17179869184) :
 Calls Tryz.prog 87 #[.slice A n c,.slice A' n' c'] w (yZ (a-b) n w):=by
 obtain⟨rfl,h⟩:=h;obtain⟨rfl,h'⟩:=h';exact (aIe A A' c c' a b w h h' hle hn).mono fun e w' q=>oL q (bJ (Nat.sub_le _ _))
theorem yO (h:LimR w A n c a) (h':LimR w A' n' c' b) (hn:n≤17179869184) (hn':n'≤17179869184) :
 Calls Tryz.prog 54 #[.slice A n c,.slice A' n' c'] w (yZ (a*b) (n+n') w):=by
 obtain⟨rfl,h⟩:=h;obtain⟨rfl,h'⟩:=h';exact (aKv A A' c c' a b w h h' hn hn').mono fun e w' q=>oL q (aYk _ _)
theorem aWl (h:LimR w A n c a) (h':LimR w A' n' c' b) (hn:n≤8589934592) (hn':n'≤8589934592) :
 Calls Tryz.prog 77 #[.slice A n c,.slice A' n' c'] w (yZ (Nat.gcd a b) (n+n') w):=by
 obtain⟨rfl,h⟩:=h;obtain⟨rfl,h'⟩:=h';refine (aTl A A' c c' a b w h h' hn hn').mono fun e w' q=>oL q ?_;rcases ju a with h0|h0
 ·subst h0;rw [Nat.gcd_zero_left];omega
 ·have:=bJ (Nat.gcd_le_left b h0);omega
theorem aZy (h:LimR w A n c a) (h':LimR w A' n' c' b) (hn:n≤17179869184) (hn':n'≤17179869184) :
 Calls Tryz.prog 86 #[.slice A n c,.slice A' n' c'] w fun e w'=>e=.returned (.int .i64 (gE a b))∧∃n,w'=w.drewN n:=by
 obtain⟨rfl,h⟩:=h;obtain⟨rfl,h'⟩:=h';exact rT A A' c c' a b w h h' oq oq
theorem gS (h:LimR w A n c a) (hn:n≤17179869184) :
 Calls Tryz.prog 78 #[.slice A n c] w fun e w'=>e=.returned (.bool (decide (a=1)))∧w=w':=by
 obtain⟨rfl,h⟩:=h;exact jB A c a w h oq
theorem yQ {x:Nat}(hx:x<18446744073709551616):Calls Tryz.prog 46 #[.int .u64 x] w (yZ x 1 w):=
 (uN x w hx).mono fun e w' q=>oL q (aY (by rw [yx];exact hx))
def bAz (a b K K':Nat) (w:World) (e:Ending) (w':World):Prop:=
 (∃A n c A' n' c',e=.returned (.tuple #[.slice A n c,.slice A' n' c'])∧LimR w' A n c (a/b)∧LimR w' A' n' c' (a % b)∧n≤K∧n'≤K')∧Below w.heap.size w w'
theorem sW (h:LimR w A n c a) (h':LimR w A' n' c' b) (hb0:0<b) (hn:n≤8589934592) (hn':n'≤8589934592) :
 Calls Tryz.prog 79 #[.slice A n c,.slice A' n' c'] w (bAz a b n n' w):=by
 obtain⟨rfl,h⟩:=h;obtain⟨rfl,h'⟩:=h';refine (sV A A' c c' a b w h h' hb0 hn hn').mono fun e w' q=>?_;obtain⟨⟨v1,v2,rfl,⟨A1,c1,rfl,h1⟩,⟨A2,c2,rfl,h2⟩⟩,hb⟩:=q;exact⟨⟨_,_,_,_,_,_,rfl,.of h1,.of h2,bJ (zt _ _),bJ (yp (qg _ hb0))⟩,hb⟩
end
theorem yI (x:Int) (m:Nat):sgn (decide (x<0)) (x.natAbs*m)=x*m:=by
 conv=>rhs;rw [←oP x]
 unfold sgn;split
 ·simp [Int.neg_mul]
 ·simp
theorem RetI.mk {w w0 w2:World}{N R K n:Nat}{T:TypeId}{u v:Value}{b:Bool}{A:Option Addr}{c:Nat}{z:Int}(h:Own w w0 N R T #[u,v] w2) (hw:w.heap.size≤R) (hu:noWord u=true) (hv:noWord v=true) (hl:IntR w2 b A n c z) (hk:n≤K) :
 RetI z K w (.returned (.agg #[.bool b,.slice A n c])) (put2 w2 R (.bool b) (.slice A n c)):=
 ⟨⟨_,_,_,_,rfl,hl.grownR h.blk (by simp [NoWord,hu,hv]) (aDm _ _ _ _),hk⟩,(h.below.setCell hw _).setCell hw _⟩
set_option maxHeartbeats 1000000 in
theorem kD {w:World}{A:Option Addr}{n c m:Nat}(neg:Bool) (h:LimR w A n c m) (_hm:n≤1152921504606846976) :
 Calls Tryz.prog 76 #[.bool neg,.slice A n c] w (RetI (sgn neg m) n w):=by
 have hv:IntR w (neg && decide (0<n)) A n c (sgn neg m):=⟨by rw [aGg,vw];simp [h.pos_iff],by rw [sD];exact h⟩;have HV:=ou hv;clear hv h;cases neg
 ·go_enter Tryz.func76,Tryz.ntmps76
  go_wp2_with fail
  exact bodyPost_ret (v:=.agg #[.bool false,.slice A n c]) (by simp [results,Tryz.results76,go_sem]) rfl ⟨⟨_,_,_,_,rfl,HV.out.below ((Below.refl _ _).alloc (oy _) _),oy _⟩,(Below.refl _ _).alloc (oy _) _⟩
 ·go_enter Tryz.func76,Tryz.ntmps76
  go_wp2_with fail
  exact bodyPost_ret (v:=.agg #[.bool (true && decide (0<n)),.slice A n c]) (by simp [results,Tryz.results76,go_sem]) rfl ⟨⟨_,_,_,_,rfl,HV.out.below ((Below.refl _ _).alloc (oy _) _),oy _⟩,(Below.refl _ _).alloc (oy _) _⟩
