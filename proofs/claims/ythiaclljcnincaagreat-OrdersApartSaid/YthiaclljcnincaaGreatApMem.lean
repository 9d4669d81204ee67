/- Memory: words in a row, blocks known whole. -/
import Derived.Test.YthiaclljcnincaaGreatApNum
import Derived.WalkKit
import Derived.WalkSpells
import Derived.Laws.BitsAllLaws
import Derived.Deep.Draws
import Derived.Deep.QuietTactic
namespace Go.Proofs.YthiaclljcnincaaGreat
open Go.RowKit Num
def B64:Nat:=18446744073709551616
theorem mK:B64=2^64:=rfl
theorem aG:0<B64:=oz
def wq (m i:Nat):Nat:=wd B64 m i
theorem bN (n i:Nat):wq n i<18446744073709551616:=qg _ oz
def nw (m:Nat):Nat:=nwk 64 m
theorem cJ (m:Nat):Len B64 m (nw m):=by rw [mK];exact aFr (k:=64) oz m
theorem mF (m:Nat):nw m≤bl m:=aYm (k:=64) oz m
theorem kI {m k:Nat}(h:Len B64 m k):nw m=k:=(cJ m).unique aG h
theorem nw_zero:nw 0=0:=kI Len.nil
theorem bS {m:Nat}:nw m=0↔m=0:=(cJ m).zero_iff aG
theorem aY {m n:Nat}(h:m<B64^n):nw m≤n:=by
 refine zw fun hlt=>?_;have h1:=(cJ m).le oq;have:=qb aG (show n≤nw m-1 by omega);omega
theorem dA (m:Nat):m<B64^nw m:=(cJ m).lt
theorem aYk (a b:Nat):nw (a*b)≤nw a+nw b:=by
 refine aY ?_;rw [jt];exact xa (dA a) (dA b)
theorem bJ {a b:Nat}(h:a≤b):nw a≤nw b:=aY (jm h (dA b))
theorem aYj (a b:Nat):nw (a+b)≤max (nw a) (nw b)+1:=by
 refine aY ?_;have h1:=qy (dA a) (qb aG (Nat.le_max_left (nw a) (nw b)));have h2:=qy (dA b) (qb aG (yy (nw a) (nw b)));rw [jj];have:B64^max (nw a) (nw b)*2≤B64^max (nw a) (nw b)*B64:=qn _ oz;omega
def Blk (w:World) (g:Nat) (t:TypeId) (cs:Array Value):Prop:=w.heap[g]?=some (.cells cs t (0,0))
section
variable {w w':World}{g:Nat}{t:TypeId}{cs:Array Value}
theorem Blk.lt (h:Blk w g t cs):g<w.heap.size:=by
 rcases zb g w.heap.size with hlt|hge
 ·exact hlt
 ·unfold Blk at h;rw [zq hge]at h;cases h
theorem Blk.cell (h:Blk w g t cs) (i:Nat):w.cell? ⟨g,i,none⟩=cs[i]?:=cell_of_row w g i cs t (0,0) h
theorem Blk.frozen (h:Blk w g t cs) (i:Nat):w.frozen? ⟨g,i,none⟩=false:=by
 unfold Blk at h;simp [World.frozen?,h]
theorem Blk.new (w:World) (t:TypeId) (cs:Array Value):Blk (w.alloc (.cells cs t)) w.heap.size t cs:=heap_alloc_new w _
theorem Blk.drew (h:Blk w g t cs):Blk w.drew g t cs:=h
theorem Blk.alloc (h:Blk w g t cs) (o:Obj):Blk (w.alloc o) g t cs:=(Below.heap_alloc w o g h.lt).trans h
theorem Blk.set_ (h:Blk w g t cs) (i:Nat) (u:Value):Blk (w.setCell ⟨g,i,none⟩ u) g t (cs.setIfInBounds i u):=by
 unfold Blk at h ⊢;simp [World.setCell,Array.getElem?_modify,h]
theorem Blk.far (h:Blk w g t cs) {p:Addr}(hp:g≠p.block) (u:Value):Blk (w.setCell p u) g t cs:=(Below.heap_setCell w p u g hp).trans h
theorem Blk.below {B:Nat}(h:Blk w g t cs) (hb:Below B w w') (hg:g<B):Blk w' g t cs:=(hb.block g hg).trans h
theorem Blk.grown {row:Option Nat}(h:Blk w g t cs) (hb:w.grownBy w' row) (hg:some g≠row):Blk w' g t cs:=(hb.block g h.lt hg).trans h
end
def dJ (f:Nat→Nat) (n:Nat):Array Value:=(List.range n).map (fun i=>Value.int .u64 (f i)) |>.toArray
theorem oY (f:Nat→Nat) (n:Nat):(dJ f n).size=n:=by simp [dJ]
theorem gP (f:Nat→Nat) (n i:Nat):(dJ f n)[i]?=if i<n then some (.int .u64 (f i)) else none:=by
 unfold dJ
 by_cases h:i<n <;> simp [h]
theorem lH (f:Nat→Nat) {n i:Nat}(h:i<n):(dJ f n)[i]?=some (.int .u64 (f i)):=by rw [gP,og h]
theorem lI (f:Nat→Nat) (n i x:Nat):(dJ f n).setIfInBounds i (.int .u64 x)=dJ (fun j=>if j=i then x else f j) n:=by
 apply jc;intro j;rw [qz,gP,gP,oY]
 by_cases e:i=j
 ·subst e;simp
 ·simp [e,Ne.symm e]
theorem cO {f g:Nat→Nat}{n:Nat}(h:∀i,i<n→f i=g i):dJ f n=dJ g n:=by
 unfold dJ;congr 1;apply List.map_congr_left;intro i hi;rw [h i (by simpa using hi)]
theorem yS (n:Nat):madeCells #[.int .u64 0] n=dJ (fun _=>0) n:=by
 apply Array.toList_inj.1;rw [toList_madeCells_one];simp [dJ,List.map_const']
def dN (m n:Nat):Array Value:=dJ (wq m) n
theorem jH (m:Nat) {n i:Nat}(h:i<n):(dN m n)[i]?=some (.int .u64 (wq m i)):=lH _ h
theorem uC (m n i x:Nat) (hx:x<18446744073709551616):(dN m n).setIfInBounds i (.int .u64 x)=dN (upd B64 m i x) n:=by
 unfold dN;rw [lI];exact cO fun j _=>by unfold wq;rw [aRi aG hx]
theorem lS (s n k:Nat):(dN (s % B64^k) n).setIfInBounds k (.int .u64 (wq s k))=dN (s % B64^(k+1)) n:=by
 rw [uC _ _ _ _ (bN s k)];unfold wq;rw [aRb]
theorem pP (m n:Nat):(dN m n).size=n:=oY _ _
theorem wF {s n k:Nat}(hk:k<n):(dN (s % B64^k) n)[k]?=some (.int .u64 0):=by
 rw [jH _ hk];have:wq (s % B64^k) k=0:=kC (qg _ (oc aG));rw [this];rfl
theorem aKh (n:Nat):madeCells #[.int .u64 0] n=dN 0 n:=by
 rw [yS];exact cO fun j _=>by simp [wq,wd]
def dX (x y t n:Nat):Array Value:=dJ (fun j=>if j<t then wq x j else wq y j) n
theorem fV (x y t n:Nat):(dX x y t n).setIfInBounds t (.int .u64 (wq x t))=dX x y (t+1) n:=by
 unfold dX;rw [lI];refine cO fun j _=>?_
 by_cases h:j=t
 ·subst h;simp
 ·by_cases h2:j<t
  ·rw [oh h,og h2,og oq]
  ·rw [oh h,oh h2,oh oq]
theorem jQ (x y:Nat) {t j n:Nat}(h:t≤j) (hn:j<n):(dX x y t n)[j]?=some (.int .u64 (wq y j)):=by
 unfold dX;rw [lH _ hn,oh oq]
theorem jR (x y t n:Nat) (h:∀j,j<t→wq x j=wq y j):dX x y t n=dN y n:=
 cO fun j _=>by
  by_cases hj:j<t
  ·rw [og hj,h j hj]
  ·rw [oh hj]
theorem tZ (x y t n:Nat) (h:∀j,t≤j→wq y j=wq x j):dX x y t n=dN x n:=
 cO fun j _=>by
  by_cases hj:j<t
  ·rw [og hj]
  ·rw [oh hj,h j oq]
def gT (x t n:Nat):Array Value:=dJ (fun j=>if t≤j then wq x j else 0) n
theorem qR (x t n:Nat):(gT x (t+1) n).setIfInBounds t (.int .u64 (wq x t))=gT x t n:=by
 unfold gT;rw [lI];refine cO fun j _=>?_
 by_cases h:j=t
 ·subst h;simp
 ·by_cases h2:t≤j
  ·rw [oh h,og oq,og h2]
  ·rw [oh h,oh oq,oh h2]
theorem qQ (x:Nat) {t j n:Nat}(h:j<t) (hn:j<n):(gT x t n)[j]?=some (.int .u64 0):=by
 unfold gT;rw [lH _ hn,oh oq];rfl
theorem mI (x n:Nat):gT x n n=dN 0 n:=cO fun j hj=>by rw [oh oq];simp [wq,wd]
theorem qP (x n:Nat):gT x 0 n=dN x n:=cO fun j _=>by rw [og (jx _)]
def RowF (w:World) (g:Nat) (t:TypeId) (f:Nat→Nat) (n:Nat):Prop:=∃cs,Blk w g t cs∧n≤cs.size∧∀i,i<n→cs[i]?=some (.int .u64 (f i))
section
variable {w w':World}{g n:Nat}{t:TypeId}{f:Nat→Nat}
theorem RowF.lt (h:RowF w g t f n):g<w.heap.size:=by obtain⟨cs,h,_⟩:=h;exact h.lt
theorem RowF.cell (h:RowF w g t f n) {i:Nat}(hi:i<n):w.cell? ⟨g,i,none⟩=some (.int .u64 (f i)):=by obtain⟨cs,h,_,hc⟩:=h;rw [h.cell,hc i hi]
theorem RowF.frozen (h:RowF w g t f n) (i:Nat):w.frozen? ⟨g,i,none⟩=false:=by obtain⟨cs,h,_⟩:=h;exact h.frozen i
theorem RowF.drew (h:RowF w g t f n):RowF w.drew g t f n:=h
theorem RowF.drewN (h:RowF w g t f n) (k:Nat):RowF (w.drewN k) g t f n:=h
theorem RowF.far (h:RowF w g t f n) {p:Addr}(hp:g≠p.block) (u:Value):RowF (w.setCell p u) g t f n:=by obtain⟨cs,h,hr⟩:=h;exact⟨cs,h.far hp u,hr⟩
theorem RowF.below {B:Nat}(h:RowF w g t f n) (hb:Below B w w') (hg:g<B):RowF w' g t f n:=by obtain⟨cs,h,hr⟩:=h;exact⟨cs,h.below hb hg,hr⟩
theorem RowF.alloc (h:RowF w g t f n) (o:Obj):RowF (w.alloc o) g t f n:=by obtain⟨cs,h,hr⟩:=h;exact⟨cs,h.alloc o,hr⟩
theorem RowF.congr {f':Nat→Nat}(h:RowF w g t f n) (e:∀i,i<n→f i=f' i):RowF w g t f' n:=by obtain⟨cs,h,hs,hc⟩:=h;exact⟨cs,h,hs,fun i hi=>by rw [hc i hi,e i hi]⟩
theorem RowF.less {m:Nat}(h:RowF w g t f n) (e:m≤n):RowF w g t f m:=by obtain⟨cs,h,hs,hc⟩:=h;exact⟨cs,h,oq,fun i hi=>hc i oq⟩
theorem RowF.set_ (h:RowF w g t f n) (i x:Nat):RowF (w.setCell ⟨g,i,none⟩ (.int .u64 x)) g t (fun j=>if j=i then x else f j) n:=by
 obtain⟨cs,h,hs,hc⟩:=h;refine⟨_,h.set_ i _,by simpa using hs,fun j hj=>?_⟩;rw [qz]
 by_cases e:i=j
 ·subst e;simp;omega
 ·simp [e,Ne.symm e];exact hc j hj
end
def mixq (x y t:Nat):Nat→Nat:=fun j=>if j<t then wq x j else wq y j
theorem RowF.mix {w:World}{g n t x y:Nat}{T:TypeId}(h:RowF w g T (mixq x y t) n):RowF (w.setCell ⟨g,t,none⟩ (.int .u64 (wq x t))) g T (mixq x y (t+1)) n:=
 (h.set_ t (wq x t)).congr fun j _=>by
   unfold mixq
   by_cases h:j=t
   ·subst h;simp
   ·by_cases h2:j<t
    ·rw [oh h,og h2,og oq]
    ·rw [oh h,oh h2,oh oq]
theorem aTu (x y t:Nat):mixq x y t t=wq y t:=by unfold mixq;rw [oh oq]
theorem aCw {x y t:Nat}(h:∀j,j<t→wq x j=wq y j) (i:Nat):wq y i=mixq x y t i:=by
 unfold mixq;split
 ·rename_i hi;rw [h i hi]
 ·rfl
theorem aNb {x y t:Nat}(h:∀j,t≤j→wq y j=wq x j) (i:Nat):mixq x y t i=wq x i:=by
 unfold mixq;split
 ·rfl
 ·rw [h i oq]
structure RW (w:World) (A:Option Addr) (n c m:Nat):Prop where
 lt:m<B64^n
 cap:n≤c
 at_:0<n→∃b o,A=some ⟨b,o,none⟩∧b<w.heap.size∧∀i,i<n→w.cell? ⟨b,o+i,none⟩=some (.int .u64 (wq m i))
def LR (w:World) (A:Option Addr) (c m:Nat):Prop:=RW w A (nw m) c m
def LV (w:World) (v:Value) (m:Nat):Prop:=∃A c,v=.slice A (nw m) c∧LR w A c m
section
variable {w w':World}{A:Option Addr}{n c m:Nat}
theorem RW.keep (h:RW w A n c m) (hs:w.heap.size≤w'.heap.size) (hk:∀b o,b<w.heap.size→w'.cell? ⟨b,o,none⟩=w.cell? ⟨b,o,none⟩):RW w' A n c m:=
 ⟨h.lt,h.cap,fun hn=>by
   obtain⟨b,o,e,hb,hc⟩:=h.at_ hn
   exact⟨b,o,e,oq,fun i hi=>(hk _ _ hb).trans (hc i hi)⟩⟩
theorem RW.below (h:RW w A n c m) (hb:Below w.heap.size w w'):RW w' A n c m:=h.keep hb.size fun _ _ h=>hb.cell (p:=⟨_,_,none⟩) h
theorem RW.norm (h:RW w A n c m) (ht:0<n→wq m (n-1)≠0):nw m=n:=kI (Len.of_top h.lt ht)
theorem RW.toLR (h:RW w A n c m):LR w A c m:=by
 have hk:=aY h.lt;have hc:=h.cap
 exact⟨dA m,oq,fun hn=>by
  obtain⟨b,o,e,hb,hcell⟩:=h.at_ oq
  exact⟨b,o,e,hb,fun i hi=>hcell i oq⟩⟩
theorem LR.lv (h:LR w A c m):LV w (.slice A (nw m) c) m:=⟨A,c,rfl,h⟩
theorem LR.nil:LR w none 0 0:=⟨dA 0,by rw [nw_zero];omega,fun h=>by rw [nw_zero]at h;omega⟩
theorem LV.nil:LV w (.slice none 0 0) 0:=⟨none,0,by rw [nw_zero],LR.nil⟩
theorem LR.below (h:LR w A c m) (hb:Below w.heap.size w w'):LR w' A c m:=RW.below h hb
theorem LV.below {v:Value}(h:LV w v m) (hb:Below w.heap.size w w'):LV w' v m:=by
 obtain⟨A,c,e,h⟩:=h;exact⟨A,c,e,h.below hb⟩
theorem RW.low (h:RW w A n c m) (ht:wq m (n-1)=0) (hn:0<n):RW w A (n-1) c m:=by
 obtain⟨b,o,e,hb,hc⟩:=h.at_ hn;refine⟨vP aG (by rw [xy hn];exact h.lt) ht,by have:=h.cap;omega,fun hn'=>⟨b,o,e,hb,fun i hi=>hc i oq⟩⟩
end
theorem cX {B:Nat}{a w:World}(h:Below B a w) (n:Nat):Below B a (w.drewN n):=⟨h.os,h.tape,h.output,h.size,h.block⟩
theorem RW.drewN {w:World}{A:Option Addr}{n c m:Nat}(h:RW w A n c m) (k:Nat):RW (w.drewN k) A n c m:=⟨h.lt,h.cap,h.at_⟩
theorem LR.drewN {w:World}{A:Option Addr}{c m:Nat}(h:LR w A c m) (k:Nat):LR (w.drewN k) A c m:=RW.drewN h k
theorem aJj {P:Program}{f:FuncId}{args:Array Value}{w:World}{a n:Nat}{v:Value}
 (h:Calls P f args (w.drewN (a+n)) fun e w'=>e=.returned v∧∃m,w'=(w.drewN (a+n)).drewN m) :
 Calls P f args (w.drewN (a+n)) fun e w''=>e=.returned v∧∃m,w''=w.drewN (a+m):=
 h.mono fun _ _ ⟨he,m,hm⟩=>⟨he,n+m,by rw [hm,World.drewN_drewN,xr]⟩
theorem dn2 (w:World) (a b:Nat):∃n,(w.drewN a).drewN b=w.drewN n:=⟨_,World.drewN_drewN _ _ _⟩
theorem dn3 (w:World) (a b c:Nat):∃n,((w.drewN a).drewN b).drewN c=w.drewN n:=⟨_,by rw [World.drewN_drewN,World.drewN_drewN]⟩
theorem yF {k:IntKind}{a b:Int}(h:a=b):Ending.returned (.int k a)=.returned (.int k b):=by rw [h]
theorem jA {B:Nat}{w w':World}{A:Option Addr}{c m n:Nat}(hn:nw m=n) (h:LR w' A c m) (hb:Below B w w') :
 (∃v,Ending.returned (.slice A n c)=Ending.returned v∧LV w' v m)∧Below B w w':=⟨⟨_,rfl,A,c,by rw [hn],h⟩,hb⟩
def lenOf:Value→Nat | .slice _ n _=>n|_=>0
theorem Blk.owns {w:World}{g m n N base:Nat}{t:TypeId}(h:Blk w g t (dN m N)) (hb:base≤g) (hn:n≤N) (hN:N≤maxLen) :
 w.ownsRow base t 1 (.slice (some ⟨g,0,none⟩) n N) n ((dN m N).toList.take n):=
 ⟨by rw [kz,ja,pP];omega,.inr ⟨g,N,_,rfl,hb,h,hn,hN,by rw [pP,js],by rw [js]⟩⟩
theorem aKg (m:Nat) {n N i:Nat}(hi:i<n) (hn:n≤N):((dN m N).toList.take n)[i]?=some (.int .u64 (wq m i)):=by
 rw [vv,og hi,jk,jH _ oq]
theorem iX (m:Nat) {n N:Nat}(hn:n≤N):((dN m N).toList.take n).length=n:=by
 rw [kz,ja,pP];omega
theorem RW.ofBlk {w:World}{g m n N:Nat}{t:TypeId}(h:Blk w g t (dN m N)) (hn:n≤N) (hm:m<B64^n):RW w (some ⟨g,0,none⟩) n N m:=
 ⟨hm,hn,fun _=>⟨g,0,rfl,h.lt,fun i hi=>by rw [qc,h.cell,jH _ oq]⟩⟩
theorem gX (U j i:Nat):wq (U/B64^j) i=wq U (j+i):=jZ U j i
theorem RW.ofRowAt {w:World}{g U j n N c:Nat}{t:TypeId}(h:RowF w g t (wq U) N) (hn:j+n≤N) (hc:n≤c) (hm:U/B64^j<B64^n):RW w (some ⟨g,j,none⟩) n c (U/B64^j):=
 ⟨hm,hc,fun _=>⟨g,j,rfl,h.lt,fun i hi=>by rw [h.cell oq,gX]⟩⟩
theorem mG {a w:World}(h:Below a.heap.size a w) (row:Option Nat):a.grownBy w row:=⟨h.os,h.tape,h.output,h.size,fun i hi _=>h.block i hi⟩
theorem jP {a w w':World}{row:Option Nat}(h:a.grownBy w row) (k:w.grownBy w' row):a.grownBy w' row:=
 ⟨k.os.trans h.os,k.tape.trans h.tape,k.output.trans h.output,qr h.size k.size,fun i hi hn=>(k.block i (qy hi h.size) hn).trans (h.block i hi hn)⟩
theorem tN {a w:World}{row:Option Nat}(h:a.grownBy w row) (n:Nat):a.grownBy (w.drewN n) row:=⟨h.os,h.tape,h.output,h.size,h.block⟩
theorem aIr {a w:World}{row:Option Nat}(h:a.grownBy w row):a.grownBy w.drew row:=⟨h.os,h.tape,h.output,h.size,h.block⟩
theorem cY {a w:World}{g:Nat}(h:a.grownBy w (some g)) {p:Addr}(hp:p.block=g∨a.heap.size≤p.block) (u:Value):a.grownBy (w.setCell p u) (some g):=
 ⟨h.os,h.tape,h.output,by simpa [World.setCell] using h.size,fun i hi hne=>(Below.heap_setCell w p u i (by
   rintro rfl;rcases hp with hp|hp
   ·exact hne (by rw [hp])
   ·omega)).trans (h.block i hi hne)⟩
theorem RW.setFar {w:World}{A:Option Addr}{n c m:Nat}(h:RW w A n c m) {p:Addr}(hA:∀b o,A=some ⟨b,o,none⟩→b≠p.block) (u:Value):RW (w.setCell p u) A n c m:=
 ⟨h.lt,h.cap,fun hn=>by
   obtain⟨b,o,e,hb,hc⟩:=h.at_ hn
   exact⟨b,o,e,by simpa using hb,fun i hi=>(qh _ _ _ _ (fun e'=>hA b o e (by rw [e']))).trans (hc i hi)⟩⟩
theorem fT {w w':World}{base size n:Nat}{e:TypeId}{v:Value}{xs:List Value}(h:w.ownsRow base e size v n xs) (hb:Below w.heap.size w w'):w'.ownsRow base e size v n xs:=by
 obtain⟨h1,h2⟩:=h;refine⟨h1,?_⟩;rcases h2 with h2|⟨g,cap,cur,hv,hg,hh,r⟩
 ·exact .inl h2
 ·have hlt:g<w.heap.size:=by
   rcases zb g w.heap.size with hlt|hge
   ·exact hlt
   ·rw [zq hge]at hh;cases hh
  exact .inr ⟨g,cap,cur,hv,hg,(hb.block g hlt).trans hh,r⟩
theorem aNy {w:World}{base n:Nat}{t:TypeId}{v:Value}{xs:List Value}{f:Nat→Nat}(h:w.ownsRow base t 1 v n xs) (hn:0<n) (hx:∀i,i<n→xs[i]?=some (.int .u64 (f i))) :
 ∃g cap,v=.slice (some ⟨g,0,none⟩) n cap∧base≤g∧n≤cap∧RowF w g t f n:=by
 obtain⟨h1,h2⟩:=h;rcases h2 with ⟨_,h2⟩|⟨g,cap,cur,hv,hg,hh,h4,h5,h6,h7⟩
 ·omega
 ·refine⟨g,cap,hv,hg,h4,cur,hh,oq,fun i hi=>?_⟩;have:=hx i hi;rw [←h7,js,vv,og hi,jk]at this;exact this
def oB (m n:Nat):List Value:=(List.range n).map fun i=>.int .u64 (wq m i)
theorem jC (m n:Nat):(oB m n).length=n:=by simp [oB]
theorem vO (m:Nat) {n j:Nat}(h:j<n):(oB m n)[j]?=some (.int .u64 (wq m j)):=by simp [oB,h]
theorem aIa (m n:Nat):∀u∈oB m n,u.oneCell'=true:=by
 intro u hu;simp only [oB,xh]at hu;obtain⟨_,_,rfl⟩:=hu;rfl
theorem aAl {w:World}{b o n m:Nat}(hc:∀i,i<n→w.cell? ⟨b,o+i,none⟩=some (.int .u64 (wq m i))):∀j u,(oB m n)[j]?=some u→w.cell? ((⟨b,o,none⟩:Addr).add j)=some u:=by
 intro j u hj
 by_cases h:j<n
 ·rw [vO _ h]at hj;rw [←hj,←hc j h];unfold Addr.add
  by_cases e:j=0
  ·subst e;rfl
  ·rw [oh e]
 ·rw [ob (by rw [jC];omega)]at hj;cases hj
theorem RW.grown {w w':World}{A:Option Addr}{n c m g:Nat}(h:RW w A n c m) (hg:w.grownBy w' (some g)) (hA:∀b o,A=some ⟨b,o,none⟩→b≠g):RW w' A n c m:=
 ⟨h.lt,h.cap,fun hn=>by
   obtain⟨b,o,e,hb,hc⟩:=h.at_ hn;have hs:=hg.size
   exact⟨b,o,e,oq,fun i hi=>(World.cell?_of_block (hg.block b hb (fun e'=>hA b o e (by injection e')))).trans (hc i hi)⟩⟩
theorem RW.ofOwn {w:World}{base g m n N:Nat}{t:TypeId}{xs:List Value}(h:w.ownsRow base t 1 (.slice (some ⟨g,0,none⟩) n N) n xs) (hg:g<w.heap.size) (hN:n≤N) (hm:m<B64^n) (hx:∀i,i<n→xs[i]?=some (.int .u64 (wq m i))):RW w (some ⟨g,0,none⟩) n N m:=
 ⟨hm,hN,fun _=>⟨g,0,rfl,hg,fun i hi=>by rw [qc,h.cellAt i oq,hx i hi]⟩⟩
theorem aZi (s:Nat) {k i:Nat}(h:i<k):wq (s % B64^k) i=wq s i:=nI aG s k i h
theorem aNe (s:Nat) {k:Nat}(h:s<B64^k):s % B64^k=s:=oi h
