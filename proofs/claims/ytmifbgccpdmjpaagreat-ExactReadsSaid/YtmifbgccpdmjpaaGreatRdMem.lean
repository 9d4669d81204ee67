/- Memory: words in a row, blocks known whole. -/
import Derived.Test.YtmifbgccpdmjpaaGreatRdNum
import Derived.WalkKit
import Derived.WalkSpells
import Derived.Laws.BitsAllLaws
import Derived.Deep.Draws
import Derived.Deep.QuietTactic
namespace Go.Proofs.YtmifbgccpdmjpaaGreat
open Go.RowKit Num
def B64:Nat:=18446744073709551616
theorem kI:B64=2^64:=rfl
theorem aH:0<B64:=oz
def wq (m i:Nat):Nat:=wd B64 m i
theorem bL (n i:Nat):wq n i<18446744073709551616:=qt _ oz
def nw (m:Nat):Nat:=nwk 64 m
theorem cF (m:Nat):Len B64 m (nw m):=by rw [kI];exact aEm (k:=64) oz m
theorem mB (m:Nat):nw m≤bl m:=aSr (k:=64) oz m
theorem jD {m k:Nat}(h:Len B64 m k):nw m=k:=(cF m).unique aH h
theorem nw_zero:nw 0=0:=jD Len.nil
theorem bF {m:Nat}:nw m=0↔m=0:=(cF m).zero_iff aH
theorem aQ {m n:Nat}(h:m<B64^n):nw m≤n:=by
 refine jl fun hlt=>?_;have h1:=(cF m).le oq;have:=ql aH (show n≤nw m-1 by omega);omega
theorem dC (m:Nat):m<B64^nw m:=(cF m).lt
theorem aSo (a b:Nat):nw (a*b)≤nw a+nw b:=by
 refine aQ ?_;rw [jc];exact Nat.mul_lt_mul'' (dC a) (dC b)
theorem bI {a b:Nat}(h:a≤b):nw a≤nw b:=aQ (ji h (dC b))
theorem aSn (a b:Nat):nw (a+b)≤max (nw a) (nw b)+1:=by
 refine aQ ?_;have h1:=qu (dC a) (ql aH (Nat.le_max_left (nw a) (nw b)));have h2:=qu (dC b) (ql aH (Nat.le_max_right (nw a) (nw b)));rw [qi];have:B64^max (nw a) (nw b)*2≤B64^max (nw a) (nw b)*B64:=jq _ oz;omega
def Blk (w:World) (g:Nat) (t:TypeId) (cs:Array Value):Prop:=w.heap[g]?=some (.cells cs t (0,0))
section
variable {w w':World}{g:Nat}{t:TypeId}{cs:Array Value}
theorem Blk.lt (h:Blk w g t cs):g<w.heap.size:=by
 rcases zo g w.heap.size with hlt|hge
 ·exact hlt
 ·unfold Blk at h;rw [jb hge]at h;cases h
theorem Blk.cell (h:Blk w g t cs) (i:Nat):w.cell? ⟨g,i,none⟩=cs[i]?:=cell_of_row w g i cs t (0,0) h
theorem Blk.frozen (h:Blk w g t cs) (i:Nat):w.frozen? ⟨g,i,none⟩=false:=by
 unfold Blk at h;simp [World.frozen?,h]
theorem Blk.new (w:World) (t:TypeId) (cs:Array Value):Blk (w.alloc (.cells cs t)) w.heap.size t cs:=heap_alloc_new w _
theorem Blk.drew (h:Blk w g t cs):Blk w.drew g t cs:=h
theorem Blk.alloc (h:Blk w g t cs) (o:Obj):Blk (w.alloc o) g t cs:=(Below.heap_alloc w o g h.lt).trans h
theorem Blk.set_ (h:Blk w g t cs) (i:Nat) (u:Value):Blk (w.setCell ⟨g,i,none⟩ u) g t (cs.setIfInBounds i u):=by
 unfold Blk at h ⊢;simp [World.setCell,Array.getElem?_modify,h]
theorem Blk.far (h:Blk w g t cs) {p:Addr}(hp:g≠p.block) (u:Value):Blk (w.setCell p u) g t cs:=(Below.heap_setCell w p u g hp).trans h
theorem Blk.below {B:Nat}(h:Blk w g t cs) (hb:Below B w w') (hg:g<B):Blk w' g t cs:=(hb.block g hg).trans h
theorem Blk.grown {row:Option Nat}(h:Blk w g t cs) (hb:w.grownBy w' row) (hg:some g≠row):Blk w' g t cs:=(hb.block g h.lt hg).trans h
end
def dH (f:Nat→Nat) (n:Nat):Array Value:=(List.range n).map (fun i=>Value.int .u64 (f i)) |>.toArray
theorem oV (f:Nat→Nat) (n:Nat):(dH f n).size=n:=by simp [dH]
theorem gG (f:Nat→Nat) (n i:Nat):(dH f n)[i]?=if i<n then some (.int .u64 (f i)) else none:=by
 unfold dH
 by_cases h:i<n <;> simp [h]
theorem lF (f:Nat→Nat) {n i:Nat}(h:i<n):(dH f n)[i]?=some (.int .u64 (f i)):=by rw [gG,om h]
theorem lG (f:Nat→Nat) (n i x:Nat):(dH f n).setIfInBounds i (.int .u64 x)=dH (fun j=>if j=i then x else f j) n:=by
 apply vv;intro j;rw [qg,gG,gG,oV]
 by_cases e:i=j
 ·subst e;simp
 ·simp [e,Ne.symm e]
theorem cK {f g:Nat→Nat}{n:Nat}(h:∀i,i<n→f i=g i):dH f n=dH g n:=by
 unfold dH;congr 1;apply List.map_congr_left;intro i hi;rw [h i (by simpa using hi)]
theorem xW (n:Nat):madeCells #[.int .u64 0] n=dH (fun _=>0) n:=by
 apply Array.toList_inj.1;rw [toList_madeCells_one];simp [dH,List.map_const']
def dO (m n:Nat):Array Value:=dH (wq m) n
theorem jH (m:Nat) {n i:Nat}(h:i<n):(dO m n)[i]?=some (.int .u64 (wq m i)):=lF _ h
theorem tO (m n i x:Nat) (hx:x<18446744073709551616):(dO m n).setIfInBounds i (.int .u64 x)=dO (upd B64 m i x) n:=by
 unfold dO;rw [lG];exact cK fun j _=>by unfold wq;rw [aMu aH hx]
theorem lR (s n k:Nat):(dO (s % B64^k) n).setIfInBounds k (.int .u64 (wq s k))=dO (s % B64^(k+1)) n:=by
 rw [tO _ _ _ _ (bL s k)];unfold wq;rw [aMp]
theorem pN (m n:Nat):(dO m n).size=n:=oV _ _
theorem wB {s n k:Nat}(hk:k<n):(dO (s % B64^k) n)[k]?=some (.int .u64 0):=by
 rw [jH _ hk];have:wq (s % B64^k) k=0:=kC (qt _ (oc aH));rw [this];rfl
theorem aHl (n:Nat):madeCells #[.int .u64 0] n=dO 0 n:=by
 rw [xW];exact cK fun j _=>by simp [wq,wd]
def dY (x y t n:Nat):Array Value:=dH (fun j=>if j<t then wq x j else wq y j) n
theorem fS (x y t n:Nat):(dY x y t n).setIfInBounds t (.int .u64 (wq x t))=dY x y (t+1) n:=by
 unfold dY;rw [lG];refine cK fun j _=>?_
 by_cases h:j=t
 ·subst h;simp
 ·by_cases h2:j<t
  ·rw [og h,om h2,om oq]
  ·rw [og h,og h2,og oq]
theorem jP (x y:Nat) {t j n:Nat}(h:t≤j) (hn:j<n):(dY x y t n)[j]?=some (.int .u64 (wq y j)):=by
 unfold dY;rw [lF _ hn,og oq]
theorem jQ (x y t n:Nat) (h:∀j,j<t→wq x j=wq y j):dY x y t n=dO y n:=
 cK fun j _=>by
  by_cases hj:j<t
  ·rw [om hj,h j hj]
  ·rw [og hj]
theorem tN (x y t n:Nat) (h:∀j,t≤j→wq y j=wq x j):dY x y t n=dO x n:=
 cK fun j _=>by
  by_cases hj:j<t
  ·rw [om hj]
  ·rw [og hj,h j oq]
def gM (x t n:Nat):Array Value:=dH (fun j=>if t≤j then wq x j else 0) n
theorem qR (x t n:Nat):(gM x (t+1) n).setIfInBounds t (.int .u64 (wq x t))=gM x t n:=by
 unfold gM;rw [lG];refine cK fun j _=>?_
 by_cases h:j=t
 ·subst h;simp
 ·by_cases h2:t≤j
  ·rw [og h,om oq,om h2]
  ·rw [og h,og oq,og h2]
theorem qQ (x:Nat) {t j n:Nat}(h:j<t) (hn:j<n):(gM x t n)[j]?=some (.int .u64 0):=by
 unfold gM;rw [lF _ hn,og oq];rfl
theorem mE (x n:Nat):gM x n n=dO 0 n:=cK fun j hj=>by rw [og oq];simp [wq,wd]
theorem qP (x n:Nat):gM x 0 n=dO x n:=cK fun j _=>by rw [om (jg _)]
def RowF (w:World) (g:Nat) (t:TypeId) (f:Nat→Nat) (n:Nat):Prop:=∃cs,Blk w g t cs∧n≤cs.size∧∀i,i<n→cs[i]?=some (.int .u64 (f i))
section
variable {w w':World}{g n:Nat}{t:TypeId}{f:Nat→Nat}
theorem RowF.lt (h:RowF w g t f n):g<w.heap.size:=by obtain⟨cs,h,_⟩:=h;exact h.lt
theorem RowF.cell (h:RowF w g t f n) {i:Nat}(hi:i<n):w.cell? ⟨g,i,none⟩=some (.int .u64 (f i)):=by obtain⟨cs,h,_,hc⟩:=h;rw [h.cell,hc i hi]
theorem RowF.frozen (h:RowF w g t f n) (i:Nat):w.frozen? ⟨g,i,none⟩=false:=by obtain⟨cs,h,_⟩:=h;exact h.frozen i
theorem RowF.drew (h:RowF w g t f n):RowF w.drew g t f n:=h
theorem RowF.drewN (h:RowF w g t f n) (k:Nat):RowF (w.drewN k) g t f n:=h
theorem RowF.far (h:RowF w g t f n) {p:Addr}(hp:g≠p.block) (u:Value):RowF (w.setCell p u) g t f n:=by obtain⟨cs,h,hr⟩:=h;exact⟨cs,h.far hp u,hr⟩
theorem RowF.below {B:Nat}(h:RowF w g t f n) (hb:Below B w w') (hg:g<B):RowF w' g t f n:=by obtain⟨cs,h,hr⟩:=h;exact⟨cs,h.below hb hg,hr⟩
theorem RowF.alloc (h:RowF w g t f n) (o:Obj):RowF (w.alloc o) g t f n:=by obtain⟨cs,h,hr⟩:=h;exact⟨cs,h.alloc o,hr⟩
theorem RowF.congr {f':Nat→Nat}(h:RowF w g t f n) (e:∀i,i<n→f i=f' i):RowF w g t f' n:=by obtain⟨cs,h,hs,hc⟩:=h;exact⟨cs,h,hs,fun i hi=>by rw [hc i hi,e i hi]⟩
theorem RowF.less {m:Nat}(h:RowF w g t f n) (e:m≤n):RowF w g t f m:=by obtain⟨cs,h,hs,hc⟩:=h;exact⟨cs,h,oq,fun i hi=>hc i oq⟩
theorem RowF.set_ (h:RowF w g t f n) (i x:Nat):RowF (w.setCell ⟨g,i,none⟩ (.int .u64 x)) g t (fun j=>if j=i then x else f j) n:=by
 obtain⟨cs,h,hs,hc⟩:=h;refine⟨_,h.set_ i _,by simpa using hs,fun j hj=>?_⟩;rw [qg]
 by_cases e:i=j
 ·subst e;simp;omega
 ·simp [e,Ne.symm e];exact hc j hj
end
def mixq (x y t:Nat):Nat→Nat:=fun j=>if j<t then wq x j else wq y j
theorem RowF.mix {w:World}{g n t x y:Nat}{T:TypeId}(h:RowF w g T (mixq x y t) n):RowF (w.setCell ⟨g,t,none⟩ (.int .u64 (wq x t))) g T (mixq x y (t+1)) n:=
 (h.set_ t (wq x t)).congr fun j _=>by
   unfold mixq
   by_cases h:j=t
   ·subst h;simp
   ·by_cases h2:j<t
    ·rw [og h,om h2,om oq]
    ·rw [og h,og h2,og oq]
theorem aOo (x y t:Nat):mixq x y t t=wq y t:=by unfold mixq;rw [og oq]
theorem aBq {x y t:Nat}(h:∀j,j<t→wq x j=wq y j) (i:Nat):wq y i=mixq x y t i:=by
 unfold mixq;split
 ·rename_i hi;rw [h i hi]
 ·rfl
theorem aKj {x y t:Nat}(h:∀j,t≤j→wq y j=wq x j) (i:Nat):mixq x y t i=wq x i:=by
 unfold mixq;split
 ·rfl
 ·rw [h i oq]
structure RW (w:World) (A:Option Addr) (n c m:Nat):Prop where
 lt:m<B64^n
 cap:n≤c
 at_:0<n→∃b o,A=some ⟨b,o,none⟩∧b<w.heap.size∧∀i,i<n→w.cell? ⟨b,o+i,none⟩=some (.int .u64 (wq m i))
def LR (w:World) (A:Option Addr) (c m:Nat):Prop:=RW w A (nw m) c m
def LV (w:World) (v:Value) (m:Nat):Prop:=∃A c,v=.slice A (nw m) c∧LR w A c m
section
variable {w w':World}{A:Option Addr}{n c m:Nat}
theorem RW.keep (h:RW w A n c m) (hs:w.heap.size≤w'.heap.size) (hk:∀b o,b<w.heap.size→w'.cell? ⟨b,o,none⟩=w.cell? ⟨b,o,none⟩):RW w' A n c m:=
 ⟨h.lt,h.cap,fun hn=>by
   obtain⟨b,o,e,hb,hc⟩:=h.at_ hn
   exact⟨b,o,e,oq,fun i hi=>(hk _ _ hb).trans (hc i hi)⟩⟩
theorem RW.below (h:RW w A n c m) (hb:Below w.heap.size w w'):RW w' A n c m:=h.keep hb.size fun _ _ h=>hb.cell (p:=⟨_,_,none⟩) h
theorem RW.norm (h:RW w A n c m) (ht:0<n→wq m (n-1)≠0):nw m=n:=jD (Len.of_top h.lt ht)
theorem RW.toLR (h:RW w A n c m):LR w A c m:=by
 have hk:=aQ h.lt;have hc:=h.cap
 exact⟨dC m,oq,fun hn=>by
  obtain⟨b,o,e,hb,hcell⟩:=h.at_ oq
  exact⟨b,o,e,hb,fun i hi=>hcell i oq⟩⟩
theorem LR.lv (h:LR w A c m):LV w (.slice A (nw m) c) m:=⟨A,c,rfl,h⟩
theorem LR.nil:LR w none 0 0:=⟨dC 0,by rw [nw_zero];omega,fun h=>by rw [nw_zero]at h;omega⟩
theorem LV.nil:LV w (.slice none 0 0) 0:=⟨none,0,by rw [nw_zero],LR.nil⟩
theorem LR.below (h:LR w A c m) (hb:Below w.heap.size w w'):LR w' A c m:=RW.below h hb
theorem LV.below {v:Value}(h:LV w v m) (hb:Below w.heap.size w w'):LV w' v m:=by
 obtain⟨A,c,e,h⟩:=h;exact⟨A,c,e,h.below hb⟩
theorem RW.low (h:RW w A n c m) (ht:wq m (n-1)=0) (hn:0<n):RW w A (n-1) c m:=by
 obtain⟨b,o,e,hb,hc⟩:=h.at_ hn;refine⟨vK aH (by rw [xb hn];exact h.lt) ht,by have:=h.cap;omega,fun hn'=>⟨b,o,e,hb,fun i hi=>hc i oq⟩⟩
end
theorem cS {B:Nat}{a w:World}(h:Below B a w) (n:Nat):Below B a (w.drewN n):=⟨h.os,h.tape,h.output,h.size,h.block⟩
theorem RW.drewN {w:World}{A:Option Addr}{n c m:Nat}(h:RW w A n c m) (k:Nat):RW (w.drewN k) A n c m:=⟨h.lt,h.cap,h.at_⟩
theorem LR.drewN {w:World}{A:Option Addr}{c m:Nat}(h:LR w A c m) (k:Nat):LR (w.drewN k) A c m:=RW.drewN h k
theorem aHf {P:Program}{f:FuncId}{args:Array Value}{w:World}{a n:Nat}{v:Value}
 (h:Calls P f args (w.drewN (a+n)) fun e w'=>e=.returned v∧∃m,w'=(w.drewN (a+n)).drewN m) :
 Calls P f args (w.drewN (a+n)) fun e w''=>e=.returned v∧∃m,w''=w.drewN (a+m):=
 h.mono fun _ _ ⟨he,m,hm⟩=>⟨he,n+m,by rw [hm,World.drewN_drewN,yv]⟩
theorem dn2 (w:World) (a b:Nat):∃n,(w.drewN a).drewN b=w.drewN n:=⟨_,World.drewN_drewN _ _ _⟩
theorem dn3 (w:World) (a b c:Nat):∃n,((w.drewN a).drewN b).drewN c=w.drewN n:=⟨_,by rw [World.drewN_drewN,World.drewN_drewN]⟩
theorem xK {k:IntKind}{a b:Int}(h:a=b):Ending.returned (.int k a)=.returned (.int k b):=by rw [h]
theorem iX {B:Nat}{w w':World}{A:Option Addr}{c m n:Nat}(hn:nw m=n) (h:LR w' A c m) (hb:Below B w w') :
 (∃v,Ending.returned (.slice A n c)=Ending.returned v∧LV w' v m)∧Below B w w':=⟨⟨_,rfl,A,c,by rw [hn],h⟩,hb⟩
def lenOf:Value→Nat | .slice _ n _=>n|_=>0
theorem Blk.owns {w:World}{g m n N base:Nat}{t:TypeId}(h:Blk w g t (dO m N)) (hb:base≤g) (hn:n≤N) (hN:N≤maxLen) :
 w.ownsRow base t 1 (.slice (some ⟨g,0,none⟩) n N) n ((dO m N).toList.take n):=
 ⟨by rw [ja,zr,pN];omega,.inr ⟨g,N,_,rfl,hb,h,hn,hN,by rw [pN,zt],by rw [zt]⟩⟩
theorem aHk (m:Nat) {n N i:Nat}(hi:i<n) (hn:n≤N):((dO m N).toList.take n)[i]?=some (.int .u64 (wq m i)):=by
 rw [zu,om hi,zk,jH _ oq]
theorem iU (m:Nat) {n N:Nat}(hn:n≤N):((dO m N).toList.take n).length=n:=by
 rw [ja,zr,pN];omega
theorem RW.ofBlk {w:World}{g m n N:Nat}{t:TypeId}(h:Blk w g t (dO m N)) (hn:n≤N) (hm:m<B64^n):RW w (some ⟨g,0,none⟩) n N m:=
 ⟨hm,hn,fun _=>⟨g,0,rfl,h.lt,fun i hi=>by rw [qe,h.cell,jH _ oq]⟩⟩
theorem gQ (U j i:Nat):wq (U/B64^j) i=wq U (j+i):=jZ U j i
theorem RW.ofRowAt {w:World}{g U j n N c:Nat}{t:TypeId}(h:RowF w g t (wq U) N) (hn:j+n≤N) (hc:n≤c) (hm:U/B64^j<B64^n):RW w (some ⟨g,j,none⟩) n c (U/B64^j):=
 ⟨hm,hc,fun _=>⟨g,j,rfl,h.lt,fun i hi=>by rw [h.cell oq,gQ]⟩⟩
theorem mC {a w:World}(h:Below a.heap.size a w) (row:Option Nat):a.grownBy w row:=⟨h.os,h.tape,h.output,h.size,fun i hi _=>h.block i hi⟩
theorem jO {a w w':World}{row:Option Nat}(h:a.grownBy w row) (k:w.grownBy w' row):a.grownBy w' row:=
 ⟨k.os.trans h.os,k.tape.trans h.tape,k.output.trans h.output,qr h.size k.size,fun i hi hn=>(k.block i (qu hi h.size) hn).trans (h.block i hi hn)⟩
theorem tA {a w:World}{row:Option Nat}(h:a.grownBy w row) (n:Nat):a.grownBy (w.drewN n) row:=⟨h.os,h.tape,h.output,h.size,h.block⟩
theorem aGt {a w:World}{row:Option Nat}(h:a.grownBy w row):a.grownBy w.drew row:=⟨h.os,h.tape,h.output,h.size,h.block⟩
theorem cU {a w:World}{g:Nat}(h:a.grownBy w (some g)) {p:Addr}(hp:p.block=g∨a.heap.size≤p.block) (u:Value):a.grownBy (w.setCell p u) (some g):=
 ⟨h.os,h.tape,h.output,by simpa [World.setCell] using h.size,fun i hi hne=>(Below.heap_setCell w p u i (by
   rintro rfl;rcases hp with hp|hp
   ·exact hne (by rw [hp])
   ·omega)).trans (h.block i hi hne)⟩
theorem RW.setFar {w:World}{A:Option Addr}{n c m:Nat}(h:RW w A n c m) {p:Addr}(hA:∀b o,A=some ⟨b,o,none⟩→b≠p.block) (u:Value):RW (w.setCell p u) A n c m:=
 ⟨h.lt,h.cap,fun hn=>by
   obtain⟨b,o,e,hb,hc⟩:=h.at_ hn
   exact⟨b,o,e,by simpa using hb,fun i hi=>(qp _ _ _ _ (fun e'=>hA b o e (by rw [e']))).trans (hc i hi)⟩⟩
theorem fP {w w':World}{base size n:Nat}{e:TypeId}{v:Value}{xs:List Value}(h:w.ownsRow base e size v n xs) (hb:Below w.heap.size w w'):w'.ownsRow base e size v n xs:=by
 obtain⟨h1,h2⟩:=h;refine⟨h1,?_⟩;rcases h2 with h2|⟨g,cap,cur,hv,hg,hh,r⟩
 ·exact .inl h2
 ·have hlt:g<w.heap.size:=by
   rcases zo g w.heap.size with hlt|hge
   ·exact hlt
   ·rw [jb hge]at hh;cases hh
  exact .inr ⟨g,cap,cur,hv,hg,(hb.block g hlt).trans hh,r⟩
theorem aKw {w:World}{base n:Nat}{t:TypeId}{v:Value}{xs:List Value}{f:Nat→Nat}(h:w.ownsRow base t 1 v n xs) (hn:0<n) (hx:∀i,i<n→xs[i]?=some (.int .u64 (f i))) :
 ∃g cap,v=.slice (some ⟨g,0,none⟩) n cap∧base≤g∧n≤cap∧RowF w g t f n:=by
 obtain⟨h1,h2⟩:=h;rcases h2 with ⟨_,h2⟩|⟨g,cap,cur,hv,hg,hh,h4,h5,h6,h7⟩
 ·omega
 ·refine⟨g,cap,hv,hg,h4,cur,hh,oq,fun i hi=>?_⟩;have:=hx i hi;rw [←h7,zt,zu,om hi,zk]at this;exact this
def nY (m n:Nat):List Value:=(List.range n).map fun i=>.int .u64 (wq m i)
theorem jC (m n:Nat):(nY m n).length=n:=by simp [nY]
theorem vJ (m:Nat) {n j:Nat}(h:j<n):(nY m n)[j]?=some (.int .u64 (wq m j)):=by simp [nY,h]
theorem aGe (m n:Nat):∀u∈nY m n,u.oneCell'=true:=by
 intro u hu;simp only [nY,xl]at hu;obtain⟨_,_,rfl⟩:=hu;rfl
theorem zG {w:World}{b o n m:Nat}(hc:∀i,i<n→w.cell? ⟨b,o+i,none⟩=some (.int .u64 (wq m i))):∀j u,(nY m n)[j]?=some u→w.cell? ((⟨b,o,none⟩:Addr).add j)=some u:=by
 intro j u hj
 by_cases h:j<n
 ·rw [vJ _ h]at hj;rw [←hj,←hc j h];unfold Addr.add
  by_cases e:j=0
  ·subst e;rfl
  ·rw [og e]
 ·rw [ol (by rw [jC];omega)]at hj;cases hj
theorem RW.grown {w w':World}{A:Option Addr}{n c m g:Nat}(h:RW w A n c m) (hg:w.grownBy w' (some g)) (hA:∀b o,A=some ⟨b,o,none⟩→b≠g):RW w' A n c m:=
 ⟨h.lt,h.cap,fun hn=>by
   obtain⟨b,o,e,hb,hc⟩:=h.at_ hn;have hs:=hg.size
   exact⟨b,o,e,oq,fun i hi=>(World.cell?_of_block (hg.block b hb (fun e'=>hA b o e (by injection e')))).trans (hc i hi)⟩⟩
theorem RW.ofOwn {w:World}{base g m n N:Nat}{t:TypeId}{xs:List Value}(h:w.ownsRow base t 1 (.slice (some ⟨g,0,none⟩) n N) n xs) (hg:g<w.heap.size) (hN:n≤N) (hm:m<B64^n) (hx:∀i,i<n→xs[i]?=some (.int .u64 (wq m i))):RW w (some ⟨g,0,none⟩) n N m:=
 ⟨hm,hN,fun _=>⟨g,0,rfl,hg,fun i hi=>by rw [qe,h.cellAt i oq,hx i hi]⟩⟩
theorem aTl (s:Nat) {k i:Nat}(h:i<k):wq (s % B64^k) i=wq s i:=nA aH s k i h
theorem aKn (s:Nat) {k:Nat}(h:s<B64^k):s % B64^k=s:=oa h
