/- The contracts of package exact's numbers, in the words of what is known. -/
import Derived.Test.YthiaclljcnincaaGreatApVS
import Derived.Test.YthiaclljcnincaaGreatApText3
namespace Go.Proofs.YthiaclljcnincaaGreat
open Go.RowKit Num
open Sy (Up Sees CallsG Seg)
def Kept (w' k':World):Prop:=k'.heap.size=w'.heap.size∧∀a x,w'.cell? a=some (.int .u64 x)→k'.cell? a=some (.int .u64 x)
theorem LimR.kept {w k:World}{A:Option Addr}{n c m:Nat}(h:LimR w A n c m) (hk:Kept w k):LimR k A n c m:=
 ⟨h.len,h.lr.lt,h.lr.cap,fun hn=>by
   obtain⟨b,o,e,hb,hc⟩:=h.lr.at_ hn
   exact⟨b,o,e,by rw [hk.1];exact hb,fun i hi=>hk.2 _ _ (hc i hi)⟩⟩
theorem LimR.up {k k':World}{A:Option Addr}{n c m:Nat}(h:LimR k A n c m) (hu:Up k k'):LimR k' A n c m:=
 ⟨h.len,h.lr.lt,h.lr.cap,fun hn=>by
   obtain⟨b,o,e,hb,hc⟩:=h.lr.at_ hn
   exact⟨b,o,e,qy hb hu.size,fun i hi=>hu.cell (hc i hi)⟩⟩
theorem LimR.sees {k w:World}{A:Option Addr}{n c m:Nat}(h:LimR k A n c m) (hs:Sees k w):LimR w A n c m:=
 ⟨h.len,h.lr.lt,h.lr.cap,fun hn=>by
   obtain⟨b,o,e,hb,hc⟩:=h.lr.at_ hn
   exact⟨b,o,e,by rw [hs.size];exact hb,fun i hi=>hs.cell (hc i hi)⟩⟩
theorem IntR.kept {w k:World}{b:Bool}{A:Option Addr}{n c:Nat}{z:Int}(h:IntR w b A n c z) (hk:Kept w k):IntR k b A n c z:=⟨h.neg,h.lim.kept hk⟩
theorem IntR.up {w k:World}{b:Bool}{A:Option Addr}{n c:Nat}{z:Int}(h:IntR w b A n c z) (hk:Up w k):IntR k b A n c z:=⟨h.neg,h.lim.up hk⟩
theorem IntR.sees {w k:World}{b:Bool}{A:Option Addr}{n c:Nat}{z:Int}(h:IntR k b A n c z) (hk:Sees k w):IntR w b A n c z:=⟨h.neg,h.lim.sees hk⟩
theorem RatR.kept {w k:World}{A D:Option Addr}{g:Bool}{n c d e:Nat}{q:Rat}(h:RatR w g A n c D d e q) (hk:Kept w k):RatR k g A n c D d e q:=⟨h.num.kept hk,h.den.kept hk⟩
theorem RatR.up {w k:World}{A D:Option Addr}{g:Bool}{n c d e:Nat}{q:Rat}(h:RatR w g A n c D d e q) (hk:Up w k):RatR k g A n c D d e q:=⟨h.num.up hk,h.den.up hk⟩
theorem RatR.sees {w k:World}{A D:Option Addr}{g:Bool}{n c d e:Nat}{q:Rat}(h:RatR k g A n c D d e q) (hk:Sees k w):RatR w g A n c D d e q:=⟨h.num.sees hk,h.den.sees hk⟩
theorem vX {P:Program}{f:FuncId}{args:Array Value}{k:World}{F:World→Value→Prop}(hF:∀w' k' v,Kept w' k'→F w' v→F k' v)
 (h:∀w,Sees k w→Calls P f args w fun e w'=>(∃v,e=.returned v∧F w' v)∧Below w.heap.size w w'):CallsG P f args k F:=by
 classical
 intro w hs;refine (h w hs).mono ?_;rintro e w' ⟨⟨v,rfl,hv⟩,hb⟩
 let k':World:={ w' with heap:=w'.heap.mapIdx fun i o=>if k.heap[i]?=some Sy.dead then Sy.dead else o }
 have hk:∀(g:Nat),k'.heap[g]?=(w'.heap[g]?).map fun o=>if k.heap[g]?=some Sy.dead then Sy.dead else o:=fun g=>by
  show (w'.heap.mapIdx _)[g]?=_;rw [Array.getElem?_mapIdx]
 have hsize:k'.heap.size=w'.heap.size:=by simp [k']
 refine⟨v,k',rfl,?_,?_,hb,hF w' k' v ⟨hsize,fun a x hc=>?_⟩ hv⟩
 ·refine⟨rfl,rfl,rfl,hsize.symm,fun g o hg hd=>?_,fun g hg=>?_⟩
  ·rw [hk]at hg;cases hw:w'.heap[g]? with
   | none=>rw [hw]at hg;cases hg
   | some o'=>
    rw [hw]at hg;simp only [je,jy]at hg;split at hg
    ·exact absurd hg.symm hd
    ·rw [hg]
  ·rw [hk]at hg;cases hw:w'.heap[g]? with
   | none=>rw [hw]at hg;cases hg
   | some o'=>
    rw [hw]at hg;simp only [je,jy]at hg;split at hg
    ·rename_i hd;obtain⟨cs,t,fr,h1,h2⟩:=hs.dark g hd;refine⟨cs,t,fr,?_,h2⟩;rw [←hw,hb.block g (Sy.heap_lt h1)];exact h1
    ·rw [hg];exact⟨#[],0,(1,0),rfl,by simp⟩
 ·refine⟨hb.os.trans hs.os,hb.tape.trans hs.tape,hb.output.trans hs.output,by rw [hsize,←hs.size];exact hb.size,fun g hg=>?_⟩;rw [hk];have hlt:g<w.heap.size:=by rw [hs.size];exact hg
  rw [hb.block g hlt]
  by_cases hd:k.heap[g]?=some Sy.dead
  ·rw [ql hlt];simp [hd]
  ·rw [ql hg]at hd ⊢;have:=hs.live g _ (ql hg) (fun e=>hd (by rw [e]));rw [this];simp [hd]
 ·unfold World.cell? at hc ⊢;rw [hk];split at hc
  ·rename_i cs t fr hw;rw [hw];simp only [je];split at hc
   ·cases hc
   ·rename_i hsp
    by_cases hd:k.heap[a.block]?=some Sy.dead
    ·obtain⟨cs',t',fr',h1,h2⟩:=hs.dark _ hd;have:=hb.block a.block (Sy.heap_lt h1);rw [hw,h1]at this;injection this with this;injection this with e1 e2 e3;subst e1;have hm:=Array.mem_of_getElem? hc;have:=h2 _ (jz.2 hm);cases this
    ·rw [oh hd];simp only [hsp];exact hc
  ·cases hc
section
variable {k:World}{A A':Option Addr}{n n' c c' a b:Nat}{R:World→Value→Prop}
theorem after {P:Program}{f:FuncId}{args:Array Value}{F:World→Value→Prop}(h:∀k0,Up k k0→CallsG P f args k0 F) (K:∀k' v,Up k k'→F k' v→R k' v):∀k0,Up k k0→CallsG P f args k0 R:=
 fun k0 u=>(h k0 u).mono fun k' v hb hv=>K k' v (u.trans (Up.of_below hb)) hv
def bAy (m K:Nat) (k:World) (v:Value):Prop:=∃A n c,v=.slice A n c∧LimR k A n c m∧n≤K
def aZm (z:Int) (K:Nat) (k:World) (v:Value):Prop:=∃b A n c,v=.agg #[.bool b,.slice A n c]∧IntR k b A n c z∧n≤K
def aWs (q:Rat) (K L:Nat) (k:World) (v:Value):Prop:=∃g A n c D d e,v=.agg #[.bool g,.slice A n c,.slice D d e]∧RatR k g A n c D d e q∧n≤K∧d≤L
theorem aUb {P:Program}{f:FuncId}{args:Array Value}{m K:Nat}(h:∀w,Sees k w→Calls P f args w (yZ m K w)):CallsG P f args k (bAy m K):=
 vX (fun _w' _k' _v hk ⟨A,n,c,e,h1,h2⟩=>⟨A,n,c,e,h1.kept hk,h2⟩) fun w hs=>(h w hs).mono fun _e _w' ⟨⟨A,n,c,h1,h2,h3⟩,hb⟩=>⟨⟨_,h1,A,n,c,rfl,h2,h3⟩,hb⟩
theorem aHv {P:Program}{f:FuncId}{args:Array Value}{m:Int}{K:Nat}(h:∀w,Sees k w→Calls P f args w (RetI m K w)):CallsG P f args k (aZm m K):=
 vX (fun _w' _k' _v hk ⟨g,A,n,c,e,h1,h2⟩=>⟨g,A,n,c,e,h1.kept hk,h2⟩) fun w hs=>(h w hs).mono fun _e _w' ⟨⟨g,A,n,c,h1,h2,h3⟩,hb⟩=>⟨⟨_,h1,g,A,n,c,rfl,h2,h3⟩,hb⟩
theorem bAr {P:Program}{f:FuncId}{args:Array Value}{q:Rat}{K L:Nat}(h:∀w,Sees k w→Calls P f args w (RetR q K L w)):CallsG P f args k (aWs q K L):=
 vX (fun _w' _k' _v hk ⟨g,A,n,c,D,d,e,h0,h1,h2⟩=>⟨g,A,n,c,D,d,e,h0,h1.kept hk,h2⟩) fun w hs=>(h w hs).mono fun _e _w' ⟨⟨g,A,n,c,D,d,e',h1,h2,h3⟩,hb⟩=>⟨⟨_,h1,g,A,n,c,D,d,e',rfl,h2,h3⟩,hb⟩
theorem aVv {P:Program}{f:FuncId}{args:Array Value}{v:Value}(h:∀w,Sees k w→Calls P f args w fun e w'=>e=.returned v∧Below w.heap.size w w'):CallsG P f args k (fun _ u=>u=v):=
 vX (fun _w' _k' _u _ h=>h) fun w hs=>(h w hs).mono fun _e _w' ⟨h1,hb⟩=>⟨⟨_,h1,rfl⟩,hb⟩
theorem aFd (h:LimR k A n c a) (h':LimR k A' n' c' b) (hn:n≤8589934592) (hn':n'≤8589934592)
 (K:∀k' B j d,Up k k'→LimR k' B j d (Nat.gcd a b)→j≤n+n'→R k' (.slice B j d)):Cl k 77 #[.slice A n c,.slice A' n' c'] R:=
 after (fun _k0 u=>aUb fun _w hs=>aWl ((h.up u).sees hs) ((h'.up u).sees hs) hn hn') fun k' _v u ⟨B,j,d,e,h1,h2⟩=>e▸K k' B j d u h1 h2
theorem sF (h:LimR k A n c a) (h':LimR k A' n' c' b) (hn:n≤17179869184) (hn':n'≤17179869184)
 (K:∀k' B j d,Up k k'→LimR k' B j d (a*b)→j≤n+n'→R k' (.slice B j d)):Cl k 54 #[.slice A n c,.slice A' n' c'] R:=
 after (fun _k0 u=>aUb fun _w hs=>yO ((h.up u).sees hs) ((h'.up u).sees hs) hn hn') fun k' _v u ⟨B,j,d,e,h1,h2⟩=>e▸K k' B j d u h1 h2
theorem uO {x:Nat}(hx:x<18446744073709551616)
 (K:∀k' B j d,Up k k'→LimR k' B j d x→j≤1→R k' (.slice B j d)):Cl k 46 #[.int .u64 x] R:=
 after (fun _k0 _u=>aUb fun _w _hs=>yQ hx) fun k' _v u ⟨B,j,d,e,h1,h2⟩=>e▸K k' B j d u h1 h2
theorem bR {L:Nat}(h:LimR k A n c (if a=1 then 0 else a)) (h0:0<a) (hn:n≤L) (h1L:1≤L) (hL:L≤17179869184)
 (K:∀k' B j d,Up k k'→LimR k' B j d a→j≤L→R k' (.slice B j d)):Cl k 53 #[.slice A n c] R:=
 after (fun _k0 u=>aUb fun _w hs=>aVu ((h.up u).sees hs) h0 hn h1L hL) fun k' _v u ⟨B,j,d,e,h1,h2⟩=>e▸K k' B j d u h1 h2
theorem xG (h:LimR k A n c a) (hn:n≤17179869184) (K:∀k',Up k k'→R k' (.bool (decide (a=1)))):Cl k 78 #[.slice A n c] R:=
 after (fun k0 u=>aVv fun w hs=>(gS ((h.up u).sees hs) hn).mono fun e w' ⟨h1,h2⟩=>⟨h1,by rw [←h2];exact Below.refl _ _⟩) fun k' v u e=>e▸K k' u
theorem kP (h:LimR k A n c a) (h':LimR k A' n' c' b) (hb0:0<b) (hn:n≤8589934592) (hn':n'≤8589934592)
 (K:∀k' B j d B' j' d',Up k k'→LimR k' B j d (a/b)→LimR k' B' j' d' (a % b)→j≤n→j'≤n'→R k' (.tuple #[.slice B j d,.slice B' j' d'])):Cl k 79 #[.slice A n c,.slice A' n' c'] R:=
 after (F:=fun k v=>∃B j d B' j' d',v=.tuple #[.slice B j d,.slice B' j' d']∧LimR k B j d (a/b)∧LimR k B' j' d' (a % b)∧j≤n∧j'≤n')
  (fun _k0 u=>vX (fun _w' _k' _v hk ⟨B,j,d,B',j',d',e,h1,h2,h3⟩=>⟨B,j,d,B',j',d',e,h1.kept hk,h2.kept hk,h3⟩) fun _w hs=>
    (sW ((h.up u).sees hs) ((h'.up u).sees hs) hb0 hn hn').mono fun _e _w' ⟨⟨B,j,d,B',j',d',h1,h2,h3,h4⟩,hb⟩=>⟨⟨_,h1,B,j,d,B',j',d',rfl,h2,h3,h4⟩,hb⟩)
  fun k' _v u ⟨B,j,d,B',j',d',e,h1,h2,h3,h4⟩=>e▸K k' B j d B' j' d' u h1 h2 h3 h4
def IntV (k:World) (cs:Array Value) (z:Int) (K:Nat):Prop:=∃b A n c,cs=#[.bool b,.slice A n c]∧IntR k b A n c z∧n≤K
theorem IntV.up {k k':World}{cs:Array Value}{z:Int}{K:Nat}(h:IntV k cs z K) (u:Up k k'):IntV k' cs z K:=by
 obtain⟨b,A,n,c,e,h1,h2⟩:=h;exact⟨b,A,n,c,e,h1.up u,h2⟩
theorem IntV.seg {k:World}{cs:Array Value}{z:Int}{K:Nat}(h:IntV k cs z K):Seg 2 cs:=by
 obtain⟨b,A,n,c,rfl,_⟩:=h;exact⟨rfl,by simp [Value.scalar,Value.noWord]⟩
theorem IntV.mono {k:World}{cs:Array Value}{z:Int}{K L:Nat}(h:IntV k cs z K) (hL:K≤L):IntV k cs z L:=by
 obtain⟨b,A,n,c,e,h1,h2⟩:=h;exact⟨b,A,n,c,e,h1,oq⟩
theorem lN {k':World}{v:Value}{z:Int}{K:Nat}(h:aZm z K k' v):∃cs,v=.agg cs∧IntV k' cs z K:=by
 obtain⟨b,A,n,c,e,h⟩:=h;exact⟨_,e,b,A,n,c,rfl,h⟩
variable {cs cs':Array Value}{x y:Int}{K L:Nat}
theorem cT (hx:IntV k cs x K) (h:LimR k A n c a) (hK:K≤17179869184) (hn:n≤L) (hL:L≤17179869184)
 (C:∀k' ds,Up k k'→IntV k' ds (x*a) (K+L)→R k' (.agg ds)):Cl k 55 #[.agg cs,.slice A n c] R:=by
 obtain⟨g,B,j,d,rfl,hx,hj⟩:=hx;exact after (fun k0 u=>aHv fun w hs=>aBm ((hx.up u).sees hs) ((h.up u).sees hs) oq oq) fun k' v u hv=>by
  obtain⟨ds,rfl,hd⟩:=lN hv;exact C k' ds u (hd.mono oq)
theorem cK (hx:IntV k cs x K) (hy:IntV k cs' y L) (hK:K≤17179869184) (hL:L≤17179869184)
 (C:∀k' ds,Up k k'→IntV k' ds (x*y) (K+L)→R k' (.agg ds)):Cl k 81 #[.agg cs,.agg cs'] R:=by
 obtain⟨g,B,j,d,rfl,hx,hj⟩:=hx;obtain⟨g',B',j',d',rfl,hy,hj'⟩:=hy;exact after (fun k0 u=>aHv fun w hs=>aMs ((hx.up u).sees hs) ((hy.up u).sees hs) oq oq) fun k' v u hv=>by
  obtain⟨ds,rfl,hd⟩:=lN hv;exact C k' ds u (hd.mono oq)
theorem dC (hx:IntV k cs x K) (hy:IntV k cs' y L) {M:Nat}(hK:K≤M) (hL:L≤M) (hM:M≤17179869184)
 (C:∀k' ds,Up k k'→IntV k' ds (x+y) (M+1)→R k' (.agg ds)):Cl k 56 #[.agg cs,.agg cs'] R:=by
 obtain⟨g,B,j,d,rfl,hx,hj⟩:=hx;obtain⟨g',B',j',d',rfl,hy,hj'⟩:=hy;exact after (fun k0 u=>aHv fun w hs=>aTp ((hx.up u).sees hs) ((hy.up u).sees hs) (K:=M) oq oq hM) fun k' v u hv=>by
  obtain⟨ds,rfl,hd⟩:=lN hv;exact C k' ds u hd
theorem dV (hx:IntV k cs x K) (hK:K≤17179869184)
 (C:∀k' ds,Up k k'→IntV k' ds (-x) K→R k' (.agg ds)):Cl k 88 #[.agg cs] R:=by
 obtain⟨g,B,j,d,rfl,hx,hj⟩:=hx;exact after (fun k0 u=>aHv fun w hs=>aMq ((hx.up u).sees hs) oq) fun k' v u hv=>by
  obtain⟨ds,rfl,hd⟩:=lN hv;exact C k' ds u (hd.mono hj)
theorem tE {m:Nat}(hx:IntV k cs x K) (hK:K≤17179869183) (hm:m<18446744073709551616)
 (C:∀k' ds,Up k k'→IntV k' ds (x*m) (K+1)→R k' (.agg ds)):Cl k 82 #[.agg cs,.int .u64 m] R:=by
 obtain⟨g,B,j,d,rfl,hx,hj⟩:=hx;exact after (fun k0 u=>aHv fun w hs=>aYb ((hx.up u).sees hs) oq hm) fun k' v u hv=>by
  obtain⟨ds,rfl,hd⟩:=lN hv;exact C k' ds u (hd.mono oq)
theorem aIp {z:Int}(h0:-9223372036854775808≤z) (h1:z<9223372036854775808)
 (C:∀k' ds,Up k k'→IntV k' ds z 1→R k' (.agg ds)):Cl k 21 #[.int .i64 z] R:=
 after (fun k0 u=>aHv fun w hs=>aUg z h0 h1) fun k' v u hv=>by
  obtain⟨ds,rfl,hd⟩:=lN hv;exact C k' ds u hd
def RatV (k:World) (cs:Array Value) (q:Rat) (K:Nat):Prop:=∃g A n c D d e,cs=#[.bool g,.slice A n c,.slice D d e]∧RatR k g A n c D d e q∧n≤K∧d≤K
theorem RatV.up {k k':World}{cs:Array Value}{z:Rat}{K:Nat}(h:RatV k cs z K) (u:Up k k'):RatV k' cs z K:=by
 obtain⟨g,A,n,c,D,d,e,e0,h1,h2⟩:=h;exact⟨g,A,n,c,D,d,e,e0,h1.up u,h2⟩
theorem RatV.seg {k:World}{cs:Array Value}{z:Rat}{K:Nat}(h:RatV k cs z K):Seg 3 cs:=by
 obtain⟨b,A,n,c,D,d,e,rfl,_⟩:=h;exact⟨rfl,by simp [Value.scalar,Value.noWord]⟩
theorem xX {k':World}{v:Value}{z:Rat}{K L M:Nat}(h:aWs z K L k' v) (hK:K≤M) (hL:L≤M):∃cs,v=.agg cs∧RatV k' cs z M:=by
 obtain⟨g,A,n,c,D,d,e,e0,h,h2,h3⟩:=h;exact⟨_,e0,g,A,n,c,D,d,e,rfl,h,oq,oq⟩
theorem xS (hx:IntV k cs x K) (h:LimR k A n c a) (h0:0<a) (hK:K≤4294967296) (hn:n≤K)
 (C:∀k' ds,Up k k'→RatV k' ds (mkRat x a) K→R k' (.agg ds)):Cl k 59 #[.agg cs,.slice A n c] R:=by
 obtain⟨g,B,j,d,rfl,hx,hj⟩:=hx;exact after (fun k0 u=>bAr fun w hs=>aNx ((hx.up u).sees hs) ((h.up u).sees hs) h0 oq oq) fun k' v u hv=>by
  obtain⟨ds,rfl,hd⟩:=xX hv hj hn;exact C k' ds u hd
end
