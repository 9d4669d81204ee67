/- Several texts in one. (Printed by prep.py.) -/
import Derived.Test.YtifcjpacobpdmaaGreatTtQ5
namespace Go.Proofs.YtifcjpacobpdmaaGreat
open Num
def flr (q:Rat):Int:=q.num/(q.den:Int)
def aWl (q:Rat) (k:Nat):Rat:=mkRat (q.num*((2^k:Nat):Int) / (q.den:Int)) (2^k)
def aWk (n:Int):Nat:=(min 1000 (max 0 n)).toNat
def rcmp (y:Rat):Int:=(y-(flr y:Rat)-mkRat 1 2).num.sign
def rup (y:Rat):Bool:=decide (0<rcmp y) || (decide (rcmp y=0) && decide (flr y % 2=1))
def aUe (x s:Rat):Rat:=(if rup (x/s)=true then (flr (x/s):Rat)+1 else (flr (x/s):Rat))*s
def aWt (x s:Rat):Rat:=if s.num.sign≤0 then 0 else aUe x s
def halved (x:Rat):Nat→Rat
 | 0=>x
 | j+1=>halved x j/2
open Go.RowKit
open Value (agg slice int bool tuple)
open Sy (Up Sees CallsG Seg execFn_use)
set_option maxRecDepth 100000
variable {k:World}{R:World→Value→Prop}
end Go.Proofs.YtifcjpacobpdmaaGreat

namespace Go.Proofs.YtifcjpacobpdmaaGreat
open Go.RowKit Num
open Sy (Up Sees CallsG Seg)
section
variable {k k':World}{A A':Option Addr}{n n' c c' a b:Nat}{cs cs':Array Value}{bz:Bool}{R:World→Value→Prop}{x y q:Rat}{z:Int}{K L:Nat}
theorem aAq {s:Nat}(h:LimR k A n c a) (hn:n≤17179869184) (hs:s≤17179869184)
 (K:∀k' B j d,Up k k'→LimR k' B j d (a*2^s)→j≤n+s→R k' (.slice B j d)):Cl k 230 #[.slice A n c,.int .i64 (s:Int)] R:=
 after (fun _k0 u=>aJw fun _w hs'=>aTn ((h.up u).sees hs') hn hs) fun k' _v u ⟨B,j,d,e,h1,h2⟩=>e▸K k' B j d u h1 h2
theorem aRb {neg:Bool}(h:LimR k A n c a) (hn:n≤1152921504606846976) (hK:n≤K)
 (C:∀k' ds,Up k k'→IntV k' ds (sgn neg a) K→R k' (.agg ds)):Cl k 171 #[.bool neg,.slice A n c] R:=
 after (fun _k0 u=>aAo fun _w hs=>fV neg ((h.up u).sees hs) hn) fun k' v u hv=>by
  obtain⟨ds,rfl,hd⟩:=iR hv;exact C k' ds u (hd.mono hK)
end
open Value (agg slice int bool tuple)
open Sy (Up Sees CallsG Seg execFn_use)
set_option maxRecDepth 100000
variable {k:World}{R:World→Value→Prop}
end Go.Proofs.YtifcjpacobpdmaaGreat

namespace Go.Proofs.YtifcjpacobpdmaaGreat.W32
open Go.RowKit Num
open Sy (Up Sees CallsG Seg)
section
variable {k k':World}{cs cs':Array Value}{R:World→Value→Prop}{x y q q':Rat}{K L:Nat}{b:Bool}{A A':Option Addr}{l c l' c':Nat}
end
end Go.Proofs.YtifcjpacobpdmaaGreat.W32

namespace Go.Proofs.YtifcjpacobpdmaaGreat
open Go.RowKit
open Value (agg slice int bool tuple)
open Sy (Up Sees CallsG Seg execFn_use)
set_option maxRecDepth 100000
variable {k:World}{R:World→Value→Prop}{n0 n1:Int}
theorem aUy 
 (h:Br ((n1:Int) == 0) (Cl k 60 #[int .i64 n0] fun k1 r0=>Gt 3 r0 fun cs2=>
 Rt R k1 (agg cs2)) (Cl k 186 #[int .i64 n0,int .i64 n1] fun k4 r3=>∃cs2,Seg 3 cs2∧∃n3,some (tuple #[agg cs2,int .i64 n3])=some r3∧
 Rt R k4 (agg cs2))) :
  CallsG Tryz.prog 110 #[agg #[int .i64 n0,int .i64 n1]] k R:=
  qY { opq:=[88] } h
end Go.Proofs.YtifcjpacobpdmaaGreat

namespace Go.Proofs.YtifcjpacobpdmaaGreat
open Go.RowKit Num W32
open Sy (Up Sees CallsG)
section
variable {k k':World}{R:World→Value→Prop}{x y q:Rat}{K L:Nat}{cs cs':Array Value}{g:Bool}{A A':Option Addr}{l c l' c':Nat}
theorem aWh {n d:Int}(hn:In64 n) (hd:In64 d) (C:∀k' ds,Up k k'→RatV k' ds (ofQ n d) 1→R k' (.agg ds)):Cl k 110 #[.agg #[.int .i64 n,.int .i64 d]] R:=by
 intro k0 u0;refine aUy ⟨fun hb=>?_,fun hb=>?_⟩
 ·have e:d=0:=eq_of_beq hb;refine nO hn.1 hn.2 ?_;intro k1 c1 u1 h1;refine⟨c1,h1.seg,rfl,?_⟩;intro k2 u2;refine C k2 c1 (u0.trans (u1.trans u2)) ?_;unfold ofQ;rw [og e];exact h1.up u2
 ·have e:¬ d=0:=by simpa using hb
  refine aHu hn.1 hn.2 hd.1 hd.2 ?_;intro k1 c1 u1 h1;refine⟨c1,h1.seg,_,rfl,?_⟩;intro k2 u2;refine C k2 c1 (u0.trans (u1.trans u2)) ?_;unfold ofQ;rw [oh e];exact h1.up u2
end
