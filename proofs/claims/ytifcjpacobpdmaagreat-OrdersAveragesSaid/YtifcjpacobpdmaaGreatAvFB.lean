/- Several texts in one. (Printed by prep.py.) -/
import Derived.Test.YtifcjpacobpdmaaGreatAvQ5
namespace Go.Proofs.YtifcjpacobpdmaaGreat
open Num
def flr (q:Rat):Int:=q.num/(q.den:Int)
def aYf (q:Rat) (k:Nat):Rat:=mkRat (q.num*((2^k:Nat):Int) / (q.den:Int)) (2^k)
def aYe (n:Int):Nat:=(min 1000 (max 0 n)).toNat
def rcmp (y:Rat):Int:=(y-(flr y:Rat)-mkRat 1 2).num.sign
def rup (y:Rat):Bool:=decide (0<rcmp y) || (decide (rcmp y=0) && decide (flr y % 2=1))
def aVs (x s:Rat):Rat:=(if rup (x/s)=true then (flr (x/s):Rat)+1 else (flr (x/s):Rat))*s
def aYq (x s:Rat):Rat:=if s.num.sign≤0 then 0 else aVs x s
def halved (x:Rat):Nat→Rat
 | 0=>x
 | j+1=>halved x j/2
open Go.RowKit
open Value (agg slice int bool tuple)
open Sy (Up Sees CallsG Seg execFn_use)
set_option maxRecDepth 100000
variable {k:World}{R:World→Value→Prop}
end Go.Proofs.YtifcjpacobpdmaaGreat

namespace Go.Proofs.YtifcjpacobpdmaaGreat
open Go.RowKit Num
open Sy (Up Sees CallsG Seg)
section
variable {k k':World}{A A':Option Addr}{n n' c c' a b:Nat}{cs cs':Array Value}{bz:Bool}{R:World→Value→Prop}{x y q:Rat}{z:Int}{K L:Nat}
theorem aBt {s:Nat}(h:LimR k A n c a) (hn:n≤17179869184) (hs:s≤17179869184)
 (K:∀k' B j d,Up k k'→LimR k' B j d (a*2^s)→j≤n+s→R k' (.slice B j d)):Cl k 230 #[.slice A n c,.int .i64 (s:Int)] R:=
 after (fun _k0 u=>aLf fun _w hs'=>aVa ((h.up u).sees hs') hn hs) fun k' _v u ⟨B,j,d,e,h1,h2⟩=>e▸K k' B j d u h1 h2
theorem rQ {neg:Bool}(h:LimR k A n c a) (hn:n≤1152921504606846976) (hK:n≤K)
 (C:∀k' ds,Up k k'→IntV k' ds (sgn neg a) K→R k' (.agg ds)):Cl k 171 #[.bool neg,.slice A n c] R:=
 after (fun _k0 u=>aBr fun _w hs=>gA neg ((h.up u).sees hs) hn) fun k' v u hv=>by
  obtain⟨ds,rfl,hd⟩:=iW hv;exact C k' ds u (hd.mono hK)
end
open Value (agg slice int bool tuple)
open Sy (Up Sees CallsG Seg execFn_use)
set_option maxRecDepth 100000
variable {k:World}{R:World→Value→Prop}{cs0 cs1:Array Value}
theorem aVp (hcs0:Seg 3 cs0) (hcs1:Seg 3 cs1)
 (h:Cl k 180 #[agg cs0,agg cs1] fun k1 r0=>∃cs2,Seg 3 cs2∧∃n3,some (tuple #[agg cs2,int .i64 n3])=some r0∧
 Rt R k1 (agg cs2)) :
  CallsG Tryz.prog 91 #[agg cs0,agg cs1] k R:=
  qX { opq:=[42] } [.agg [.seg 0 3],.agg [.seg 1 3]] [agg cs0,agg cs1] [.seg 3,.seg 3] ⟨⟨cs0,rfl,hcs0⟩,⟨cs1,rfl,hcs1⟩,trivial⟩ h
theorem aMv (hcs0:Seg 3 cs0)
 (h:Cl k 89 #[int .i64 0] fun k1 r0=>Gt 3 r0 fun cs1=>
 Cl k1 89 #[int .i64 0] fun k3 r2=>Gt 3 r2 fun cs2=>
 Cl k3 89 #[int .i64 0] fun k5 r4=>Gt 3 r4 fun cs3=>
 Rt R k5 (Rg cs0 cs1 cs2 cs3)) :
  CallsG Tryz.prog 82 #[agg cs0] k R:=
  qX { opq:=[42] } [.agg [.seg 0 3]] [agg cs0] [.seg 3] ⟨⟨cs0,rfl,hcs0⟩,trivial⟩ h
end Go.Proofs.YtifcjpacobpdmaaGreat

namespace Go.Proofs.YtifcjpacobpdmaaGreat.W32
open Go.RowKit Num
open Sy (Up Sees CallsG Seg)
section
variable {k k':World}{cs cs':Array Value}{R:World→Value→Prop}{x y q q':Rat}{K L:Nat}{b:Bool}{A A':Option Addr}{l c l' c':Nat}
theorem QV.mk1 (h:QN k b A l c A' l' c' q) (h1:l≤K) (h2:l'≤K):QV k #[.bool b,.slice A l c,.slice A' l' c'] q K:=⟨b,A,l,c,A',l',c',rfl,h,h1,h2⟩
end
end Go.Proofs.YtifcjpacobpdmaaGreat.W32

namespace Go.Proofs.YtifcjpacobpdmaaGreat
open Go.RowKit
open Value (agg slice int bool tuple)
open Sy (Up Sees CallsG Seg execFn_use)
set_option maxRecDepth 100000
variable {k:World}{R:World→Value→Prop}{cs0:Array Value}{b1:Bool}{A2 A3:Option Addr}{c2 c3 l2 l3:Nat}
theorem aWj (hcs0:Seg 3 cs0)
 (h:Cl k 94 #[agg cs0] fun k1 r0=>∃s4,some (Value.string s4)=some r0∧
 Cl k1 95 #[agg #[bool b1,slice A2 l2 c2,slice A3 l3 c3]] fun k3 r2=>∃s5,some (Value.string s5)=some r2∧
 Rt R k3 (bool (ByteArray.toList s4 == ByteArray.toList s5))) :
  CallsG Tryz.prog 27 #[agg cs0,agg #[bool b1,slice A2 l2 c2,slice A3 l3 c3]] k R:=
  qX { opq:=[88] } [.agg [.seg 0 3],.agg (qV 1 3)] [agg cs0,bool b1,slice A2 l2 c2,slice A3 l3 c3] [.seg 3,.bool,.slice,.slice] ⟨⟨cs0,rfl,hcs0⟩,⟨_,rfl⟩,qS,qS,trivial⟩ h
end Go.Proofs.YtifcjpacobpdmaaGreat

namespace Go.Proofs.YtifcjpacobpdmaaGreat
open Go.RowKit Num W32
open Sy (Up Sees CallsG)
section
variable {k k':World}{R:World→Value→Prop}{x y q:Rat}{K L:Nat}{cs cs':Array Value}{g:Bool}{A A':Option Addr}{l c l' c':Nat}
theorem aYh (hx:RatV k cs x K) (hK:K≤8589934592) (h:QN k g A l c A' l' c' x) (hl:l≤34359738368) (hl':l'≤34359738368) (C:∀k',Up k k'→R k' (.bool true)) :
 Cl k 27 #[.agg cs,.agg #[.bool g,.slice A l c,.slice A' l' c']] R:=by
 intro k0 u0;refine aWj (hx.seg) (dO (hx.up u0) hK fun k1 u1=>⟨_,rfl,aFe ((h.up u0).up u1) hl hl' fun k3 u3=>⟨_,rfl,fun k4 u4=>?_⟩⟩);have:=C k4 (((u0.trans u1).trans u3).trans u4);rw [show (ByteArray.toList ⟨(aE x).toArray⟩ == ByteArray.toList ⟨(aE x).toArray⟩)=true from beq_self_eq_true _];exact this
theorem aYi (hx:RatV k cs x K) (hK:K≤8589934592) (h:QV k cs' x L) (hL:L≤34359738368) (C:∀k',Up k k'→R k' (.bool true)) :
 Cl k 27 #[.agg cs,.agg cs'] R:=by
 obtain⟨_,_,_,_,_,_,_,rfl,h,l1,l2⟩:=h;exact aYh hx hK h oq oq C
end
