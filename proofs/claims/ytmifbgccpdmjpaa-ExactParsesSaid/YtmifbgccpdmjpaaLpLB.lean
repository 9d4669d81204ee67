/- Several texts in one. (Printed by prep.py.) -/
import Derived.Test.YtmifbgccpdmjpaaLpQ5
namespace Go.Proofs.Ytmifbgccpdmjpaa
open Go.RowKit
open Value (agg slice int bool tuple)
open Sy (Up Sees CallsG Seg execFn_use)
set_option maxRecDepth 100000
variable {k:World}{R:World→Value→Prop}{cs0:Array Value}{b1:Bool}{A2 A3:Option Addr}{c2 c3 l2 l3:Nat}
theorem aOe (hcs0:Seg 3 cs0)
 (h:Cl k 8 #[agg cs0] fun k1 r0=>∃s4,some (Value.string s4)=some r0∧
 Cl k1 27 #[agg #[bool b1,slice A2 l2 c2,slice A3 l3 c3]] fun k3 r2=>∃s5,some (Value.string s5)=some r2∧
 Rt R k3 (bool (ByteArray.toList s4 == ByteArray.toList s5))) :
  CallsG Try.prog 7 #[agg cs0,agg #[bool b1,slice A2 l2 c2,slice A3 l3 c3]] k R:=
  qX { opq:=[28] } [.agg [.seg 0 3],.agg (qV 1 3)] [agg cs0,bool b1,slice A2 l2 c2,slice A3 l3 c3] [.seg 3,.bool,.slice,.slice] ⟨⟨cs0,rfl,hcs0⟩,⟨_,rfl⟩,qS,qS,trivial⟩ h
end Go.Proofs.Ytmifbgccpdmjpaa

namespace Go.Proofs.Ytmifbgccpdmjpaa
open Go.RowKit Num W32
open Sy (Up Sees CallsG)
section
variable {k k':World}{R:World→Value→Prop}{x y q:Rat}{K L:Nat}{cs cs':Array Value}{g:Bool}{A A':Option Addr}{l c l' c':Nat}
theorem aPi (hx:RatV k cs x K) (hK:K≤8589934592) (h:QN k g A l c A' l' c' x) (hl:l≤34359738368) (hl':l'≤34359738368) (C:∀k',Up k k'→R k' (.bool true)) :
 Cl k 7 #[.agg cs,.agg #[.bool g,.slice A l c,.slice A' l' c']] R:=by
 intro k0 u0;refine aOe (hx.seg) (dB (hx.up u0) hK fun k1 u1=>⟨_,rfl,aKs ((h.up u0).up u1) hl hl' fun k3 u3=>⟨_,rfl,fun k4 u4=>?_⟩⟩);have:=C k4 (((u0.trans u1).trans u3).trans u4);rw [show (ByteArray.toList ⟨(aE x).toArray⟩ == ByteArray.toList ⟨(aE x).toArray⟩)=true from beq_self_eq_true _];exact this
theorem aPj (hx:RatV k cs x K) (hK:K≤8589934592) (h:QV k cs' x L) (hL:L≤34359738368) (C:∀k',Up k k'→R k' (.bool true)) :
 Cl k 7 #[.agg cs,.agg cs'] R:=by
 obtain⟨_,_,_,_,_,_,_,rfl,h,l1,l2⟩:=h;exact aPi hx hK h oq oq C
end
