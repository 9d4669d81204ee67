/- The contracts of fractions, in the words of what is known. (Printed by gen/g2.py.) -/
import Derived.Test.YtjgnlflbgmnfaaaGreatFfG
namespace Go.Proofs.YtjgnlflbgmnfaaaGreat
open Go.RowKit Num
open Sy (Up Sees CallsG Seg)
section
variable {k:World}{R:World→Value→Prop}{K L:Nat}{cs cs':Array Value}{x y:Rat}
theorem qI (hx:RatV k cs x K) (hK:K≤17179869184)
 (C:∀k',Up k k'→R k' (.bool (decide (x=0)))):Cl k 57 #[.agg cs] R:=by
 obtain⟨g,A,n,c,D,d,e,rfl,hx,hn,hd⟩:=hx;exact after (fun k0 u=>aGe fun w hs=>aOe ((hx.up u).sees hs) oq) fun k' v u e=>e▸C k' u
theorem qH (hx:RatV k cs x K) (hK:K≤17179869184)
 (C:∀k',Up k k'→R k' (.int .i64 x.num.sign)):Cl k 136 #[.agg cs] R:=by
 obtain⟨g,A,n,c,D,d,e,rfl,hx,hn,hd⟩:=hx;exact after (fun k0 u=>aGe fun w hs=>aOc ((hx.up u).sees hs) oq) fun k' v u e=>e▸C k' u
theorem dO (hx:RatV k cs x K) (hK:K≤8589934592)
 (C:∀k',Up k k'→R k' (.string ⟨(aF x).toArray⟩)):Cl k 101 #[.agg cs] R:=by
 obtain⟨g,A,n,c,D,d,e,rfl,hx,hn,hd⟩:=hx;exact after (fun k0 u=>aGe fun w hs=>aOd ((hx.up u).sees hs) oq oq) fun k' v u e=>e▸C k' u
theorem aGk {z:Int}(h0:-9223372036854775808≤z) (h1:z<9223372036854775808)
 (C:∀k' ds,Up k k'→RatV k' ds z 1→R k' (.agg ds)):Cl k 27 #[.int .i64 z] R:=
 after (fun k0 u=>aRg fun w hs=>aQk z h0 h1) fun k' v u hv=>by
  obtain⟨ds,rfl,hd⟩:=aCq (M:=1) hv oq oq;exact C k' ds u hd
end
