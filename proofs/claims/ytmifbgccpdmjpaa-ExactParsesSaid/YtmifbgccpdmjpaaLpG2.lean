/- The contracts of fractions, in the words of what is known. (Printed by gen/g2.py.) -/
import Derived.Test.YtmifbgccpdmjpaaLpG
namespace Go.Proofs.Ytmifbgccpdmjpaa
open Go.RowKit Num
open Sy (Up Sees CallsG Seg)
section
variable {k:World}{R:World→Value→Prop}{K L:Nat}{cs cs':Array Value}{x y:Rat}
theorem pH (hx:RatV k cs x K) (hK:K≤17179869184)
 (C:∀k',Up k k'→R k' (.bool (decide (x=0)))):Cl k 39 #[.agg cs] R:=by
 obtain⟨g,A,n,c,D,d,e,rfl,hx,hn,hd⟩:=hx;exact after (fun k0 u=>aIf fun w hs=>aMb ((hx.up u).sees hs) oq) fun k' v u e=>e▸C k' u
theorem pG (hx:RatV k cs x K) (hK:K≤17179869184)
 (C:∀k',Up k k'→R k' (.int .i64 x.num.sign)):Cl k 40 #[.agg cs] R:=by
 obtain⟨g,A,n,c,D,d,e,rfl,hx,hn,hd⟩:=hx;exact after (fun k0 u=>aIf fun w hs=>aLz ((hx.up u).sees hs) oq) fun k' v u e=>e▸C k' u
theorem dB (hx:RatV k cs x K) (hK:K≤8589934592)
 (C:∀k',Up k k'→R k' (.string ⟨(aE x).toArray⟩)):Cl k 8 #[.agg cs] R:=by
 obtain⟨g,A,n,c,D,d,e,rfl,hx,hn,hd⟩:=hx;exact after (fun k0 u=>aIf fun w hs=>aMa ((hx.up u).sees hs) oq oq) fun k' v u e=>e▸C k' u
theorem aIl (hx:RatV k cs x K) (hy:RatV k cs' y K) (hK1:1≤K) (hK:K≤17179869184)
 (C:∀k',Up k k'→R k' (.bool (decide (x=y)))):Cl k 9 #[.agg cs,.agg cs'] R:=by
 obtain⟨g,A,n,c,D,d,e,rfl,hx,hn,hd⟩:=hx;obtain⟨g',A',n',c',D',d',e',rfl,hy,hn',hd'⟩:=hy;exact after (fun k0 u=>aIf fun w hs=>aLy ((hx.up u).sees hs) ((hy.up u).sees hs) oq oq oq oq) fun k' v u e=>e▸C k' u
theorem aEh {z:Int}(h0:-9223372036854775808≤z) (h1:z<9223372036854775808)
 (C:∀k' ds,Up k k'→RatV k' ds z 1→R k' (.agg ds)):Cl k 10 #[.int .i64 z] R:=
 after (fun k0 u=>aOx fun w hs=>aOd z h0 h1) fun k' v u hv=>by
  obtain⟨ds,rfl,hd⟩:=aAz (M:=1) hv oq oq;exact C k' ds u hd
end
