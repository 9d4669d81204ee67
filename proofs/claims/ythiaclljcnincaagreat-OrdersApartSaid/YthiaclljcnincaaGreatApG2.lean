/- The contracts of fractions, in the words of what is known. (Printed by gen/g2.py.) -/
import Derived.Test.YthiaclljcnincaaGreatApG
namespace Go.Proofs.YthiaclljcnincaaGreat
open Go.RowKit Num
open Sy (Up Sees CallsG Seg)
section
variable {k:World}{R:World→Value→Prop}{K L:Nat}{cs cs':Array Value}{x y:Rat}
theorem bBg {P:Program}{f:FuncId}{args:Array Value}{q:Rat}{e:Int}{K L:Nat}(h:∀w,Sees k w→Calls P f args w (aLe q e K L w)):CallsG P f args k (fun k' v=>∃u,v=.tuple #[u,.int .i64 e]∧aWs q K L k' u):=
 vX (fun _w' _k' _v hk ⟨u,e0,g,A,n,c,D,d,e,h0,h1,h2⟩=>⟨u,e0,g,A,n,c,D,d,e,h0,h1.kept hk,h2⟩) fun w hs=>(h w hs).mono fun _e _w' ⟨⟨g,A,n,c,D,d,e',h1,h2,h3⟩,hb⟩=>⟨⟨_,h1,_,rfl,g,A,n,c,D,d,e',rfl,h2,h3⟩,hb⟩
theorem rN (hx:RatV k cs x K) (hK:K≤17179869184)
 (C:∀k',Up k k'→R k' (.bool (decide (x=0)))):Cl k 31 #[.agg cs] R:=by
 obtain⟨g,A,n,c,D,d,e,rfl,hx,hn,hd⟩:=hx;exact after (fun k0 u=>aVv fun w hs=>aXc ((hx.up u).sees hs) oq) fun k' v u e=>e▸C k' u
theorem rM (hx:RatV k cs x K) (hK:K≤17179869184)
 (C:∀k',Up k k'→R k' (.int .i64 x.num.sign)):Cl k 32 #[.agg cs] R:=by
 obtain⟨g,A,n,c,D,d,e,rfl,hx,hn,hd⟩:=hx;exact after (fun k0 u=>aVv fun w hs=>aWx ((hx.up u).sees hs) oq) fun k' v u e=>e▸C k' u
theorem eR (hx:RatV k cs x K) (hK:K≤8589934592)
 (C:∀k',Up k k'→R k' (.string ⟨(aH x).toArray⟩)):Cl k 33 #[.agg cs] R:=by
 obtain⟨g,A,n,c,D,d,e,rfl,hx,hn,hd⟩:=hx;exact after (fun k0 u=>aVv fun w hs=>aWy ((hx.up u).sees hs) oq oq) fun k' v u e=>e▸C k' u
theorem sH {z:Int}(h0:-9223372036854775808≤z) (h1:z<9223372036854775808)
 (C:∀k' ds,Up k k'→RatV k' ds z 1→R k' (.agg ds)):Cl k 8 #[.int .i64 z] R:=
 after (fun k0 u=>bAr fun w hs=>aZn z h0 h1) fun k' v u hv=>by
  obtain⟨ds,rfl,hd⟩:=xX (M:=1) hv oq oq;exact C k' ds u hd
theorem aWr {a b:Int}(ia0:-9223372036854775808≤a) (ia1:a<9223372036854775808) (ib0:-9223372036854775808≤b) (ib1:b<9223372036854775808)
 (C:∀k' ds,Up k k'→RatV k' ds ((a:Rat) / (b:Rat)) 1→R k' (.tuple #[.agg ds,.int .i64 (if b=0 then 3 else 0)])):Cl k 50 #[.int .i64 a,.int .i64 b] R:=
 after (fun k0 u=>bBg fun w hs=>aZo a b ia0 ia1 ib0 ib1) fun k' v u ⟨t,e,hv⟩=>by
  obtain⟨ds,rfl,hd⟩:=xX (M:=1) hv oq oq;exact e▸C k' ds u hd
end
