/- The contracts of fractions, in the words of what is known. (Printed by gen/g2.py.) -/
import Derived.Test.YtifcjpacobpdmaaGreatTtG
namespace Go.Proofs.YtifcjpacobpdmaaGreat
open Go.RowKit Num
open Sy (Up Sees CallsG Seg)
section
variable {k:World}{R:World→Value→Prop}{K L:Nat}{cs cs':Array Value}{x y:Rat}
theorem aVx {P:Program}{f:FuncId}{args:Array Value}{q:Rat}{e:Int}{K L:Nat}(h:∀w,Sees k w→Calls P f args w (aCk q e K L w)):CallsG P f args k (fun k' v=>∃u,v=.tuple #[u,.int .i64 e]∧aRs q K L k' u):=
 uC (fun _w' _k' _v hk ⟨u,e0,g,A,n,c,D,d,e,h0,h1,h2⟩=>⟨u,e0,g,A,n,c,D,d,e,h0,h1.kept hk,h2⟩) fun w hs=>(h w hs).mono fun _e _w' ⟨⟨g,A,n,c,D,d,e',h1,h2,h3⟩,hb⟩=>⟨⟨_,h1,_,rfl,g,A,n,c,D,d,e',rfl,h2,h3⟩,hb⟩
theorem pZ (hx:RatV k cs x K) (hK:K≤17179869184)
 (C:∀k',Up k k'→R k' (.bool (decide (x=0)))):Cl k 166 #[.agg cs] R:=by
 obtain⟨g,A,n,c,D,d,e,rfl,hx,hn,hd⟩:=hx;exact after (fun k0 u=>aQx fun w hs=>aAb ((hx.up u).sees hs) oq) fun k' v u e=>e▸C k' u
theorem pY (hx:RatV k cs x K) (hK:K≤17179869184)
 (C:∀k',Up k k'→R k' (.int .i64 x.num.sign)):Cl k 150 #[.agg cs] R:=by
 obtain⟨g,A,n,c,D,d,e,rfl,hx,hn,hd⟩:=hx;exact after (fun k0 u=>aQx fun w hs=>aRv ((hx.up u).sees hs) oq) fun k' v u e=>e▸C k' u
theorem dM (hx:RatV k cs x K) (hK:K≤8589934592)
 (C:∀k',Up k k'→R k' (.string ⟨(aH x).toArray⟩)):Cl k 94 #[.agg cs] R:=by
 obtain⟨g,A,n,c,D,d,e,rfl,hx,hn,hd⟩:=hx;exact after (fun k0 u=>aQx fun w hs=>aRw ((hx.up u).sees hs) oq oq) fun k' v u e=>e▸C k' u
theorem aRq (hx:RatV k cs x K) (hy:RatV k cs' y K) (hK1:1≤K) (hK:K≤1073741824)
 (C:∀k' ds,Up k k'→RatV k' ds (x+y) (2*K+1)→R k' (.agg ds)):Cl k 58 #[.agg cs,.agg cs'] R:=by
 obtain⟨g,A,n,c,D,d,e,rfl,hx,hn,hd⟩:=hx;obtain⟨g',A',n',c',D',d',e',rfl,hy,hn',hd'⟩:=hy;exact after (fun k0 u=>aUa fun w hs=>aUr ((hx.up u).sees hs) ((hy.up u).sees hs) hK1 hn hd hn' hd' hK) fun k' v u hv=>by
  obtain⟨ds,rfl,hd⟩:=mX (M:=2*K+1) hv oq oq;exact C k' ds u hd
theorem nO {z:Int}(h0:-9223372036854775808≤z) (h1:z<9223372036854775808)
 (C:∀k' ds,Up k k'→RatV k' ds z 1→R k' (.agg ds)):Cl k 60 #[.int .i64 z] R:=
 after (fun k0 u=>aUa fun w hs=>aUw z h0 h1) fun k' v u hv=>by
  obtain⟨ds,rfl,hd⟩:=mX (M:=1) hv oq oq;exact C k' ds u hd
theorem aHu {a b:Int}(ia0:-9223372036854775808≤a) (ia1:a<9223372036854775808) (ib0:-9223372036854775808≤b) (ib1:b<9223372036854775808)
 (C:∀k' ds,Up k k'→RatV k' ds ((a:Rat) / (b:Rat)) 1→R k' (.tuple #[.agg ds,.int .i64 (if b=0 then 3 else 0)])):Cl k 186 #[.int .i64 a,.int .i64 b] R:=
 after (fun k0 u=>aVx fun w hs=>aUx a b ia0 ia1 ib0 ib1) fun k' v u ⟨t,e,hv⟩=>by
  obtain⟨ds,rfl,hd⟩:=mX (M:=1) hv oq oq;exact e▸C k' ds u hd
theorem aRr (hx:RatV k cs x K) (hy:RatV k cs' y K) (hK1:1≤K) (hK:K≤1073741824)
 (C:∀k' ds,Up k k'→RatV k' ds (x/y) (2*K)→R k' (.tuple #[.agg ds,.int .i64 (if y=0 then 3 else 0)])):Cl k 86 #[.agg cs,.agg cs'] R:=by
 obtain⟨g,A,n,c,D,d,e,rfl,hx,hn,hd⟩:=hx;obtain⟨g',A',n',c',D',d',e',rfl,hy,hn',hd'⟩:=hy;exact after (fun k0 u=>aVx fun w hs=>aUu ((hx.up u).sees hs) ((hy.up u).sees hs) hK1 hn hd hn' hd' hK) fun k' v u ⟨t,e,hv⟩=>by
  obtain⟨ds,rfl,hd⟩:=mX (M:=2*K) hv oq oq;exact e▸C k' ds u hd
end
