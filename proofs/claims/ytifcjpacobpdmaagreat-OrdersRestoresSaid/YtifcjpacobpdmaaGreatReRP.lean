/- Several texts in one. (Printed by prep.py.) -/
import Derived.Test.YtifcjpacobpdmaaGreatReNP
import Derived.Great.Walk
import Derived.Laws.ResultCell
import Derived.Laws.Rows
namespace Go.Proofs.YtifcjpacobpdmaaGreat
open Go.RowKit
open Value (agg slice int bool tuple)
open Sy (Up Sees CallsG Seg execFn_use)
set_option maxRecDepth 100000
variable {k:World}{R:World→Value→Prop}
end Go.Proofs.YtifcjpacobpdmaaGreat

namespace Go.Proofs.YtifcjpacobpdmaaGreat
open Go.RowKit Num Plain
open Sy (Up Sees CallsG Seg)
section
variable {k k':World}{R:World→Value→Prop}{K L:Nat}{cs cs':Array Value}{x y:W4}{v v':Q4}
end
open Value (agg slice int bool tuple)
open Sy (Up Sees CallsG Seg execFn_use)
set_option maxRecDepth 100000
variable {k:World}{R:World→Value→Prop}
end Go.Proofs.YtifcjpacobpdmaaGreat

namespace Go.Proofs.YtifcjpacobpdmaaGreat
open Go.RowKit Num Plain W32
open Sy (Up Sees CallsG Seg)
section
variable {k k':World}{R:World→Value→Prop}{K L:Nat}{cs cs':Array Value}{x y:W4}{v v':Q4}
end
open Value (agg slice int bool tuple)
open Sy (Up Sees CallsG Seg execFn_use)
set_option maxRecDepth 100000
variable {k:World}{R:World→Value→Prop}{cs0 cs1:Array Value}
theorem aDl (hcs0:Seg 9 cs0) (hcs1:Seg 9 cs1)
 (h:Cl k 144 #[] fun k1 r0=>Gt 3 r0 fun cs2=>
 Cl k1 161 #[agg cs0,agg cs2] fun k3 r2=>∃n3:Nat,some (Value.float .f64 n3)=some r2∧
 (Sy.f2fOk .f64 .f32 n3)=true∧
 (Cl k3 144 #[] fun k5 r4=>Gt 3 r4 fun cs4=>
 Cl k5 161 #[agg cs1,agg cs4] fun k7 r6=>∃n5:Nat,some (Value.float .f64 n5)=some r6∧
 (Sy.f2fOk .f64 .f32 n5)=true∧
 (Rt R k7 (Value.complex .f32 (Sy.f2f .f64 .f32 n3) (Sy.f2f .f64 .f32 n5))))) :
   CallsG Tryz.prog 73 #[agg (cs0.toList++(cs1.toList++([]))).toArray] k R:=
  qX { opq:=[35,308] } [.agg [.seg 0 9,.seg 1 9]] [agg cs0,agg cs1] [.seg 9,.seg 9] ⟨⟨cs0,rfl,hcs0⟩,⟨cs1,rfl,hcs1⟩,trivial⟩ h
end Go.Proofs.YtifcjpacobpdmaaGreat

namespace Go.Proofs.YtifcjpacobpdmaaGreat
open Go.RowKit Num Plain W32 Ieee FT
open Sy (Up Sees CallsG Seg)
section
variable {k k':World}{R:World→Value→Prop}{x q:Rat}{K L:Nat}{cs cs':Array Value}{v:Q4}{w:W4}
theorem aBj {W:Nat}(h:Near4 v 24 (-149) 128 W):Sy.f2fOk .f64 .f32 W=true:=by
 obtain⟨lo,hi,_,_,rfl,_⟩:=h;exact (aKc lo.den_nz).1
def aMt (w:W4) (bits:Nat) (least beyond:Int) (a b:Nat):Prop:=Near4 w.re bits least beyond a∧Near4 w.im bits least beyond b
theorem aGj (hx:WaveV k cs w K) (hK1:1≤K) (hK:K≤500) (C:∀k' a b,Up k k'→aMt w 24 (-149) 128 a b→R k' (.complex .f32 (Sy.f2f .f64 .f32 a) (Sy.f2f .f64 .f32 b))) :
 Cl k 73 #[.agg cs] R:=by
 intro k0 u0;obtain⟨c0,c1,rfl,h0,h1⟩:=hx.up u0;refine aDl h0.seg h1.seg ?_;refine fun k1 u1=>xL fun k2 u2=>⟨_,⟨rfl,by simp [Value.scalar,Value.noWord]⟩,rfl,?_⟩;refine aDk (bits:=24) gV oz (h0.up (u1.trans u2)) hK1 hK fun k3 a u3 ha=>⟨_,rfl,aBj ha,?_⟩;refine fun k5 u5=>xL fun k6 u6=>⟨_,⟨rfl,by simp [Value.scalar,Value.noWord]⟩,rfl,?_⟩;refine aDk (bits:=24) gV oz (h1.up (u1.trans (u2.trans (u3.trans (u5.trans u6))))) hK1 hK fun k7 b u7 hb=>⟨_,rfl,aBj hb,fun k8 u8=>?_⟩;exact C k8 a b (u0.trans (u1.trans (u2.trans (u3.trans (u5.trans (u6.trans (u7.trans u8))))))) ⟨ha,hb⟩
end
open IntKind (wrap)
open Value (agg slice int bool tuple)
open Sy (Up Sees CallsG Seg execFn_use)
set_option maxRecDepth 100000
variable {k:World}{R:World→Value→Prop}{cs0:Array Value}
theorem aKr (hcs0:Seg 234 cs0)
 (h:∃I0:Nat→World→List Value→Prop,(∃m0,∀k0,Up k k0→I0 m0 k0 [int .i64 0,agg #[Value.complex .f32 0 0,Value.complex .f32 0 0,Value.complex .f32 0 0,Value.complex .f32 0 0,Value.complex .f32 0 0,Value.complex .f32 0 0,Value.complex .f32 0 0,Value.complex .f32 0 0,Value.complex .f32 0 0,Value.complex .f32 0 0,Value.complex .f32 0 0,Value.complex .f32 0 0,Value.complex .f32 0 0]])∧
 ∀m0 k0 vs0,Up k k0→I0 m0 k0 vs0→∃n1,∃cs2,Seg 13 cs2∧some [int .i64 n1,agg cs2]=some vs0∧
 Br (decide ((n1:Int)<13)) ((decide ((0:Int)≤n1∧(n1:Int)<13))=true∧
 (Cl k0 73 #[agg (Sy.pickL cs0 (Int.toNat n1*18+0) 18).toArray] fun k2 r1=>∃n3 y3:Nat,some (Value.complex .f32 n3 y3)=some r1∧
 (decide ((0:Int)≤n1∧(n1:Int)<13))=true∧
 (∀k3,Up k2 k3→∃m,m<m0∧I0 m k3 [int .i64 (wrap .i64 (n1+1)),agg (Sy.over cs2 (Int.toNat n1*1+0) [Value.complex .f32 n3 y3])]))) (Rt R k0 (agg cs2))) :
   CallsG Tryz.prog 12 #[agg cs0] k R:=
  qX { opq:=[39,37,55],loops:=[(0,[.tmp 7 false [.int .i64],.blk 2 [.seg 13]])] } [.agg [.seg 0 234]] [agg cs0] [.seg 234] ⟨⟨cs0,rfl,hcs0⟩,trivial⟩ h
end Go.Proofs.YtifcjpacobpdmaaGreat

namespace Go.Proofs.YtifcjpacobpdmaaGreat
open Go.RowKit Num Plain W32 FT
open Sy (Up Sees CallsG Seg RowC dead)
theorem aMy {w:World}{a:Nat}:(callFunc 76 #[.float .f64 a]).run Tryz.prog w=.ok (.value (.int .u64 (a:Int))) w:=by
 have h:Tryz.prog.funcs[76]?=some Tryz.f76:=Tryz.func76;obtain⟨e1,e2⟩:=Sy.ext_next (fn:=Tryz.f76) rfl rfl (.inl rfl);rw [run_callFunc_extern h e2 rfl e1 (Sy.ext_find.1 rfl)];rfl
attribute [local go_sem] aMy
section
variable {k:World}{R:World→Value→Prop}{a b:Nat}
end
end Go.Proofs.YtifcjpacobpdmaaGreat

namespace Go.Proofs.YtifcjpacobpdmaaGreat
open Go.RowKit Num Plain W32 Ieee FT
open Sy (Up Sees CallsG Seg)
def CellF (kd:FloatKind) (bits:Nat) (least beyond:Int) (g:Nat→Nat) (a:Array Value) (w:W4):Prop:=∃x y,aMt w bits least beyond x y∧a=#[.complex kd (g x) (g y)]
abbrev bCp (cs:Array Value) (p:Nat→W4):Prop:=ArrV 13 1 (CellF .f64 53 (-1074) 1024 id) cs p
abbrev bBy (cs:Array Value) (p:Nat→W4):Prop:=ArrV 13 1 (CellF .f32 24 (-149) 128 (Sy.f2f .f64 .f32)) cs p
theorem mB {kd:FloatKind}{x y:Nat}:Seg 1 #[Value.complex kd x y]:=⟨rfl,by simp [Value.scalar,Value.noWord]⟩
theorem CellF.seg {kd:FloatKind}{bits:Nat}{least beyond:Int}{g:Nat→Nat}{a:Array Value}{w:W4}(h:CellF kd bits least beyond g a w):Seg 1 a:=by
 obtain⟨x,y,_,rfl⟩:=h;exact mB
theorem aGt {cs:Array Value}{j:Nat}{u:Value}(hj:j<cs.size) (hu:u.scalar=true) (h:(Sy.pickL cs (Int.toNat (j:Int)*1+0) 1).toArray=#[u]):Sy.celD cs (Int.toNat (j:Int)*1)=some u:=by
 have e:cs[j]?=some u:=by
  have:=congrArg (fun l=>l[0]?) h;simp only [Sy.pickL]at this;rw [qx hj];simpa [Array.getElem?_eq_getElem hj] using this
 rw [qj,jj];unfold Sy.celD;rw [e];cases u <;> first|rfl|cases hu
section
variable {k k':World}{R:World→Value→Prop}{K:Nat}{cs:Array Value}{p:Nat→W4}{a b:Nat}
theorem aWd (hx:SpecV k cs p K) (hK1:1≤K) (hK:K≤500) (C:∀k' ds,Up k k'→bBy ds p→R k' (.agg ds)):Cl k 12 #[.agg cs] R:=by
 intro k0 u0;replace hx:=hx.up u0;replace C:=fun k' ds u=>C k' ds (u0.trans u)
 refine aKr hx.seg ⟨fun m _ vs=>∃j c,j+m=13∧vs=[.int .i64 (j:Int),.agg c]∧ArrV 13 1 (optP 1 (CellF .f32 24 (-149) 128 (Sy.f2f .f64 .f32))) c (cut j (fun i=>some (p i)) fun _=>none),
  ⟨13,fun _ _=>⟨0,iK 13 [.complex .f32 0 0],rfl,rfl,ArrV.start (ArrV.zero (s:=1) (z:=[.complex .f32 0 0]) rfl none mB)⟩⟩,?_⟩
 rintro m k1 vs u1 ⟨j,c,hj,rfl,hc⟩;refine⟨_,c,ArrV.seg hc fun _ _ h=>optP.seg (fun _ h=>h.seg) h,rfl,fun hlt=>?_,fun hge k2 u2=>?_⟩
 ·have hlt:=lt13 hlt;refine⟨ix13 hlt,aGj (ArrV.get (hx.up u1) hlt) hK1 hK fun k2 a b u2 hn=>⟨_,_,rfl,ix13 hlt,fun k3 u3=>?_⟩⟩;exact⟨m-1,oq,j+1,_,oq,by rw [wup oq],ArrV.step (ys:=#[.complex .f32 (Sy.f2f .f64 .f32 a) (Sy.f2f .f64 .f32 b)]) hc hlt rfl ⟨a,b,hn,rfl⟩⟩
 ·exact C k2 c (u1.trans u2) (ArrV.all (ArrV.done (F:=fun i=>some (p i)) hc (ge13 hge)))
theorem CellF.cel {kd:FloatKind}{bits:Nat}{least beyond:Int}{g:Nat→Nat}{j:Nat}(h:ArrV 13 1 (CellF kd bits least beyond g) cs p) (hj:j<13) :
 ∃x y,aMt (p j) bits least beyond x y∧Sy.celD cs (Int.toNat (j:Int)*1)=some (.complex kd (g x) (g y)):=by
 obtain⟨x,y,h1,h2⟩:=ArrV.get h hj;exact⟨x,y,h1,aGt (by rw [h.size];omega) rfl h2⟩
end
