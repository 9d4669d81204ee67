/- Several texts in one. (Printed by prep.py.) -/
import Derived.Test.YtifcjpacobpdmaaGreatRpNP
import Derived.Great.Walk
import Derived.Laws.ResultCell
import Derived.Laws.Rows
namespace Go.Proofs.YtifcjpacobpdmaaGreat
open Go.RowKit
open Value (agg slice int bool tuple)
open Sy (Up Sees CallsG Seg execFn_use)
set_option maxRecDepth 100000
variable {k:World}{R:World→Value→Prop}
end Go.Proofs.YtifcjpacobpdmaaGreat

namespace Go.Proofs.YtifcjpacobpdmaaGreat
open Go.RowKit Num Plain
open Sy (Up Sees CallsG Seg)
section
variable {k k':World}{R:World→Value→Prop}{K L:Nat}{cs cs':Array Value}{x y:W4}{v v':Q4}
end
open Value (agg slice int bool tuple)
open Sy (Up Sees CallsG Seg execFn_use)
set_option maxRecDepth 100000
variable {k:World}{R:World→Value→Prop}
end Go.Proofs.YtifcjpacobpdmaaGreat

namespace Go.Proofs.YtifcjpacobpdmaaGreat
open Go.RowKit Num Plain W32
open Sy (Up Sees CallsG Seg)
section
variable {k k':World}{R:World→Value→Prop}{K L:Nat}{cs cs':Array Value}{x y:W4}{v v':Q4}
end
open Value (agg slice int bool tuple)
open Sy (Up Sees CallsG Seg execFn_use)
set_option maxRecDepth 100000
variable {k:World}{R:World→Value→Prop}{cs0 cs1:Array Value}
theorem aMb (hcs0:Seg 9 cs0) (hcs1:Seg 9 cs1)
 (h:Cl k 160 #[agg cs0] fun k1 r0=>∃n2:Nat,some (Value.float .f64 n2)=some r0∧
 Cl k1 160 #[agg cs1] fun k3 r2=>∃n3:Nat,some (Value.float .f64 n3)=some r2∧
 Rt R k3 (Value.complex .f64 n2 n3)) :
  CallsG Tryz.prog 72 #[agg (cs0.toList++(cs1.toList++([]))).toArray] k R:=
  qX { opq:=[35] } [.agg [.seg 0 9,.seg 1 9]] [agg cs0,agg cs1] [.seg 9,.seg 9] ⟨⟨cs0,rfl,hcs0⟩,⟨cs1,rfl,hcs1⟩,trivial⟩ h
theorem aCq (hcs0:Seg 9 cs0) (hcs1:Seg 9 cs1)
 (h:Cl k 144 #[] fun k1 r0=>Gt 3 r0 fun cs2=>
 Cl k1 161 #[agg cs0,agg cs2] fun k3 r2=>∃n3:Nat,some (Value.float .f64 n3)=some r2∧
 (Sy.f2fOk .f64 .f32 n3)=true∧
 (Cl k3 144 #[] fun k5 r4=>Gt 3 r4 fun cs4=>
 Cl k5 161 #[agg cs1,agg cs4] fun k7 r6=>∃n5:Nat,some (Value.float .f64 n5)=some r6∧
 (Sy.f2fOk .f64 .f32 n5)=true∧
 (Rt R k7 (Value.complex .f32 (Sy.f2f .f64 .f32 n3) (Sy.f2f .f64 .f32 n5))))) :
   CallsG Tryz.prog 73 #[agg (cs0.toList++(cs1.toList++([]))).toArray] k R:=
  qX { opq:=[35,308] } [.agg [.seg 0 9,.seg 1 9]] [agg cs0,agg cs1] [.seg 9,.seg 9] ⟨⟨cs0,rfl,hcs0⟩,⟨cs1,rfl,hcs1⟩,trivial⟩ h
theorem aLl (hcs0:Seg 12 cs0) (hcs1:Seg 12 cs1)
 (h:Cl k 74 #[agg cs0] fun k1 r0=>∃n2:Nat,some (Value.float .f64 n2)=some r0∧
 Cl k1 74 #[agg cs1] fun k3 r2=>∃n3:Nat,some (Value.float .f64 n3)=some r2∧
 Rt R k3 (Value.complex .f64 n2 n3)) :
  CallsG Tryz.prog 13 #[agg (cs0.toList++(cs1.toList++([]))).toArray] k R:=
  qX { opq:=[44] } [.agg [.seg 0 12,.seg 1 12]] [agg cs0,agg cs1] [.seg 12,.seg 12] ⟨⟨cs0,rfl,hcs0⟩,⟨cs1,rfl,hcs1⟩,trivial⟩ h
theorem aBt (hcs0:Seg 12 cs0) (hcs1:Seg 12 cs1)
 (h:Cl k 75 #[agg cs0,int .i64 24,int .i64 (-149),int .i64 127] fun k1 r0=>∃n2:Nat,some (Value.float .f64 n2)=some r0∧
 (Sy.f2fOk .f64 .f32 n2)=true∧
 (Cl k1 75 #[agg cs1,int .i64 24,int .i64 (-149),int .i64 127] fun k3 r2=>∃n3:Nat,some (Value.float .f64 n3)=some r2∧
 (Sy.f2fOk .f64 .f32 n3)=true∧
 (Rt R k3 (Value.complex .f32 (Sy.f2f .f64 .f32 n2) (Sy.f2f .f64 .f32 n3))))) :
   CallsG Tryz.prog 14 #[agg (cs0.toList++(cs1.toList++([]))).toArray] k R:=
  qX { opq:=[44] } [.agg [.seg 0 12,.seg 1 12]] [agg cs0,agg cs1] [.seg 12,.seg 12] ⟨⟨cs0,rfl,hcs0⟩,⟨cs1,rfl,hcs1⟩,trivial⟩ h
end Go.Proofs.YtifcjpacobpdmaaGreat

namespace Go.Proofs.YtifcjpacobpdmaaGreat
open Go.RowKit Num Plain W32 Ieee FT
open Sy (Up Sees CallsG Seg)
section
variable {k k':World}{R:World→Value→Prop}{x q:Rat}{K L:Nat}{cs cs':Array Value}{v:Q4}{w:W4}
theorem oA {W:Nat}(h:Near4 v 24 (-149) 128 W):Sy.f2fOk .f64 .f32 W=true:=by
 obtain⟨lo,hi,_,_,rfl,_⟩:=h;exact (wC lo.den_nz).1
def vA (w:W4) (bits:Nat) (least beyond:Int) (a b:Nat):Prop:=Near4 w.re bits least beyond a∧Near4 w.im bits least beyond b
theorem aSs (hx:WaveV k cs w K) (hK1:1≤K) (hK:K≤500) (C:∀k' a b,Up k k'→vA w 53 (-1074) 1024 a b→R k' (.complex .f64 a b)) :
 Cl k 72 #[.agg cs] R:=by
 intro k0 u0;obtain⟨c0,c1,rfl,h0,h1⟩:=hx.up u0;refine aMb h0.seg h1.seg ?_;refine aCp h0 hK1 hK fun k1 a u1 ha=>⟨_,rfl,?_⟩;refine aCp (h1.up u1) hK1 hK fun k3 b u3 hb=>⟨_,rfl,fun k4 u4=>?_⟩;exact C k4 a b (u0.trans (u1.trans (u3.trans u4))) ⟨ha,hb⟩
theorem aFv (hx:WaveV k cs w K) (hK1:1≤K) (hK:K≤500) (C:∀k' a b,Up k k'→vA w 24 (-149) 128 a b→R k' (.complex .f32 (Sy.f2f .f64 .f32 a) (Sy.f2f .f64 .f32 b))) :
 Cl k 73 #[.agg cs] R:=by
 intro k0 u0;obtain⟨c0,c1,rfl,h0,h1⟩:=hx.up u0;refine aCq h0.seg h1.seg ?_;refine fun k1 u1=>xA fun k2 u2=>⟨_,⟨rfl,by simp [Value.scalar,Value.noWord]⟩,rfl,?_⟩;refine uP (bits:=24) gL oz (h0.up (u1.trans u2)) hK1 hK fun k3 a u3 ha=>⟨_,rfl,oA ha,?_⟩;refine fun k5 u5=>xA fun k6 u6=>⟨_,⟨rfl,by simp [Value.scalar,Value.noWord]⟩,rfl,?_⟩;refine uP (bits:=24) gL oz (h1.up (u1.trans (u2.trans (u3.trans (u5.trans u6))))) hK1 hK fun k7 b u7 hb=>⟨_,rfl,oA hb,fun k8 u8=>?_⟩;exact C k8 a b (u0.trans (u1.trans (u2.trans (u3.trans (u5.trans (u6.trans (u7.trans u8))))))) ⟨ha,hb⟩
theorem aQs (hx:WQ k cs w (2*K)) (h0:Bel w.re (B64^K)) (h1:Bel w.im (B64^K)) (hK:K≤200) (C:∀k' a b,Up k k'→vA w 53 (-1074) 1024 a b→R k' (.complex .f64 a b)) :
 Cl k 13 #[.agg cs] R:=by
 intro k0 u0;obtain⟨c0,c1,rfl,q0,q1⟩:=hx.up u0;refine aLl q0.seg q1.seg ?_;refine aBo q0 h0 hK fun k1 a u1 ha=>⟨_,rfl,?_⟩;refine aBo (q1.up u1) h1 hK fun k3 b u3 hb=>⟨_,rfl,fun k4 u4=>?_⟩;exact C k4 a b (u0.trans (u1.trans (u3.trans u4))) ⟨ha,hb⟩
theorem aFa (hx:WQ k cs w (2*K)) (h0:Bel w.re (B64^K)) (h1:Bel w.im (B64^K)) (hK:K≤200) (C:∀k' a b,Up k k'→vA w 24 (-149) 128 a b→R k' (.complex .f32 (Sy.f2f .f64 .f32 a) (Sy.f2f .f64 .f32 b))) :
 Cl k 14 #[.agg cs] R:=by
 intro k0 u0;obtain⟨c0,c1,rfl,q0,q1⟩:=hx.up u0;refine aBt q0.seg q1.seg ?_;refine tX (bits:=24) (top:=127) gL q0 h0 hK oz oz oz oz oz oz oz fun k1 a u1 ha=>⟨_,rfl,oA ha,?_⟩;refine tX (bits:=24) (top:=127) gL (q1.up u1) h1 hK oz oz oz oz oz oz oz fun k3 b u3 hb=>⟨_,rfl,oA hb,fun k4 u4=>?_⟩;exact C k4 a b (u0.trans (u1.trans (u3.trans u4))) ⟨ha,hb⟩
end
open IntKind (wrap)
open Value (agg slice int bool tuple)
open Sy (Up Sees CallsG Seg execFn_use)
set_option maxRecDepth 100000
variable {k:World}{R:World→Value→Prop}{cs0:Array Value}
theorem aEh (hcs0:Seg 234 cs0)
 (h:∃I0:Nat→World→List Value→Prop,(∃m0,∀k0,Up k k0→I0 m0 k0 [int .i64 0,agg #[Value.complex .f64 0 0,Value.complex .f64 0 0,Value.complex .f64 0 0,Value.complex .f64 0 0,Value.complex .f64 0 0,Value.complex .f64 0 0,Value.complex .f64 0 0,Value.complex .f64 0 0,Value.complex .f64 0 0,Value.complex .f64 0 0,Value.complex .f64 0 0,Value.complex .f64 0 0,Value.complex .f64 0 0]])∧
 ∀m0 k0 vs0,Up k k0→I0 m0 k0 vs0→∃n1,∃cs2,Seg 13 cs2∧some [int .i64 n1,agg cs2]=some vs0∧
 Br (decide ((n1:Int)<13)) ((decide ((0:Int)≤n1∧(n1:Int)<13))=true∧
 (Cl k0 72 #[agg (Sy.pickL cs0 (Int.toNat n1*18+0) 18).toArray] fun k2 r1=>∃n3 y3:Nat,some (Value.complex .f64 n3 y3)=some r1∧
 (decide ((0:Int)≤n1∧(n1:Int)<13))=true∧
 (∀k3,Up k2 k3→∃m,m<m0∧I0 m k3 [int .i64 (wrap .i64 (n1+1)),agg (Sy.over cs2 (Int.toNat n1*1+0) [Value.complex .f64 n3 y3])]))) (Rt R k0 (agg cs2))) :
   CallsG Tryz.prog 11 #[agg cs0] k R:=
  qX { opq:=[39,37,52],loops:=[(0,[.tmp 7 false [.int .i64],.blk 2 [.seg 13]])] } [.agg [.seg 0 234]] [agg cs0] [.seg 234] ⟨⟨cs0,rfl,hcs0⟩,trivial⟩ h
theorem aKd (hcs0:Seg 234 cs0)
 (h:∃I0:Nat→World→List Value→Prop,(∃m0,∀k0,Up k k0→I0 m0 k0 [int .i64 0,agg #[Value.complex .f32 0 0,Value.complex .f32 0 0,Value.complex .f32 0 0,Value.complex .f32 0 0,Value.complex .f32 0 0,Value.complex .f32 0 0,Value.complex .f32 0 0,Value.complex .f32 0 0,Value.complex .f32 0 0,Value.complex .f32 0 0,Value.complex .f32 0 0,Value.complex .f32 0 0,Value.complex .f32 0 0]])∧
 ∀m0 k0 vs0,Up k k0→I0 m0 k0 vs0→∃n1,∃cs2,Seg 13 cs2∧some [int .i64 n1,agg cs2]=some vs0∧
 Br (decide ((n1:Int)<13)) ((decide ((0:Int)≤n1∧(n1:Int)<13))=true∧
 (Cl k0 73 #[agg (Sy.pickL cs0 (Int.toNat n1*18+0) 18).toArray] fun k2 r1=>∃n3 y3:Nat,some (Value.complex .f32 n3 y3)=some r1∧
 (decide ((0:Int)≤n1∧(n1:Int)<13))=true∧
 (∀k3,Up k2 k3→∃m,m<m0∧I0 m k3 [int .i64 (wrap .i64 (n1+1)),agg (Sy.over cs2 (Int.toNat n1*1+0) [Value.complex .f32 n3 y3])]))) (Rt R k0 (agg cs2))) :
   CallsG Tryz.prog 12 #[agg cs0] k R:=
  qX { opq:=[39,37,55],loops:=[(0,[.tmp 7 false [.int .i64],.blk 2 [.seg 13]])] } [.agg [.seg 0 234]] [agg cs0] [.seg 234] ⟨⟨cs0,rfl,hcs0⟩,trivial⟩ h
theorem aBe (hcs0:Seg 208 cs0)
 (h:Cl k 10 #[agg cs0] fun k1 r0=>∃cs1,Seg 234 cs1∧∃cs2,Seg 312 cs2∧some (tuple #[agg cs1,agg cs2])=some r0∧
 Cl k1 11 #[agg cs1] fun k3 r2=>Gt 13 r2 fun cs3=>
 Cl k3 12 #[agg cs1] fun k5 r4=>Gt 13 r4 fun cs4=>
 ∃I6:Nat→World→List Value→Prop,(∃m6,∀k6,Up k5 k6→I6 m6 k6 [int .i64 0])∧
 ∀m6 k6 vs6,Up k5 k6→I6 m6 k6 vs6→∃n5,some [int .i64 n5]=some vs6∧
 Br (decide ((n5:Int)<13)) ((decide ((0:Int)≤n5∧(n5:Int)<13))=true∧
 ((decide ((0:Int)≤n5∧(n5:Int)<13))=true∧
 (Cl k6 13 #[agg (Sy.pickL cs2 (Int.toNat n5*24+0) 24).toArray] fun k8 r7=>∃n6 y6:Nat,some (Value.complex .f64 n6 y6)=some r7∧
 Cl k8 14 #[agg (Sy.pickL cs2 (Int.toNat n5*24+0) 24).toArray] fun k10 r9=>∃n7 y7:Nat,some (Value.complex .f32 n7 y7)=some r9∧
 (decide ((0:Int)≤n5∧(n5:Int)<13))=true∧
 (∃n8 y8:Nat,Sy.celD cs3 (Int.toNat n5*1)=some (Value.complex .f64 n8 y8)∧
 Cl k10 15 #[Value.complex .f64 n8 y8] fun k12 r11=>∃n9,∃n10,some (agg #[int .u64 n9,int .u64 n10])=some r11∧
 Cl k12 15 #[Value.complex .f64 n6 y6] fun k14 r13=>∃n11,∃n12,some (agg #[int .u64 n11,int .u64 n12])=some r13∧
 Br (!(if ((n9:Int) == n11)=true then (if ((n10:Int) == n12)=true then true else false) else false)) (Rt R k14 (bool false)) ((decide ((0:Int)≤n5∧(n5:Int)<13))=true∧
 (∃n13 y13:Nat,Sy.celD cs4 (Int.toNat n5*1)=some (Value.complex .f32 n13 y13)∧
 (Sy.f2fOk .f32 .f64 n13 && Sy.f2fOk .f32 .f64 y13)=true∧
 (Cl k14 15 #[Value.complex .f64 (Sy.f2f .f32 .f64 n13) (Sy.f2f .f32 .f64 y13)] fun k17 r16=>∃n14,∃n15,some (agg #[int .u64 n14,int .u64 n15])=some r16∧
 (Sy.f2fOk .f32 .f64 n7 && Sy.f2fOk .f32 .f64 y7)=true∧
 (Cl k17 15 #[Value.complex .f64 (Sy.f2f .f32 .f64 n7) (Sy.f2f .f32 .f64 y7)] fun k19 r18=>∃n16,∃n17,some (agg #[int .u64 n16,int .u64 n17])=some r18∧
 Br (!(if ((n14:Int) == n16)=true then (if ((n15:Int) == n17)=true then true else false) else false)) (Rt R k19 (bool false)) (∀k21,Up k19 k21→∃m,m<m6∧I6 m k21 [int .i64 (wrap .i64 (n5+1))]))))))))) (Cl k6 16 #[] fun k23 r22=>Gb r22 fun b6=>
 Rt R k23 (bool b6))) :
  CallsG Tryz.prog 3 #[agg cs0] k R:=
  qX { opq:=[28,39,48,37,46,52,55],loops:=[(0,[.tmp 19 false [.int .i64]])] } [.agg [.seg 0 208]] [agg cs0] [.seg 208] ⟨⟨cs0,rfl,hcs0⟩,trivial⟩ h
end Go.Proofs.YtifcjpacobpdmaaGreat

namespace Go.Proofs.YtifcjpacobpdmaaGreat
open Go.RowKit Num Plain W32 FT
open Sy (Up Sees CallsG Seg RowC dead)
theorem aMk {w:World}{a:Nat}:(callFunc 76 #[.float .f64 a]).run Tryz.prog w=.ok (.value (.int .u64 (a:Int))) w:=by
 have h:Tryz.prog.funcs[76]?=some Tryz.f76:=Tryz.func76;obtain⟨e1,e2⟩:=Sy.ext_next (fn:=Tryz.f76) rfl rfl (.inl rfl);rw [run_callFunc_extern h e2 rfl e1 (Sy.ext_find.1 rfl)];rfl
attribute [local go_sem] aMk
set_option maxRecDepth 100000 in
theorem bits_w {w:World}{a b:Nat}:Calls Tryz.prog 15 #[.complex .f64 a b] w fun e w'=>
 e=.returned (.agg #[.int .u64 (a:Int),.int .u64 (b:Int)])∧Below w.heap.size w w':=by
 go_enter Tryz.func15,Tryz.ntmps15
 go_upto_region 1 with (fail)
 go_wp2
 have hb:Sy.Blk (w.alloc (.cells #[.int .u64 (a:Int),.int .u64 (b:Int)] 60)) w.heap.size 60 #[.int .u64 (a:Int),.int .u64 (b:Int)]:=heap_alloc_new w _;exact⟨rfl,_,results_cell_row rfl _ _ w.heap.size 60 _ (0,0) _ rfl hb Tryz.underlying60 rfl ox,rfl,(Below.refl _ w).alloc (oy _) _⟩
theorem aZu {P:Program}{f:FuncId}{args:Array Value}{k:World}{F:World→World→Value→Prop}{G:World→Value→Prop}
 (hF:∀w w' k' v,Sees k w→F w w' v→Up k k'→k'.heap.size=w'.heap.size→(∀g,k.heap.size≤g→k'.heap[g]?=w'.heap[g]?)→G k' v)
 (h:∀w,Sees k w→Calls P f args w fun e w'=>(∃v,e=.returned v∧F w w' v)∧Below w.heap.size w w'):CallsG P f args k G:=by
 classical
 intro w hs;refine (h w hs).mono ?_;rintro e w' ⟨⟨v,rfl,hv⟩,hb⟩
 let k':World:={ w' with heap:=w'.heap.mapIdx fun i o=>if k.heap[i]?=some Sy.dead then Sy.dead else o }
 have hk:∀(g:Nat),k'.heap[g]?=(w'.heap[g]?).map fun o=>if k.heap[g]?=some Sy.dead then Sy.dead else o:=fun g=>by
  show (w'.heap.mapIdx _)[g]?=_;rw [Array.getElem?_mapIdx]
 have hsize:k'.heap.size=w'.heap.size:=by simp [k']
 have hbel:Below k.heap.size k k':=by
  refine⟨hb.os.trans hs.os,hb.tape.trans hs.tape,hb.output.trans hs.output,by rw [hsize,←hs.size];exact hb.size,fun g hg=>?_⟩;rw [hk];have hlt:g<w.heap.size:=by rw [hs.size];exact hg
  rw [hb.block g hlt]
  by_cases hd:k.heap[g]?=some Sy.dead
  ·rw [oc hlt];simp [hd]
  ·rw [oc hg]at hd ⊢;have:=hs.live g _ (oc hg) (fun e=>hd (by rw [e]));rw [this];simp [hd]
 refine⟨v,k',rfl,?_,hbel,hb,hF w w' k' v hs hv (Up.of_below hbel) hsize fun g hg=>?_⟩
 ·refine⟨rfl,rfl,rfl,hsize.symm,fun g o hg hd=>?_,fun g hg=>?_⟩
  ·rw [hk]at hg;cases hw:w'.heap[g]? with
   | none=>rw [hw]at hg;cases hg
   | some o'=>
    rw [hw]at hg;simp only [jt,jv]at hg;split at hg
    ·exact absurd hg.symm hd
    ·rw [hg]
  ·rw [hk]at hg;cases hw:w'.heap[g]? with
   | none=>rw [hw]at hg;cases hg
   | some o'=>
    rw [hw]at hg;simp only [jt,jv]at hg;split at hg
    ·rename_i hd;obtain⟨cs,t,fr,h1,h2⟩:=hs.dark g hd;refine⟨cs,t,fr,?_,h2⟩;rw [←hw,hb.block g (Sy.heap_lt h1)];exact h1
    ·rw [hg];exact⟨#[],0,(1,0),rfl,by simp⟩
 ·have e:k.heap[g]?=none:=jh hg;rw [hk,e];cases w'.heap[g]? <;> simp
section
variable {k:World}{R:World→Value→Prop}{a b:Nat}
theorem iO (C:∀k',Up k k'→R k' (.agg #[.int .u64 (a:Int),.int .u64 (b:Int)])):Cl k 15 #[.complex .f64 a b] R:=fun k0 u0=>
 aZu (F:=fun _ _ v=>v=.agg #[.int .u64 (a:Int),.int .u64 (b:Int)]) (fun w w' k' v _ e u _ _=>by subst e;exact C k' (u0.trans u)) fun w _=>bits_w.mono fun e w' ⟨h1,h2⟩=>⟨⟨_,h1,rfl⟩,h2⟩
end
end Go.Proofs.YtifcjpacobpdmaaGreat

namespace Go.Proofs.YtifcjpacobpdmaaGreat
open Go.RowKit Num Plain W32 Ieee FT
open Sy (Up Sees CallsG Seg)
def CellF (kd:FloatKind) (bits:Nat) (least beyond:Int) (g:Nat→Nat) (a:Array Value) (w:W4):Prop:=∃x y,vA w bits least beyond x y∧a=#[.complex kd (g x) (g y)]
abbrev bCf (cs:Array Value) (p:Nat→W4):Prop:=ArrV 13 1 (CellF .f64 53 (-1074) 1024 id) cs p
abbrev bCi (cs:Array Value) (p:Nat→W4):Prop:=ArrV 13 1 (CellF .f32 24 (-149) 128 (Sy.f2f .f64 .f32)) cs p
theorem yM {kd:FloatKind}{x y:Nat}:Seg 1 #[Value.complex kd x y]:=⟨rfl,by simp [Value.scalar,Value.noWord]⟩
theorem CellF.seg {kd:FloatKind}{bits:Nat}{least beyond:Int}{g:Nat→Nat}{a:Array Value}{w:W4}(h:CellF kd bits least beyond g a w):Seg 1 a:=by
 obtain⟨x,y,_,rfl⟩:=h;exact yM
theorem aTu {cs:Array Value}{j:Nat}{u:Value}(hj:j<cs.size) (hu:u.scalar=true) (h:(Sy.pickL cs (Int.toNat (j:Int)*1+0) 1).toArray=#[u]):Sy.celD cs (Int.toNat (j:Int)*1)=some u:=by
 have e:cs[j]?=some u:=by
  have:=congrArg (fun l=>l[0]?) h;simp only [Sy.pickL]at this;rw [oc hj];simpa [Array.getElem?_eq_getElem hj] using this
 rw [qx,jk];unfold Sy.celD;rw [e];cases u <;> first|rfl|cases hu
theorem same2 {a b c d:Nat}(h:a=c) (h':b=d) (e:(!(if (((a:Nat):Int) == (c:Nat))=true then (if (((b:Nat):Int) == (d:Nat))=true then true else false) else false))=true):False:=by
 subst h h';simp at e
theorem lL {v:Q4}{W:Nat}(h:Near4 v 24 (-149) 128 W):Sy.f2fOk .f32 .f64 (Sy.f2f .f64 .f32 W)=true:=by
 obtain⟨lo,hi,_,_,rfl,_⟩:=h;exact (wC lo.den_nz).2
section
variable {k k':World}{R:World→Value→Prop}{K:Nat}{cs:Array Value}{p:Nat→W4}{a b:Nat}
theorem aQg (hx:SpecV k cs p K) (hK1:1≤K) (hK:K≤500) (C:∀k' ds,Up k k'→bCf ds p→R k' (.agg ds)):Cl k 11 #[.agg cs] R:=by
 intro k0 u0;replace hx:=hx.up u0;replace C:=fun k' ds u=>C k' ds (u0.trans u)
 refine aEh hx.seg ⟨fun m _ vs=>∃j c,j+m=13∧vs=[.int .i64 (j:Int),.agg c]∧ArrV 13 1 (optP 1 (CellF .f64 53 (-1074) 1024 id)) c (cut j (fun i=>some (p i)) fun _=>none),
  ⟨13,fun _ _=>⟨0,kE 13 [.complex .f64 0 0],rfl,rfl,ArrV.start (ArrV.zero (s:=1) (z:=[.complex .f64 0 0]) rfl none yM)⟩⟩,?_⟩
 rintro m k1 vs u1 ⟨j,c,hj,rfl,hc⟩;refine⟨_,c,ArrV.seg hc fun _ _ h=>optP.seg (fun _ h=>h.seg) h,rfl,fun hlt=>?_,fun hge k2 u2=>?_⟩
 ·have hlt:=lt13 hlt;refine⟨ix13 hlt,aSs (ArrV.get (hx.up u1) hlt) hK1 hK fun k2 a b u2 hn=>⟨a,b,rfl,ix13 hlt,fun k3 u3=>?_⟩⟩;exact⟨m-1,oq,j+1,_,oq,by rw [wup oq],ArrV.step (ys:=#[.complex .f64 a b]) hc hlt rfl ⟨a,b,hn,rfl⟩⟩
 ·exact C k2 c (u1.trans u2) (ArrV.all (ArrV.done (F:=fun i=>some (p i)) hc (ge13 hge)))
theorem aWo (hx:SpecV k cs p K) (hK1:1≤K) (hK:K≤500) (C:∀k' ds,Up k k'→bCi ds p→R k' (.agg ds)):Cl k 12 #[.agg cs] R:=by
 intro k0 u0;replace hx:=hx.up u0;replace C:=fun k' ds u=>C k' ds (u0.trans u)
 refine aKd hx.seg ⟨fun m _ vs=>∃j c,j+m=13∧vs=[.int .i64 (j:Int),.agg c]∧ArrV 13 1 (optP 1 (CellF .f32 24 (-149) 128 (Sy.f2f .f64 .f32))) c (cut j (fun i=>some (p i)) fun _=>none),
  ⟨13,fun _ _=>⟨0,kE 13 [.complex .f32 0 0],rfl,rfl,ArrV.start (ArrV.zero (s:=1) (z:=[.complex .f32 0 0]) rfl none yM)⟩⟩,?_⟩
 rintro m k1 vs u1 ⟨j,c,hj,rfl,hc⟩;refine⟨_,c,ArrV.seg hc fun _ _ h=>optP.seg (fun _ h=>h.seg) h,rfl,fun hlt=>?_,fun hge k2 u2=>?_⟩
 ·have hlt:=lt13 hlt;refine⟨ix13 hlt,aFv (ArrV.get (hx.up u1) hlt) hK1 hK fun k2 a b u2 hn=>⟨_,_,rfl,ix13 hlt,fun k3 u3=>?_⟩⟩;exact⟨m-1,oq,j+1,_,oq,by rw [wup oq],ArrV.step (ys:=#[.complex .f32 (Sy.f2f .f64 .f32 a) (Sy.f2f .f64 .f32 b)]) hc hlt rfl ⟨a,b,hn,rfl⟩⟩
 ·exact C k2 c (u1.trans u2) (ArrV.all (ArrV.done (F:=fun i=>some (p i)) hc (ge13 hge)))
theorem CellF.cel {kd:FloatKind}{bits:Nat}{least beyond:Int}{g:Nat→Nat}{j:Nat}(h:ArrV 13 1 (CellF kd bits least beyond g) cs p) (hj:j<13) :
 ∃x y,vA (p j) bits least beyond x y∧Sy.celD cs (Int.toNat (j:Int)*1)=some (.complex kd (g x) (g y)):=by
 obtain⟨x,y,h1,h2⟩:=ArrV.get h hj;exact⟨x,y,h1,aTu (by rw [h.size];omega) rfl h2⟩
theorem aEi (hx:ArrV 13 16 IsPair cs p) (C:∀k',Up k k'→R k' (.bool true)) :
 Cl k 3 #[.agg cs] R:=by
 intro k0 u0;replace C:=fun k' u=>C k' (u0.trans u);refine aBe (ArrV.seg hx fun _ _ h=>h.seg) (aLr hx fun k1 a b u1 ha hb=>⟨a,ha.seg,b,hb.seg,rfl,?_⟩);refine aQg ha oz oz fun k2 c u2 hc=>⟨c,ArrV.seg hc fun _ _ h=>h.seg,rfl,?_⟩;refine aWo (ha.up u2) oz oz fun k3 d u3 hd=>⟨d,ArrV.seg hd fun _ _ h=>h.seg,rfl,?_⟩;refine⟨fun m _ vs=>∃j,j+m=13∧vs=[.int .i64 ((j:Nat):Int)],⟨13,fun _ _=>⟨0,rfl,rfl⟩⟩,?_⟩;rintro m k4 vs u4 ⟨j,hj,rfl⟩;have v4:=u2.trans (u3.trans u4);refine⟨_,rfl,fun hlt=>?_,fun _=>?_⟩
 ·have hlt:=lt13 hlt;have B:=WaveV.bel (ArrV.get ha hlt) oz;have q:=WQ.mono (L:=2*6) (ArrV.get (hb.up v4) hlt) oz;refine⟨ix13 hlt,ix13 hlt,aQs q B.1 B.2 oz fun k5 x y u5 hN=>⟨x,y,rfl,?_⟩⟩;refine aFa (q.up u5) B.1 B.2 oz fun k6 z t u6 hM=>⟨_,_,rfl,ix13 hlt,?_⟩;obtain⟨x',y',hN',e1⟩:=CellF.cel hc hlt;obtain⟨z',t',hM',e2⟩:=CellF.cel hd hlt;refine⟨_,_,e1,iO fun k7 u7=>⟨_,_,rfl,iO fun k8 u8=>⟨_,_,rfl,fun h=>?_,fun _=>⟨ix13 hlt,_,_,e2,?_,?_⟩⟩⟩⟩
  ·exact (same2 (Near4.unique nR hN'.1 hN.1) (Near4.unique nR hN'.2 hN.2) h).elim
  ·rw [lL hM'.1,lL hM'.2];rfl
  ·refine iO fun k9 u9=>⟨_,_,rfl,by rw [lL hM.1,lL hM.2];rfl,iO fun k10 u10=>⟨_,_,rfl,fun h=>?_,fun _ k11 u11=>⟨m-1,oq,j+1,oq,by rw [wup oq]⟩⟩⟩;exact (same2 (congrArg (fun n=>Sy.f2f .f32 .f64 (Sy.f2f .f64 .f32 n)) (Near4.unique gL hM'.1 hM.1)) (congrArg (fun n=>Sy.f2f .f32 .f64 (Sy.f2f .f64 .f32 n)) (Near4.unique gL hM'.2 hM.2)) h).elim
 ·exact aNy fun k5 u5=>⟨_,rfl,fun k6 u6=>C k6 (u1.trans (v4.trans (u5.trans u6)))⟩
end
