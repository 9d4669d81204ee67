/- Walks: package exact's fractions, second part. (Printed by gen/rat.py.) -/
import Derived.Test.YthiaclljcnincaaGreatApRat2
set_option maxHeartbeats 1000000
namespace Go.Proofs.YthiaclljcnincaaGreat
open Go.RowKit Num
theorem aXc {w:World}{gx:Bool}{Ax Dx:Option Addr}{nx cx dx ex:Nat}{x:Rat}(hx:RatR w gx Ax nx cx Dx dx ex x) (_lx:nx≤17179869184) :
 Calls Tryz.prog 31 #[.agg #[.bool gx,.slice Ax nx cx,.slice Dx dx ex]] w (aSd (.bool (decide (x=0))) w):=by
 have h1:nx=0↔x=0:=by rw [hx.num.lim.zero_iff,Int.natAbs_eq_zero,Rat.num_eq_zero]
 have e:decide (x=0)=((nx:Int) == 0):=by rw [vw,decide_eq_true_iff,←h1,beq_iff_eq];omega
 rw [e];clear h1 e hx
 go_enter Tryz.func31,Tryz.ntmps31
 go_wp2_with fail
 exact bodyPost_ret (v:=.bool ((nx:Int) == 0)) (by simp [results,Tryz.results31,go_sem]) rfl ⟨rfl,(Below.refl _ _).alloc (oy _) _⟩
theorem aWx {w:World}{gx:Bool}{Ax Dx:Option Addr}{nx cx dx ex:Nat}{x:Rat}(hx:RatR w gx Ax nx cx Dx dx ex x) (lx:nx≤17179869184) :
 Calls Tryz.prog 32 #[.agg #[.bool gx,.slice Ax nx cx,.slice Dx dx ex]] w (aSd (.int .i64 x.num.sign) w):=by
 have HX:=ou (fun (W:World) (hB:Below w.heap.size w W)=>hx.below hB);clear hx
 go_enter Tryz.func32,Tryz.ntmps32
 go_wp2_with fail
 obtain⟨w0,hw0⟩:∃w0,w0=(w.alloc (.cells #[.bool gx,.slice Ax nx cx,.slice Dx dx ex] 41)):=⟨_,rfl⟩;have cc0_0:w0.cell? ⟨w.heap.size,0,none⟩=some (.bool gx):=by rw [hw0];simp [go_sem]
 have cc0_1:w0.cell? ⟨w.heap.size,1,none⟩=some (.slice Ax nx cx):=by rw [hw0];simp [go_sem]
 have cc0_2:w0.cell? ⟨w.heap.size,2,none⟩=some (.slice Dx dx ex):=by rw [hw0];simp [go_sem]
 have o0:Own w w0 (w.heap.size+1) (w.heap.size) 41 #[.bool gx,.slice Ax nx cx,.slice Dx dx ex] w0:=
  ⟨by rw [hw0];exact (Below.refl _ _).alloc (oy _) _,by rw [hw0];simp,by rw [hw0];exact Blk.new _ _ _,SameBut.refl _ _ _⟩
 rw [←hw0];clear hw0
 go_wp2_with fail
 refine (aYz (HX.out _ o0.below).num lx).mono ?_;rintro e w1 ⟨rfl,hb1⟩;have q1:=o0.call hb1;have cw1_0:w1.cell? ⟨w.heap.size,0,none⟩=some (.bool gx):=q1.blk.cell 0;have cw1_1:w1.cell? ⟨w.heap.size,1,none⟩=some (.slice Ax nx cx):=q1.blk.cell 1;have cw1_2:w1.cell? ⟨w.heap.size,2,none⟩=some (.slice Dx dx ex):=q1.blk.cell 2
 go_wp2_with fail
 exact bodyPost_ret (v:=.int .i64 x.num.sign) (by simp [results,Tryz.results32,go_sem]) rfl (⟨rfl,q1.below⟩)
