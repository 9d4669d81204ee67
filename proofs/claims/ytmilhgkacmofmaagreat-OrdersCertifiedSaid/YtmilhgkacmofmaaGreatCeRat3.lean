/- Walks: package exact's fractions, second part. (Printed by gen/rat.py.) -/
import Derived.Test.YtmilhgkacmofmaaGreatCeRat2
namespace Go.Proofs.YtmilhgkacmofmaaGreat
open Go.RowKit Num
set_option maxHeartbeats 1000000 in
theorem Zero_r {w : World} {gx : Bool} {Ax Dx : Option Addr} {nx cx dx ex : Nat} {x : Rat} (hx : RatR w gx Ax nx cx Dx dx ex x) (_lx : nx≤17179869184) :
 Calls Tryz.prog 91 #[.agg #[.bool gx,.slice Ax nx cx,.slice Dx dx ex]] w (RetV (.bool (decide (x = 0))) w):=by
 have h1 : nx = 0↔x = 0:=by rw [hx.num.lim.zero_iff,Int.natAbs_eq_zero,Rat.num_eq_zero]
 have e : decide (x = 0) = ((nx : Int) == 0):=by rw [Bool.eq_iff_iff,decide_eq_true_iff,← h1,beq_iff_eq]; omega
 rw [e]
 clear h1 e hx
 go_enter Tryz.func91,Tryz.ntmps91
 go_wp2_with fail
 exact bodyPost_ret (v:=.bool ((nx : Int) == 0)) (by simp [results,Tryz.results91,go_sem]) rfl ⟨rfl,(Below.refl _ _).alloc (Nat.le_refl _) _⟩
set_option maxHeartbeats 1000000 in
theorem Sign_r {w : World} {gx : Bool} {Ax Dx : Option Addr} {nx cx dx ex : Nat} {x : Rat} (hx : RatR w gx Ax nx cx Dx dx ex x) (lx : nx≤17179869184) :
 Calls Tryz.prog 59 #[.agg #[.bool gx,.slice Ax nx cx,.slice Dx dx ex]] w (RetV (.int .i64 x.num.sign) w):=by
 have HX:=Lib.hid (fun (W : World) (hB : Below w.heap.size w W)=>hx.below hB)
 clear hx
 go_enter Tryz.func59,Tryz.ntmps59
 go_wp2_with fail
 obtain ⟨w0,hw0⟩ : ∃ w0,w0 = (w.alloc (.cells #[.bool gx,.slice Ax nx cx,.slice Dx dx ex] 63)):=⟨_,rfl⟩
 have cc0_0 : w0.cell? ⟨w.heap.size,0,none⟩ = some (.bool gx):=by rw [hw0]; simp [go_sem]
 have cc0_1 : w0.cell? ⟨w.heap.size,1,none⟩ = some (.slice Ax nx cx):=by rw [hw0]; simp [go_sem]
 have cc0_2 : w0.cell? ⟨w.heap.size,2,none⟩ = some (.slice Dx dx ex):=by rw [hw0]; simp [go_sem]
 have o0 : Own w w0 (w.heap.size+1) (w.heap.size) 63 #[.bool gx,.slice Ax nx cx,.slice Dx dx ex] w0 :=
  ⟨by rw [hw0]; exact (Below.refl _ _).alloc (Nat.le_refl _) _,by rw [hw0]; simp,by rw [hw0]; exact Blk.new _ _ _,SameBut.refl _ _ _⟩
 rw [← hw0]
 clear hw0
 go_wp2_with fail
 refine (sign_r (HX.out _ o0.below).num lx).mono ?_
 rintro e w1 ⟨rfl,hb1⟩
 have q1:=o0.call hb1
 have cw1_0 : w1.cell? ⟨w.heap.size,0,none⟩ = some (.bool gx):=q1.blk.cell 0
 have cw1_1 : w1.cell? ⟨w.heap.size,1,none⟩ = some (.slice Ax nx cx):=q1.blk.cell 1
 have cw1_2 : w1.cell? ⟨w.heap.size,2,none⟩ = some (.slice Dx dx ex):=q1.blk.cell 2
 go_wp2_with fail
 exact bodyPost_ret (v:=.int .i64 x.num.sign) (by simp [results,Tryz.results59,go_sem]) rfl (⟨rfl,q1.below⟩)
end Go.Proofs.YtmilhgkacmofmaaGreat
