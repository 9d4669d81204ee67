/- Walks: package exact's fractions, second part. (Printed by gen/rat.py.) -/
import Derived.Test.YtifcjpacobpdmaaGreatAvRat2
set_option maxHeartbeats 4000000
set_option maxRecDepth 20000
namespace Go.Proofs.YtifcjpacobpdmaaGreat
open Go.RowKit Num
theorem aSu {w:World}{gx:Bool}{Ax Dx:Option Addr}{nx cx dx ex:Nat}{x:Rat}{gy:Bool}{Ay Dy:Option Addr}{ny cy dy ey:Nat}{y:Rat}{K:Nat}(hx:RatR w gx Ax nx cx Dx dx ex x) (hy:RatR w gy Ay ny cy Dy dy ey y) (k1:1≤K) (lx:nx≤K) (lxd:dx≤K) (ly:ny≤K) (lyd:dy≤K) (hK:K≤1073741824) :
 Calls Tryz.prog 59 #[.agg #[.bool gx,.slice Ax nx cx,.slice Dx dx ex],.agg #[.bool gy,.slice Ay ny cy,.slice Dy dy ey]] w (RetR (x-y) (2*K+1) (2*K) w):=by
 have ly2:ny≤17179869184:=oq
 have HX:=ou (fun (W:World) (hB:Below w.heap.size w W)=>hx.below hB);have HY:=ou (fun (W:World) (hB:Below w.heap.size w W)=>hy.below hB);rw [Rat.sub_eq_add_neg];clear hx hy
 go_enter Tryz.func59,Tryz.ntmps59
 go_wp2_with fail
 obtain⟨w0,hw0⟩:∃w0,w0=((w.alloc (.cells #[.bool gx,.slice Ax nx cx,.slice Dx dx ex] 88)).alloc (.cells #[.bool gy,.slice Ay ny cy,.slice Dy dy ey] 88)).alloc (.cells #[.bool false,.slice none 0 0,.slice none 0 0] 88):=⟨_,rfl⟩;have cc0_0:w0.cell? ⟨w.heap.size,0,none⟩=some (.bool gx):=by rw [hw0];simp [go_sem,World.cell?_alloc_past]
 have cc0_1:w0.cell? ⟨w.heap.size,1,none⟩=some (.slice Ax nx cx):=by rw [hw0];simp [go_sem,World.cell?_alloc_past]
 have cc0_2:w0.cell? ⟨w.heap.size,2,none⟩=some (.slice Dx dx ex):=by rw [hw0];simp [go_sem,World.cell?_alloc_past]
 have cc1_0:w0.cell? ⟨w.heap.size+1,0,none⟩=some (.bool gy):=by rw [hw0];simp [go_sem,World.cell?_alloc_past]
 have cc1_1:w0.cell? ⟨w.heap.size+1,1,none⟩=some (.slice Ay ny cy):=by rw [hw0];simp [go_sem,World.cell?_alloc_past]
 have cc1_2:w0.cell? ⟨w.heap.size+1,2,none⟩=some (.slice Dy dy ey):=by rw [hw0];simp [go_sem,World.cell?_alloc_past]
 have o0:Own w w0 (w.heap.size+3) (w.heap.size+2) 88 #[.bool false,.slice none 0 0,.slice none 0 0] w0:=
  ⟨by rw [hw0];exact (((Below.refl _ _).alloc (oy _) _).alloc (by simp <;> omega) _).alloc (by simp <;> omega) _,by rw [hw0];simp,by rw [hw0];exact Blk.new2 _ _ _ _ _ ,SameBut.refl _ _ _⟩
 rw [←hw0];clear hw0;have q0d:=o0.drew;have kSq0d:=q0d.same
 go_region_held3 (fun w'=>∀b o,b<w.heap.size+3→b≠w.heap.size+2→w'.cell? ⟨b,o,none⟩=w0.cell? ⟨b,o,none⟩) (first|exact kSE _ _ _ |exact kSq2|exact kSq1|exact kSq0d)
  (first
    | (go_at_call 58;guard_hyp q1;(fail_if_success guard_hyp hb2);have lv:nv≤K:=oq;have lvd:dv≤K:=oq;refine (aSr (HX.out _ q1.below) hv k1 lx lxd lv lvd hK).mono ?_;rintro e w2 ⟨⟨gr,Ar,nr,cr,Dr,dr,er,rfl,hr,kr,lr⟩,hb2⟩;have q2:=q1.call hb2;have kSq2:=q2.same;have kSE:=fun v0 v1 v2=>(((q2.same).store 0 v0).store 1 v1).store 2 v2;have hrE:=q2.cells;have hfE:=q2.free)
    | (go_at_call 147;guard_hyp q0d;(fail_if_success guard_hyp hb1);refine (aWk (HY.out _ q0d.below) ly2).mono ?_;rintro e w1 ⟨⟨gv,Av,nv,cv,Dv,dv,ev,rfl,hv,kv,lv⟩,hb1⟩;have q1:=q0d.call hb1;have kSq1:=q1.same)
    | fail "no arm")
 go_wp2_with fail
 exact bodyPost_ret (v:=.agg #[.bool gr,.slice Ar nr cr,.slice Dr dr er]) (by simp [results,Tryz.results59,go_sem,World.cell?_setCell_same,World.cell?_setCell_other,hrE]) rfl (RetR.mk q2 oq rfl hr oq oq)
theorem aBf {w:World}{gx:Bool}{Ax Dx:Option Addr}{nx cx dx ex:Nat}{x:Rat}(hx:RatR w gx Ax nx cx Dx dx ex x) (_lx:nx≤17179869184) :
 Calls Tryz.prog 166 #[.agg #[.bool gx,.slice Ax nx cx,.slice Dx dx ex]] w (aJm (.bool (decide (x=0))) w):=by
 have h1:nx=0↔x=0:=by rw [hx.num.lim.zero_iff,Int.natAbs_eq_zero,wh]
 have e:decide (x=0)=((nx:Int) == 0):=by rw [xy,decide_eq_true_iff,←h1,beq_iff_eq];omega
 rw [e];clear h1 e hx
 go_enter Tryz.func166,Tryz.ntmps166
 go_wp2_with fail
 exact bodyPost_ret (v:=.bool ((nx:Int) == 0)) (by simp [results,Tryz.results166,go_sem]) rfl ⟨rfl,(Below.refl _ _).alloc (oy _) _⟩
theorem aJp {w:World}{gx:Bool}{Ax Dx:Option Addr}{nx cx dx ex:Nat}{x:Rat}(hx:RatR w gx Ax nx cx Dx dx ex x) (lx:nx≤17179869184) :
 Calls Tryz.prog 150 #[.agg #[.bool gx,.slice Ax nx cx,.slice Dx dx ex]] w (aJm (.int .i64 x.num.sign) w):=by
 have HX:=ou (fun (W:World) (hB:Below w.heap.size w W)=>hx.below hB);clear hx
 go_enter Tryz.func150,Tryz.ntmps150
 go_wp2_with fail
 obtain⟨w0,hw0⟩:∃w0,w0=(w.alloc (.cells #[.bool gx,.slice Ax nx cx,.slice Dx dx ex] 88)):=⟨_,rfl⟩;have cc0_0:w0.cell? ⟨w.heap.size,0,none⟩=some (.bool gx):=by rw [hw0];simp [go_sem]
 have cc0_1:w0.cell? ⟨w.heap.size,1,none⟩=some (.slice Ax nx cx):=by rw [hw0];simp [go_sem]
 have cc0_2:w0.cell? ⟨w.heap.size,2,none⟩=some (.slice Dx dx ex):=by rw [hw0];simp [go_sem]
 have o0:Own w w0 (w.heap.size+1) (w.heap.size) 88 #[.bool gx,.slice Ax nx cx,.slice Dx dx ex] w0:=
  ⟨by rw [hw0];exact (Below.refl _ _).alloc (oy _) _,by rw [hw0];simp,by rw [hw0];exact Blk.new _ _ _,SameBut.refl _ _ _⟩
 rw [←hw0];clear hw0
 go_wp2_with fail
 refine (aVw (HX.out _ o0.below).num lx).mono ?_;rintro e w1 ⟨rfl,hb1⟩;have q1:=o0.call hb1;have cw1_0:w1.cell? ⟨w.heap.size,0,none⟩=some (.bool gx):=q1.blk.cell 0;have cw1_1:w1.cell? ⟨w.heap.size,1,none⟩=some (.slice Ax nx cx):=q1.blk.cell 1;have cw1_2:w1.cell? ⟨w.heap.size,2,none⟩=some (.slice Dx dx ex):=q1.blk.cell 2
 go_wp2_with fail
 exact bodyPost_ret (v:=.int .i64 x.num.sign) (by simp [results,Tryz.results150,go_sem]) rfl (⟨rfl,q1.below⟩)
theorem aWe {w:World}{gx:Bool}{Ax Dx:Option Addr}{nx cx dx ex:Nat}{x:Rat}{gy:Bool}{Ay Dy:Option Addr}{ny cy dy ey:Nat}{y:Rat}{K:Nat}(hx:RatR w gx Ax nx cx Dx dx ex x) (hy:RatR w gy Ay ny cy Dy dy ey y) (k1:1≤K) (lx:nx≤K) (lxd:dx≤K) (ly:ny≤K) (lyd:dy≤K) (hK:K≤1073741824) :
 Calls Tryz.prog 62 #[.agg #[.bool gx,.slice Ax nx cx,.slice Dx dx ex],.agg #[.bool gy,.slice Ay ny cy,.slice Dy dy ey]] w (aJm (.int .i64 (x-y).num.sign) w):=by
 have HX:=ou (fun (W:World) (hB:Below w.heap.size w W)=>hx.below hB);have HY:=ou (fun (W:World) (hB:Below w.heap.size w W)=>hy.below hB);clear hx hy
 go_enter Tryz.func62,Tryz.ntmps62
 go_wp2_with fail
 obtain⟨w0,hw0⟩:∃w0,w0=((w.alloc (.cells #[.bool gx,.slice Ax nx cx,.slice Dx dx ex] 88)).alloc (.cells #[.bool gy,.slice Ay ny cy,.slice Dy dy ey] 88)):=⟨_,rfl⟩;have cc0_0:w0.cell? ⟨w.heap.size,0,none⟩=some (.bool gx):=by rw [hw0];simp [go_sem,World.cell?_alloc_past]
 have cc0_1:w0.cell? ⟨w.heap.size,1,none⟩=some (.slice Ax nx cx):=by rw [hw0];simp [go_sem,World.cell?_alloc_past]
 have cc0_2:w0.cell? ⟨w.heap.size,2,none⟩=some (.slice Dx dx ex):=by rw [hw0];simp [go_sem,World.cell?_alloc_past]
 have cc1_0:w0.cell? ⟨w.heap.size+1,0,none⟩=some (.bool gy):=by rw [hw0];simp [go_sem]
 have cc1_1:w0.cell? ⟨w.heap.size+1,1,none⟩=some (.slice Ay ny cy):=by rw [hw0];simp [go_sem]
 have cc1_2:w0.cell? ⟨w.heap.size+1,2,none⟩=some (.slice Dy dy ey):=by rw [hw0];simp [go_sem]
 have o0:Own w w0 (w.heap.size+2) (w.heap.size+1) 88 #[.bool gy,.slice Ay ny cy,.slice Dy dy ey] w0:=
  ⟨by rw [hw0];exact ((Below.refl _ _).alloc (oy _) _).alloc (by simp <;> omega) _,by rw [hw0];simp,by rw [hw0];exact Blk.new1 _ _ _ _ ,SameBut.refl _ _ _⟩
 rw [←hw0];clear hw0
 go_wp2_with fail
 refine (aSu (HX.out _ o0.below) (HY.out _ o0.below) k1 lx lxd ly lyd hK).mono ?_;rintro e w1 ⟨⟨gr,Ar,nr,cr,Dr,dr,er,rfl,hr,kr,lr⟩,hb1⟩;have q1:=o0.call hb1;have kr2:nr≤17179869184:=oq;have cw1_0:w1.cell? ⟨w.heap.size,0,none⟩=some (.bool gx):=(q1.same _ _ oq oq).trans cc0_0;have cw1_1:w1.cell? ⟨w.heap.size,1,none⟩=some (.slice Ax nx cx):=(q1.same _ _ oq oq).trans cc0_1;have cw1_2:w1.cell? ⟨w.heap.size,2,none⟩=some (.slice Dx dx ex):=(q1.same _ _ oq oq).trans cc0_2;have cw1_3:w1.cell? ⟨w.heap.size+1,0,none⟩=some (.bool gy):=q1.blk.cell 0;have cw1_4:w1.cell? ⟨w.heap.size+1,1,none⟩=some (.slice Ay ny cy):=q1.blk.cell 1;have cw1_5:w1.cell? ⟨w.heap.size+1,2,none⟩=some (.slice Dy dy ey):=q1.blk.cell 2
 go_wp2_with fail
 refine (aJp hr kr2).mono ?_;rintro e w2 ⟨rfl,hb2⟩;have q2:=q1.call hb2;have cw2_0:w2.cell? ⟨w.heap.size,0,none⟩=some (.bool gx):=(q2.same _ _ oq oq).trans cc0_0;have cw2_1:w2.cell? ⟨w.heap.size,1,none⟩=some (.slice Ax nx cx):=(q2.same _ _ oq oq).trans cc0_1;have cw2_2:w2.cell? ⟨w.heap.size,2,none⟩=some (.slice Dx dx ex):=(q2.same _ _ oq oq).trans cc0_2;have cw2_3:w2.cell? ⟨w.heap.size+1,0,none⟩=some (.bool gy):=q2.blk.cell 0;have cw2_4:w2.cell? ⟨w.heap.size+1,1,none⟩=some (.slice Ay ny cy):=q2.blk.cell 1;have cw2_5:w2.cell? ⟨w.heap.size+1,2,none⟩=some (.slice Dy dy ey):=q2.blk.cell 2
 go_wp2_with fail
 exact bodyPost_ret (v:=.int .i64 (x-y).num.sign) (by simp [results,Tryz.results62,go_sem]) rfl (⟨rfl,q2.below⟩)
