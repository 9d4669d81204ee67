/- Walks: package exact's integers. (Printed by gen/int.py.) -/
import Derived.Test.YthiaclljcnincaaGreatApRep
set_option maxHeartbeats 2000000
namespace Go.Proofs.YthiaclljcnincaaGreat
open Go.RowKit Num
theorem aBm {w:World}{gx:Bool}{Ax:Option Addr}{nx cx:Nat}{x:Int}{Am:Option Addr}{nm cm m:Nat}(hx:IntR w gx Ax nx cx x) (hm:LimR w Am nm cm m) (lx:nx≤17179869184) (lm:nm≤17179869184) :
 Calls Tryz.prog 55 #[.agg #[.bool gx,.slice Ax nx cx],.slice Am nm cm] w (RetI (x*m) (nx+nm) w):=by
 have HT:=ou (fun (W:World) (hB:Below w.heap.size w W)=>yO (hx.lim.below hB) (hm.below hB) lx lm);have hz:sgn gx (x.natAbs*m)=x*m:=by rw [hx.neg];exact yI x m
 rw [←hz];clear hx hm hz;generalize x.natAbs*m=p at *
 go_enter Tryz.func55,Tryz.ntmps55
 go_wp2_with fail
 obtain⟨w0,hw0⟩:∃w0,w0=(w.alloc (.cells #[.bool gx,.slice Ax nx cx] 33)).alloc (.cells #[.bool false,.slice none 0 0] 33):=⟨_,rfl⟩;have cc0_0:w0.cell? ⟨w.heap.size,0,none⟩=some (.bool gx):=by rw [hw0];simp [go_sem,World.cell?_alloc_past]
 have cc0_1:w0.cell? ⟨w.heap.size,1,none⟩=some (.slice Ax nx cx):=by rw [hw0];simp [go_sem,World.cell?_alloc_past]
 have o0:Own w w0 (w.heap.size+2) (w.heap.size+1) 33 #[.bool false,.slice none 0 0] w0:=
  ⟨by rw [hw0];exact ((Below.refl _ _).alloc (oy _) _).alloc (by simp <;> omega) _,by rw [hw0];simp,by rw [hw0];exact Blk.new1 _ _ _ _ ,SameBut.refl _ _ _⟩
 rw [←hw0];clear hw0;have q0:=o0.drew;have kS0:=q0.same
 go_region_held3 (fun w'=>∀b o,b<w.heap.size+2→b≠w.heap.size+1→w'.cell? ⟨b,o,none⟩=w0.cell? ⟨b,o,none⟩) (first|exact kS0|exact kS1|exact kS2|exact kSE _ _ )
  (first
    | (go_at_call 54;refine (HT.out _ q0.below).mono ?_;rintro e w1 ⟨⟨Au,nu,cu,rfl,hu,ku⟩,hb1⟩;have q1:=q0.call hb1;have kS1:=q1.same)
    | (go_at_call 76;refine (kD gx hu oq).mono ?_;rintro e w2 ⟨⟨gv,Av,nv,cv,rfl,hv,kv⟩,hb2⟩;have q2:=q1.call hb2;have kS2:=q2.same;have kSE:=fun v0 v1=>((q2.same).store 0 v0).store 1 v1;have hrE:=q2.cells;have hfE:=q2.free))
 go_wp2_with fail
 exact bodyPost_ret (v:=.agg #[.bool gv,.slice Av nv cv]) (by simp [results,Tryz.results55,go_sem,World.cell?_setCell_same,World.cell?_setCell_other,hrE]) rfl (RetI.mk q2 oq rfl rfl hv oq)
theorem aBp (x y:Int):sgn (decide (x<0) != decide (y<0)) (x.natAbs*y.natAbs)=x*y:=by
 conv=>rhs;rw [←oP x,←oP y]
 unfold sgn
 by_cases h1:x<0 <;> by_cases h2:y<0 <;> simp [h1,h2,Int.neg_mul,Int.mul_neg]
theorem aMs {w:World}{gx:Bool}{Ax:Option Addr}{nx cx:Nat}{x:Int}{gy:Bool}{Ay:Option Addr}{ny cy:Nat}{y:Int}(hx:IntR w gx Ax nx cx x) (hy:IntR w gy Ay ny cy y) (lx:nx≤17179869184) (ly:ny≤17179869184) :
 Calls Tryz.prog 81 #[.agg #[.bool gx,.slice Ax nx cx],.agg #[.bool gy,.slice Ay ny cy]] w (RetI (x*y) (nx+ny) w):=by
 have HT:=ou (fun (W:World) (hB:Below w.heap.size w W)=>yO (hx.lim.below hB) (hy.lim.below hB) lx ly);have hz:sgn (gx != gy) (x.natAbs*y.natAbs)=x*y:=by rw [hx.neg,hy.neg];exact aBp x y
 rw [←hz];clear hx hy hz;generalize x.natAbs*y.natAbs=p at *
 go_enter Tryz.func81,Tryz.ntmps81
 go_wp2_with fail
 obtain⟨w0,hw0⟩:∃w0,w0=((w.alloc (.cells #[.bool gx,.slice Ax nx cx] 33)).alloc (.cells #[.bool gy,.slice Ay ny cy] 33)).alloc (.cells #[.bool false,.slice none 0 0] 33):=⟨_,rfl⟩;have cc0_0:w0.cell? ⟨w.heap.size,0,none⟩=some (.bool gx):=by rw [hw0];simp [go_sem,World.cell?_alloc_past]
 have cc0_1:w0.cell? ⟨w.heap.size,1,none⟩=some (.slice Ax nx cx):=by rw [hw0];simp [go_sem,World.cell?_alloc_past]
 have cc1_0:w0.cell? ⟨w.heap.size+1,0,none⟩=some (.bool gy):=by rw [hw0];simp [go_sem,World.cell?_alloc_past]
 have cc1_1:w0.cell? ⟨w.heap.size+1,1,none⟩=some (.slice Ay ny cy):=by rw [hw0];simp [go_sem,World.cell?_alloc_past]
 have o0:Own w w0 (w.heap.size+3) (w.heap.size+2) 33 #[.bool false,.slice none 0 0] w0:=
  ⟨by rw [hw0];exact (((Below.refl _ _).alloc (oy _) _).alloc (by simp <;> omega) _).alloc (by simp <;> omega) _,by rw [hw0];simp,by rw [hw0];exact Blk.new2 _ _ _ _ _ ,SameBut.refl _ _ _⟩
 rw [←hw0];clear hw0;have q0:=o0.drew;have kS0:=q0.same
 go_region_held3 (fun w'=>∀b o,b<w.heap.size+3→b≠w.heap.size+2→w'.cell? ⟨b,o,none⟩=w0.cell? ⟨b,o,none⟩) (first|exact kS0|exact kS1|exact kS2|exact kSE _ _ )
  (first
    | (go_at_call 54;refine (HT.out _ q0.below).mono ?_;rintro e w1 ⟨⟨Au,nu,cu,rfl,hu,ku⟩,hb1⟩;have q1:=q0.call hb1;have kS1:=q1.same)
    | (go_at_call 76;refine (kD _ hu oq).mono ?_;rintro e w2 ⟨⟨gv,Av,nv,cv,rfl,hv,kv⟩,hb2⟩;have q2:=q1.call hb2;have kS2:=q2.same;have kSE:=fun v0 v1=>((q2.same).store 0 v0).store 1 v1;have hrE:=q2.cells;have hfE:=q2.free))
 go_wp2_with fail
 exact bodyPost_ret (v:=.agg #[.bool gv,.slice Av nv cv]) (by simp [results,Tryz.results81,go_sem,World.cell?_setCell_same,World.cell?_setCell_other,hrE]) rfl (RetI.mk q2 oq rfl rfl hv oq)
theorem aCa (n:Int) (h0:-9223372036854775808≤n) (h1:n<0):IntKind.u64.wrap (-IntKind.u64.wrap n)=(n.natAbs:Int):=by
 rw [IntKind.wrap_u64,IntKind.wrap_u64];omega
theorem aCb (n:Int) (h0:0≤n) (h1:n<9223372036854775808):IntKind.u64.wrap n=(n.natAbs:Int):=by
 rw [IntKind.wrap_u64];omega
theorem aUg {w:World}(z:Int) (h0:-9223372036854775808≤z) (h1:z<9223372036854775808) :
 Calls Tryz.prog 21 #[.int .i64 z] w (RetI z 1 w):=by
 have hl:z.natAbs<18446744073709551616:=oq
 obtain⟨m,hm⟩:∃m,m=z.natAbs:=⟨_,rfl⟩;rw [←hm]at hl;have HW:=ou (fun W=>yQ (w:=W) hl)
 by_cases hn:z<0
 ·have e1:=aCa z h0 hn;rw [←hm]at e1;have hint:∀W A n c,LimR W A n c m→IntR W true A n c z:=fun W A n c h=>⟨by rw [decide_eq_true hn],by rw [←hm];exact h⟩;have HI:=ou hint;clear hint hm
  go_enter Tryz.func21,Tryz.ntmps21
  go_wp2_with fail
  obtain⟨w0,hw0⟩:∃w0,w0=w.alloc (.cells #[.bool false,.slice none 0 0] 33):=⟨_,rfl⟩;have o0:Own w w0 (w.heap.size+1) (w.heap.size) 33 #[.bool false,.slice none 0 0] w0:=
   ⟨by rw [hw0];exact (Below.refl _ _).alloc (oy _) _,by rw [hw0];simp,by rw [hw0];exact Blk.new _ _ _,SameBut.refl _ _ _⟩
  rw [←hw0];clear hw0;have q0:=o0;have hr0:=q0.same
  go_wp2_with (first
   | (go_at_call 46;refine (HW.out _).mono ?_;rintro e w1 ⟨⟨Au,nu,cu,rfl,hu,ku⟩,hb1⟩;have q1:=q0.call hb1;have hrE:=q1.cells;have hfE:=q1.free;clear hr0))
  have hv:=HI.out _ _ _ _ hu;exact bodyPost_ret (v:=.agg #[.bool true,.slice Au nu cu]) (by simp [results,Tryz.results21,go_sem,World.cell?_setCell_same,World.cell?_setCell_other,hrE]) rfl (RetI.mk q1 oq rfl rfl hv oq)
 ·have e1:=aCb z oq h1;rw [←hm]at e1;have hint:∀W A n c,LimR W A n c m→IntR W false A n c z:=fun W A n c h=>⟨by rw [decide_eq_false hn],by rw [←hm];exact h⟩;have HI:=ou hint;clear hint hm
  go_enter Tryz.func21,Tryz.ntmps21
  go_wp2_with fail
  obtain⟨w0,hw0⟩:∃w0,w0=w.alloc (.cells #[.bool false,.slice none 0 0] 33):=⟨_,rfl⟩;have o0:Own w w0 (w.heap.size+1) (w.heap.size) 33 #[.bool false,.slice none 0 0] w0:=
   ⟨by rw [hw0];exact (Below.refl _ _).alloc (oy _) _,by rw [hw0];simp,by rw [hw0];exact Blk.new _ _ _,SameBut.refl _ _ _⟩
  rw [←hw0];clear hw0;have q0:=o0;have hr0:=q0.same
  go_wp2_with (first
   | (go_at_call 46;refine (HW.out _).mono ?_;rintro e w1 ⟨⟨Au,nu,cu,rfl,hu,ku⟩,hb1⟩;have q1:=q0.call hb1;have hrE:=q1.cells;have hfE:=q1.free;clear hr0))
  have hv:=HI.out _ _ _ _ hu;exact bodyPost_ret (v:=.agg #[.bool false,.slice Au nu cu]) (by simp [results,Tryz.results21,go_sem,World.cell?_setCell_same,World.cell?_setCell_other,hrE]) rfl (RetI.mk q1 oq rfl rfl hv oq)
theorem wI (x:Int):sgn (!decide (x<0)) x.natAbs=-x:=by
 conv=>rhs;rw [←oP x]
 unfold sgn
 by_cases h:x<0 <;> simp [h]
theorem aMq {w:World}{gx:Bool}{Ax:Option Addr}{nx cx:Nat}{x:Int}(hx:IntR w gx Ax nx cx x) (lx:nx≤17179869184) :
 Calls Tryz.prog 88 #[.agg #[.bool gx,.slice Ax nx cx]] w (RetI (-x) nx w):=by
 have HT:=ou (fun (W:World) (hB:Below w.heap.size w W)=>kD (!gx) (hx.lim.below hB) oq);have hz:sgn (!gx) x.natAbs=-x:=by rw [hx.neg];exact wI x
 rw [←hz];clear hx hz;generalize x.natAbs=p at *
 go_enter Tryz.func88,Tryz.ntmps88
 go_wp2_with fail
 obtain⟨w0,hw0⟩:∃w0,w0=(w.alloc (.cells #[.bool gx,.slice Ax nx cx] 33)).alloc (.cells #[.bool false,.slice none 0 0] 33):=⟨_,rfl⟩;have cc0_0:w0.cell? ⟨w.heap.size,0,none⟩=some (.bool gx):=by rw [hw0];simp [go_sem,World.cell?_alloc_past]
 have cc0_1:w0.cell? ⟨w.heap.size,1,none⟩=some (.slice Ax nx cx):=by rw [hw0];simp [go_sem,World.cell?_alloc_past]
 have o0:Own w w0 (w.heap.size+2) (w.heap.size+1) 33 #[.bool false,.slice none 0 0] w0:=
  ⟨by rw [hw0];exact ((Below.refl _ _).alloc (oy _) _).alloc (by simp <;> omega) _,by rw [hw0];simp,by rw [hw0];exact Blk.new1 _ _ _ _ ,SameBut.refl _ _ _⟩
 rw [←hw0];clear hw0;have q0:=o0;have hr0:=q0.same
 go_wp2_with (first
  | (go_at_call 76;refine (HT.out _ q0.below).mono ?_;rintro e w1 ⟨⟨gv,Av,nv,cv,rfl,hv,kv⟩,hb1⟩;have q1:=q0.call hb1;have hrE:=q1.cells;have hfE:=q1.free;clear hr0))
 exact bodyPost_ret (v:=.agg #[.bool gv,.slice Av nv cv]) (by simp [results,Tryz.results88,go_sem,World.cell?_setCell_same,World.cell?_setCell_other,hrE]) rfl (RetI.mk q1 oq rfl rfl hv oq)
theorem aYb {w:World}{gx:Bool}{Ax:Option Addr}{nx cx:Nat}{x:Int}{k:Nat}(hx:IntR w gx Ax nx cx x) (lx:nx≤17179869183) (hk:k<18446744073709551616) :
 Calls Tryz.prog 82 #[.agg #[.bool gx,.slice Ax nx cx],.int .u64 k] w (RetI (x*k) (nx+1) w):=by
 have HT:=ou (fun (W:World) (hB:Below w.heap.size w W)=>hx.below hB);clear hx
 go_enter Tryz.func82,Tryz.ntmps82
 go_wp2_with fail
 obtain⟨w0,hw0⟩:∃w0,w0=(w.alloc (.cells #[.bool gx,.slice Ax nx cx] 33)).alloc (.cells #[.bool false,.slice none 0 0] 33):=⟨_,rfl⟩;have cc0_0:w0.cell? ⟨w.heap.size,0,none⟩=some (.bool gx):=by rw [hw0];simp [go_sem,World.cell?_alloc_past]
 have cc0_1:w0.cell? ⟨w.heap.size,1,none⟩=some (.slice Ax nx cx):=by rw [hw0];simp [go_sem,World.cell?_alloc_past]
 have o0:Own w w0 (w.heap.size+2) (w.heap.size+1) 33 #[.bool false,.slice none 0 0] w0:=
  ⟨by rw [hw0];exact ((Below.refl _ _).alloc (oy _) _).alloc (by simp <;> omega) _,by rw [hw0];simp,by rw [hw0];exact Blk.new1 _ _ _ _ ,SameBut.refl _ _ _⟩
 rw [←hw0];clear hw0;have q0:=o0.drew;have kS0:=q0.same
 go_region_held3 (fun w'=>∀b o,b<w.heap.size+2→b≠w.heap.size+1→w'.cell? ⟨b,o,none⟩=w0.cell? ⟨b,o,none⟩) (first|exact kS0|exact kS1|exact kS2|exact kSE _ _ )
  (first
    | (go_at_call 46;refine (yQ hk).mono ?_;rintro e w1 ⟨⟨Au,nu,cu,rfl,hu,ku⟩,hb1⟩;have q1:=q0.call hb1;have kS1:=q1.same)
    | (go_at_call 55;refine (aBm (HT.out _ q1.below) hu oq oq).mono ?_;rintro e w2 ⟨⟨gv,Av,nv,cv,rfl,hv,kv⟩,hb2⟩;have q2:=q1.call hb2;have kS2:=q2.same;have kSE:=fun v0 v1=>((q2.same).store 0 v0).store 1 v1;have hrE:=q2.cells;have hfE:=q2.free))
 go_wp2_with fail
 exact bodyPost_ret (v:=.agg #[.bool gv,.slice Av nv cv]) (by simp [results,Tryz.results82,go_sem,World.cell?_setCell_same,World.cell?_setCell_other,hrE]) rfl (RetI.mk q2 oq rfl rfl hv oq)
theorem aJf {x y:Int}(h:decide (x<0)=decide (y<0)):sgn (decide (x<0)) (x.natAbs+y.natAbs)=x+y:=by
 unfold sgn
 by_cases h1:x<0 <;> by_cases h2:y<0 <;> simp [h1,h2]at h ⊢ <;> omega
theorem aJe {x y:Int}(h:decide (x<0)≠decide (y<0)) (hle:y.natAbs≤x.natAbs):sgn (decide (x<0)) (x.natAbs-y.natAbs)=x+y:=by
 unfold sgn
 by_cases h1:x<0 <;> by_cases h2:y<0 <;> simp [h1,h2]at h ⊢ <;> omega
theorem aDj {x y:Int}(h:decide (x<0)≠decide (y<0)) (hle:x.natAbs≤y.natAbs):sgn (decide (y<0)) (y.natAbs-x.natAbs)=x+y:=by
 unfold sgn
 by_cases h1:x<0 <;> by_cases h2:y<0 <;> simp [h1,h2]at h ⊢ <;> omega
theorem aTp {w:World}{gx:Bool}{Ax:Option Addr}{nx cx:Nat}{x:Int}{gy:Bool}{Ay:Option Addr}{ny cy:Nat}{y:Int}{K:Nat}(hx:IntR w gx Ax nx cx x) (hy:IntR w gy Ay ny cy y) (lx:nx≤K) (ly:ny≤K) (hK:K≤17179869184) :
 Calls Tryz.prog 56 #[.agg #[.bool gx,.slice Ax nx cx],.agg #[.bool gy,.slice Ay ny cy]] w (RetI (x+y) (K+1) w):=by
 by_cases hg:gx=gy
 ·subst hg;have hz:sgn gx (x.natAbs+y.natAbs)=x+y:=by rw [hx.neg];exact aJf (by rw [←hx.neg,←hy.neg])
  have HT:=ou (fun (W:World) (hB:Below w.heap.size w W)=>aYp (hx.lim.below hB) (hy.lim.below hB) lx ly hK);rw [←hz];clear hx hy hz;generalize x.natAbs+y.natAbs=p at *
  have hb:(gx == gx)=true:=by simp
  go_enter Tryz.func56,Tryz.ntmps56
  go_wp2_with fail
  obtain⟨w0,hw0⟩:∃w0,w0=((w.alloc (.cells #[.bool gx,.slice Ax nx cx] 33)).alloc (.cells #[.bool gx,.slice Ay ny cy] 33)).alloc (.cells #[.bool false,.slice none 0 0] 33):=⟨_,rfl⟩;have cc0_0:w0.cell? ⟨w.heap.size,0,none⟩=some (.bool gx):=by rw [hw0];simp [go_sem,World.cell?_alloc_past]
  have cc0_1:w0.cell? ⟨w.heap.size,1,none⟩=some (.slice Ax nx cx):=by rw [hw0];simp [go_sem,World.cell?_alloc_past]
  have cc1_0:w0.cell? ⟨w.heap.size+1,0,none⟩=some (.bool gx):=by rw [hw0];simp [go_sem,World.cell?_alloc_past]
  have cc1_1:w0.cell? ⟨w.heap.size+1,1,none⟩=some (.slice Ay ny cy):=by rw [hw0];simp [go_sem,World.cell?_alloc_past]
  have o0:Own w w0 (w.heap.size+3) (w.heap.size+2) 33 #[.bool false,.slice none 0 0] w0:=
   ⟨by rw [hw0];exact (((Below.refl _ _).alloc (oy _) _).alloc (by simp <;> omega) _).alloc (by simp <;> omega) _,by rw [hw0];simp,by rw [hw0];exact Blk.new2 _ _ _ _ _ ,SameBut.refl _ _ _⟩
  rw [←hw0];clear hw0
  go_wp2_with fail
  have q0:=o0.drew;have kS0:=q0.same
  go_region_held3 (fun w'=>∀b o,b<w.heap.size+3→b≠w.heap.size+2→w'.cell? ⟨b,o,none⟩=w0.cell? ⟨b,o,none⟩) (first|exact kS0|exact kS1|exact kS2|exact kSE _ _ )
   (first
     | (go_at_call 85;refine (HT.out _ q0.below).mono ?_;rintro e w1 ⟨⟨Au,nu,cu,rfl,hu,ku⟩,hb1⟩;have q1:=q0.call hb1;have kS1:=q1.same)
     | (go_at_call 76;refine (kD _ hu oq).mono ?_;rintro e w2 ⟨⟨gv,Av,nv,cv,rfl,hv,kv⟩,hb2⟩;have q2:=q1.call hb2;have kS2:=q2.same;have kSE:=fun v0 v1=>((q2.same).store 0 v0).store 1 v1;have hrE:=q2.cells;have hfE:=q2.free))
  go_wp2_with fail
  exact bodyPost_ret (v:=.agg #[.bool gv,.slice Av nv cv]) (by simp [results,Tryz.results56,go_sem,World.cell?_setCell_same,World.cell?_setCell_other,hrE]) rfl (RetI.mk q2 oq rfl rfl hv oq)
 ·have hb:(gx == gy)=false:=by simpa using hg
  have hg':decide (x<0)≠decide (y<0):=by rw [←hx.neg,←hy.neg];exact hg
  have HC:=ou (fun (W:World) (hB:Below w.heap.size w W)=>aZy (hx.lim.below hB) (hy.lim.below hB) oq oq)
  by_cases hle:y.natAbs≤x.natAbs
  ·have hz:sgn gx (x.natAbs-y.natAbs)=x+y:=by rw [hx.neg];exact aJe hg' hle
   have HT:=ou (fun (W:World) (hB:Below w.heap.size w W)=>aFl (hx.lim.below hB) (hy.lim.below hB) hle oq);have hc:0≤gE x.natAbs y.natAbs:=by
    unfold gE
    by_cases e:x.natAbs=y.natAbs
    ·rw [oh oq,og e];decide
    ·rw [oh oq,oh e];decide
   rw [←hz];clear hx hy hz hle hg' hg;generalize gE x.natAbs y.natAbs=cc at *
   generalize x.natAbs-y.natAbs=p at *
   go_enter Tryz.func56,Tryz.ntmps56
   go_wp2_with fail
   obtain⟨w0,hw0⟩:∃w0,w0=((w.alloc (.cells #[.bool gx,.slice Ax nx cx] 33)).alloc (.cells #[.bool gy,.slice Ay ny cy] 33)).alloc (.cells #[.bool false,.slice none 0 0] 33):=⟨_,rfl⟩;have cc0_0:w0.cell? ⟨w.heap.size,0,none⟩=some (.bool gx):=by rw [hw0];simp [go_sem,World.cell?_alloc_past]
   have cc0_1:w0.cell? ⟨w.heap.size,1,none⟩=some (.slice Ax nx cx):=by rw [hw0];simp [go_sem,World.cell?_alloc_past]
   have cc1_0:w0.cell? ⟨w.heap.size+1,0,none⟩=some (.bool gy):=by rw [hw0];simp [go_sem,World.cell?_alloc_past]
   have cc1_1:w0.cell? ⟨w.heap.size+1,1,none⟩=some (.slice Ay ny cy):=by rw [hw0];simp [go_sem,World.cell?_alloc_past]
   have o0:Own w w0 (w.heap.size+3) (w.heap.size+2) 33 #[.bool false,.slice none 0 0] w0:=
    ⟨by rw [hw0];exact (((Below.refl _ _).alloc (oy _) _).alloc (by simp <;> omega) _).alloc (by simp <;> omega) _,by rw [hw0];simp,by rw [hw0];exact Blk.new2 _ _ _ _ _ ,SameBut.refl _ _ _⟩
   rw [←hw0];clear hw0;have hq0:=o0.same
   go_wp2_with fail
   refine (HC.out _ o0.below).mono ?_;rintro e w' ⟨rfl,dn,rfl⟩
   go_wp2_with fail
   clear hq0;have q0:=(o0.drewN dn).drew;have kS0:=q0.same
   go_region_held3 (fun w'=>∀b o,b<w.heap.size+3→b≠w.heap.size+2→w'.cell? ⟨b,o,none⟩=w0.cell? ⟨b,o,none⟩) (first|exact kS0|exact kS1|exact kS2|exact kSE _ _ )
    (first
      | (go_at_call 87;refine (HT.out _ q0.below).mono ?_;rintro e w1 ⟨⟨Au,nu,cu,rfl,hu,ku⟩,hb1⟩;have q1:=q0.call hb1;have kS1:=q1.same)
      | (go_at_call 76;refine (kD _ hu oq).mono ?_;rintro e w2 ⟨⟨gv,Av,nv,cv,rfl,hv,kv⟩,hb2⟩;have q2:=q1.call hb2;have kS2:=q2.same;have kSE:=fun v0 v1=>((q2.same).store 0 v0).store 1 v1;have hrE:=q2.cells;have hfE:=q2.free))
   go_wp2_with fail
   exact bodyPost_ret (v:=.agg #[.bool gv,.slice Av nv cv]) (by simp [results,Tryz.results56,go_sem,World.cell?_setCell_same,World.cell?_setCell_other,hrE]) rfl (RetI.mk q2 oq rfl rfl hv oq)
  ·have hz:sgn gy (y.natAbs-x.natAbs)=x+y:=by rw [hy.neg];exact aDj hg' oq
   have HT:=ou (fun (W:World) (hB:Below w.heap.size w W)=>aFl (hy.lim.below hB) (hx.lim.below hB) oq oq);have hc:¬ 0≤gE x.natAbs y.natAbs:=by
    unfold gE;rw [og oq];decide
   rw [←hz];clear hx hy hz hle hg' hg;generalize gE x.natAbs y.natAbs=cc at *
   generalize y.natAbs-x.natAbs=p at *
   go_enter Tryz.func56,Tryz.ntmps56
   go_wp2_with fail
   obtain⟨w0,hw0⟩:∃w0,w0=((w.alloc (.cells #[.bool gx,.slice Ax nx cx] 33)).alloc (.cells #[.bool gy,.slice Ay ny cy] 33)).alloc (.cells #[.bool false,.slice none 0 0] 33):=⟨_,rfl⟩;have cc0_0:w0.cell? ⟨w.heap.size,0,none⟩=some (.bool gx):=by rw [hw0];simp [go_sem,World.cell?_alloc_past]
   have cc0_1:w0.cell? ⟨w.heap.size,1,none⟩=some (.slice Ax nx cx):=by rw [hw0];simp [go_sem,World.cell?_alloc_past]
   have cc1_0:w0.cell? ⟨w.heap.size+1,0,none⟩=some (.bool gy):=by rw [hw0];simp [go_sem,World.cell?_alloc_past]
   have cc1_1:w0.cell? ⟨w.heap.size+1,1,none⟩=some (.slice Ay ny cy):=by rw [hw0];simp [go_sem,World.cell?_alloc_past]
   have o0:Own w w0 (w.heap.size+3) (w.heap.size+2) 33 #[.bool false,.slice none 0 0] w0:=
    ⟨by rw [hw0];exact (((Below.refl _ _).alloc (oy _) _).alloc (by simp <;> omega) _).alloc (by simp <;> omega) _,by rw [hw0];simp,by rw [hw0];exact Blk.new2 _ _ _ _ _ ,SameBut.refl _ _ _⟩
   rw [←hw0];clear hw0;have hq0:=o0.same
   go_wp2_with fail
   refine (HC.out _ o0.below).mono ?_;rintro e w' ⟨rfl,dn,rfl⟩
   go_wp2_with fail
   clear hq0;have q0:=(o0.drewN dn).drew;have kS0:=q0.same
   go_region_held3 (fun w'=>∀b o,b<w.heap.size+3→b≠w.heap.size+2→w'.cell? ⟨b,o,none⟩=w0.cell? ⟨b,o,none⟩) (first|exact kS0|exact kS1|exact kS2|exact kSE _ _ )
    (first
      | (go_at_call 87;refine (HT.out _ q0.below).mono ?_;rintro e w1 ⟨⟨Au,nu,cu,rfl,hu,ku⟩,hb1⟩;have q1:=q0.call hb1;have kS1:=q1.same)
      | (go_at_call 76;refine (kD _ hu oq).mono ?_;rintro e w2 ⟨⟨gv,Av,nv,cv,rfl,hv,kv⟩,hb2⟩;have q2:=q1.call hb2;have kS2:=q2.same;have kSE:=fun v0 v1=>((q2.same).store 0 v0).store 1 v1;have hrE:=q2.cells;have hfE:=q2.free))
   go_wp2_with fail
   exact bodyPost_ret (v:=.agg #[.bool gv,.slice Av nv cv]) (by simp [results,Tryz.results56,go_sem,World.cell?_setCell_same,World.cell?_setCell_other,hrE]) rfl (RetI.mk q2 oq rfl rfl hv oq)
