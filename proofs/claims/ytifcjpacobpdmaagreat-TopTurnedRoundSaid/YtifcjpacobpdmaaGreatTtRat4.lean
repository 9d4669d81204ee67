/- Walks: package exact's fractions, third part: Same, New, Div. (Printed by gen/rat.py.) -/
import Derived.Test.YtifcjpacobpdmaaGreatTtRat3
set_option maxHeartbeats 4000000
set_option maxRecDepth 20000
namespace Go.Proofs.YtifcjpacobpdmaaGreat
open Go.RowKit Num
theorem aDy (n b:Int):sgn (decide (n<0) != decide (b<0)) n.natAbs=if b<0 then -n else n:=by
 unfold sgn
 by_cases h1:n<0 <;> by_cases h2:b<0 <;> simp [h1,h2] <;> omega
theorem yW (a b:Int) (hb:b≠0):mkRat (sgn (decide (a<0) != decide (b<0)) a.natAbs) b.natAbs=(a:Rat) / (b:Rat):=by
 rw [aDy,wj]
 by_cases h:b<0
 ·rw [og h];have e:((b.natAbs:Nat):Rat)=-(b:Rat):=by
   rw [←xf,←Rat.intCast_neg];congr 1;omega
  rw [e,Rat.intCast_neg];have:(b:Rat)≠0:=by simpa using hb
  grind
 ·rw [oh h];have e:((b.natAbs:Nat):Rat)=(b:Rat):=by
   rw [←xf];congr 1;omega
  rw [e]
theorem aQc (x y:Rat) (hy:y≠0):mkRat (sgn (decide (x.num*y.den<0) != decide (y.num<0)) (x.num*y.den).natAbs) (x.den*y.num.natAbs)=x/y:=by
 rw [aDy,wj];have hn:y.num≠0:=fun h=>hy (Rat.num_eq_zero.1 h);have hn2:(y.num:Rat)≠0:=by simpa using hn
 have hd:(y.den:Rat)≠0:=by have:=y.den_pos;simp;omega
 have hd2:(x.den:Rat)≠0:=by have:=x.den_pos;simp;omega
 have ex:x=x.num/x.den:=by rw [←wj,Rat.mkRat_self]
 have ey:y=y.num/y.den:=by rw [←wj,Rat.mkRat_self]
 by_cases h:y.num<0
 ·rw [og h];have e:((y.num.natAbs:Nat):Rat)=-(y.num:Rat):=by
   rw [←xf,←Rat.intCast_neg];congr 1;omega
  rw [Rat.natCast_mul,e,Rat.intCast_neg,Rat.intCast_mul,xf];generalize (y.num:Rat)=yn at *
  generalize (x.num:Rat)=xn at *
  generalize (y.den:Rat)=yd at *
  generalize (x.den:Rat)=xd at *
  rw [ex,ey]
  grind
 ·rw [oh h];have e:((y.num.natAbs:Nat):Rat)=(y.num:Rat):=by
   rw [←xf];congr 1;omega
  rw [Rat.natCast_mul,e,Rat.intCast_mul,xf];generalize (y.num:Rat)=yn at *
  generalize (x.num:Rat)=xn at *
  generalize (y.den:Rat)=yd at *
  generalize (x.den:Rat)=xd at *
  rw [ex,ey]
  grind
theorem aUx {w:World}(a b:Int) (ia0:-9223372036854775808≤a) (ia1:a<9223372036854775808) (ib0:-9223372036854775808≤b) (ib1:b<9223372036854775808) :
 Calls Tryz.prog 186 #[.int .i64 a,.int .i64 b] w (aCk ((a:Rat) / (b:Rat)) (if b=0 then 3 else 0) 1 1 w):=by
 by_cases hb:b=0
 ·subst hb;have hz:(a:Rat) / ((0:Int):Rat)=0:=by rw [Rat.intCast_zero,Rat.div_def];simp
  rw [og rfl,hz];clear hz
  go_enter Tryz.func186,Tryz.ntmps186
  go_wp2_with fail
  exact bodyPost_ret (v:=.tuple #[.agg #[.bool false,.slice none 0 0,.slice none 0 0],.int .i64 3]) (by simp [results,Tryz.results186,go_sem]) rfl ⟨⟨_,_,_,_,_,_,_,rfl,RatR.zero,oq,oq⟩,(Below.refl _ _).alloc (oy _) _⟩
 ·rw [oh hb,←yW a b hb];have hbn:0<b.natAbs:=oq
  have e1:decide (b=0)=false:=decide_eq_false hb
  go_enter Tryz.func186,Tryz.ntmps186
  go_wp2_with fail
  obtain⟨w0,hw0⟩:∃w0,w0=w.alloc (.cells #[.bool false,.slice none 0 0,.slice none 0 0] 88):=⟨_,rfl⟩;have o0:Own w w0 (w.heap.size+1) (w.heap.size) 88 #[.bool false,.slice none 0 0,.slice none 0 0] w0:=
   ⟨by rw [hw0];exact (Below.refl _ _).alloc (oy _) _,by rw [hw0];simp,by rw [hw0];exact Blk.new _ _ _,SameBut.refl _ _ _⟩
  rw [←hw0];clear hw0
  go_wp2_with fail
  refine (aPw a ia0 ia1).mono ?_;rintro e w1 ⟨⟨gv,Av,nv,cv,rfl,hv,kv⟩,hb1⟩;have q1:=o0.call hb1
  go_wp2_with fail
  refine (aPw b ib0 ib1).mono ?_;rintro e w2 ⟨⟨gu,Au,nu,cu,rfl,hu,ku⟩,hb2⟩;have q2:=q1.call hb2;have hv:=hv.below hb2
  go_wp2_with fail
  obtain⟨w3,hw3⟩:∃w3,w3=(w2.alloc (.cells #[.bool gv,.slice Av nv cv] 32)).alloc (.cells #[.bool gu,.slice Au nu cu] 32):=⟨_,rfl⟩;have q3:Own w w0 (w.heap.size+1) w.heap.size 88 #[.bool false,.slice none 0 0,.slice none 0 0] w3:=by rw [hw3];exact (q2.alloc _).alloc _
  have hB3:Below w2.heap.size w2 w3:=by rw [hw3];exact ((Below.refl _ _).alloc (oy _) _).alloc (by simp) _
  have hs3:w3.heap.size=w2.heap.size+2:=by rw [hw3];simp
  have hs2:=q2.size;have n30:w3.cell? ⟨w2.heap.size,0,none⟩=some (.bool gv):=by rw [hw3];simp [go_sem,World.cell?_alloc_past]
  have n31:w3.cell? ⟨w2.heap.size,1,none⟩=some (.slice Av nv cv):=by rw [hw3];simp [go_sem,World.cell?_alloc_past]
  have n32:w3.cell? ⟨w2.heap.size+1,0,none⟩=some (.bool gu):=by rw [hw3];simp [go_sem]
  have n33:w3.cell? ⟨w2.heap.size+1,1,none⟩=some (.slice Au nu cu):=by rw [hw3];simp [go_sem]
  have hu:=hu.below hB3;have hv:=hv.below hB3;rw [←hw3];clear hw3;have hgu:=ou hu.neg;have hgv:=ou hv.neg;have kv2:nv≤1152921504606846976:=oq
  have hul:=hu.lim;have qbw3:=q3.base;have CJ1:=ou (fun (w':World) (z:SameBut (w3.heap.size) (w.heap.size) w3 w')=>(show w'.cell? ⟨w2.heap.size,0,none⟩=some (.bool gv)∧w'.cell? ⟨w2.heap.size,1,none⟩=some (.slice Av nv cv)∧w'.cell? ⟨w2.heap.size+1,0,none⟩=some (.bool gu)∧w'.cell? ⟨w2.heap.size+1,1,none⟩=some (.slice Au nu cu) from⟨(z _ _ oq oq).trans n30,(z _ _ oq oq).trans n31,(z _ _ oq oq).trans n32,(z _ _ oq oq).trans n33⟩));clear hs3
  go_wp2_with fail
  have q3d:=qbw3.drew;have kSq3d:=(CJ1.out _ (q3d.same))
  go_region_held3 (fun w'=>w'.cell? ⟨w2.heap.size,0,none⟩=some (.bool gv)∧w'.cell? ⟨w2.heap.size,1,none⟩=some (.slice Av nv cv)∧w'.cell? ⟨w2.heap.size+1,0,none⟩=some (.bool gu)∧w'.cell? ⟨w2.heap.size+1,1,none⟩=some (.slice Au nu cu)) (first|exact kSE _ _ _ |exact kSq5|exact kSq4|exact kSq3d)
   (first
     | (go_at_call 146;guard_hyp q4;(fail_if_success guard_hyp hb5);have kp2:np≤4294967296:=oq;have km2:nu≤4294967296:=oq;refine (vV hp (hul.drewN1.below hb4) hbn kp2 km2).mono ?_;rintro e w5 ⟨⟨gr,Ar,nr,cr,Dr,dr,er,rfl,hr,kr,lr⟩,hb5⟩;have q5:=q4.call hb5;have kSq5:=(CJ1.out _ (q5.same));have kSE:=fun v0 v1 v2=>(CJ1.out _ ((((q5.same).store 0 v0).store 1 v1).store 2 v2));have hrE:=q5.cells;have hfE:=q5.free)
     | (go_at_call 171;guard_hyp q3d;(fail_if_success guard_hyp hb4);refine (fV (gv != gu) hv.lim.drewN1 kv2).mono ?_;rintro e w4 ⟨⟨gp,Ap,np,cp,rfl,hp,kp⟩,hb4⟩;have q4:=q3d.call hb4;have kSq4:=(CJ1.out _ (q4.same)))
     | fail "no arm")
  go_wp2_with fail
  exact bodyPost_ret (v:=.tuple #[.agg #[.bool gr,.slice Ar nr cr,.slice Dr dr er],.int .i64 0]) (by simp [results,Tryz.results186,go_sem,World.cell?_setCell_same,World.cell?_setCell_other,hrE]) rfl (RetR.with_ 0 (RetR.mk q5 oq rfl (by rw [←hgv.out,←hgu.out];exact hr) oq oq))
theorem aUu {w:World}{gx:Bool}{Ax Dx:Option Addr}{nx cx dx ex:Nat}{x:Rat}{gy:Bool}{Ay Dy:Option Addr}{ny cy dy ey:Nat}{y:Rat}{K:Nat}(hx:RatR w gx Ax nx cx Dx dx ex x) (hy:RatR w gy Ay ny cy Dy dy ey y) (k1:1≤K) (lx:nx≤K) (lxd:dx≤K) (ly:ny≤K) (lyd:dy≤K) (hK:K≤1073741824) :
 Calls Tryz.prog 86 #[.agg #[.bool gx,.slice Ax nx cx,.slice Dx dx ex],.agg #[.bool gy,.slice Ay ny cy,.slice Dy dy ey]] w (aCk (x/y) (if y=0 then 3 else 0) (2*K) (2*K) w):=by
 have hx0:=x.den_pos;have hy0:=y.den_pos;have kK:K≤17179869184:=oq
 have kx:nx≤17179869184:=oq
 have ky:ny≤17179869184:=oq
 have HX:=ou (fun (W:World) (hB:Below w.heap.size w W)=>hx.below hB);have HY:=ou (fun (W:World) (hB:Below w.heap.size w W)=>hy.below hB)
 by_cases hy00:y=0
 ·have hz:x/y=0:=by rw [hy00,Rat.div_def];simp
  rw [og hy00,hz];have e1:decide (y=0)=true:=decide_eq_true hy00;clear hz hx hy hy00
  go_enter Tryz.func86,Tryz.ntmps86
  go_wp2_with fail
  obtain⟨w0,hw0⟩:∃w0,w0=((w.alloc (.cells #[.bool gx,.slice Ax nx cx,.slice Dx dx ex] 88)).alloc (.cells #[.bool gy,.slice Ay ny cy,.slice Dy dy ey] 88)).alloc (.cells #[.bool false,.slice none 0 0,.slice none 0 0] 88):=⟨_,rfl⟩;have cc0_0:w0.cell? ⟨w.heap.size,0,none⟩=some (.bool gx):=by rw [hw0];simp [go_sem,World.cell?_alloc_past]
  have cc0_1:w0.cell? ⟨w.heap.size,1,none⟩=some (.slice Ax nx cx):=by rw [hw0];simp [go_sem,World.cell?_alloc_past]
  have cc0_2:w0.cell? ⟨w.heap.size,2,none⟩=some (.slice Dx dx ex):=by rw [hw0];simp [go_sem,World.cell?_alloc_past]
  have cc1_0:w0.cell? ⟨w.heap.size+1,0,none⟩=some (.bool gy):=by rw [hw0];simp [go_sem,World.cell?_alloc_past]
  have cc1_1:w0.cell? ⟨w.heap.size+1,1,none⟩=some (.slice Ay ny cy):=by rw [hw0];simp [go_sem,World.cell?_alloc_past]
  have cc1_2:w0.cell? ⟨w.heap.size+1,2,none⟩=some (.slice Dy dy ey):=by rw [hw0];simp [go_sem,World.cell?_alloc_past]
  have o0:Own w w0 (w.heap.size+3) (w.heap.size+2) 88 #[.bool false,.slice none 0 0,.slice none 0 0] w0:=
   ⟨by rw [hw0];exact (((Below.refl _ _).alloc (oy _) _).alloc (by simp <;> omega) _).alloc (by simp <;> omega) _,by rw [hw0];simp,by rw [hw0];exact Blk.new2 _ _ _ _ _ ,SameBut.refl _ _ _⟩
  rw [←hw0];clear hw0
  go_wp2_with fail
  refine (aAb (HY.out _ o0.below) ky).mono ?_;rintro e w1 ⟨rfl,hb1⟩;have q1:=o0.call hb1;have cw1_0:w1.cell? ⟨w.heap.size,0,none⟩=some (.bool gx):=(q1.same _ _ oq oq).trans cc0_0;have cw1_1:w1.cell? ⟨w.heap.size,1,none⟩=some (.slice Ax nx cx):=(q1.same _ _ oq oq).trans cc0_1;have cw1_2:w1.cell? ⟨w.heap.size,2,none⟩=some (.slice Dx dx ex):=(q1.same _ _ oq oq).trans cc0_2;have cw1_3:w1.cell? ⟨w.heap.size+1,0,none⟩=some (.bool gy):=(q1.same _ _ oq oq).trans cc1_0;have cw1_4:w1.cell? ⟨w.heap.size+1,1,none⟩=some (.slice Ay ny cy):=(q1.same _ _ oq oq).trans cc1_1;have cw1_5:w1.cell? ⟨w.heap.size+1,2,none⟩=some (.slice Dy dy ey):=(q1.same _ _ oq oq).trans cc1_2;have hrE:=q1.cells;have hfE:=q1.free
  go_wp2_with fail
  exact bodyPost_ret (v:=.tuple #[.agg #[.bool false,.slice none 0 0,.slice none 0 0],.int .i64 3]) (by simp [results,Tryz.results86,go_sem,World.cell?_setCell_same,World.cell?_setCell_other,hrE]) rfl (RetR.with_ 3 (RetR.mk q1 oq rfl RatR.zero oq oq))
 ·rw [oh hy00,←aQc x y hy00];have e1:decide (y=0)=false:=decide_eq_false hy00;have hyn:0<y.num.natAbs:=by
   have:y.num≠0:=fun h=>hy00 (Rat.num_eq_zero.1 h);omega
  have hxy:=xk hx0 hyn;clear hx hy hy00
  go_enter Tryz.func86,Tryz.ntmps86
  go_wp2_with fail
  obtain⟨w0,hw0⟩:∃w0,w0=((w.alloc (.cells #[.bool gx,.slice Ax nx cx,.slice Dx dx ex] 88)).alloc (.cells #[.bool gy,.slice Ay ny cy,.slice Dy dy ey] 88)).alloc (.cells #[.bool false,.slice none 0 0,.slice none 0 0] 88):=⟨_,rfl⟩;have cc0_0:w0.cell? ⟨w.heap.size,0,none⟩=some (.bool gx):=by rw [hw0];simp [go_sem,World.cell?_alloc_past]
  have cc0_1:w0.cell? ⟨w.heap.size,1,none⟩=some (.slice Ax nx cx):=by rw [hw0];simp [go_sem,World.cell?_alloc_past]
  have cc0_2:w0.cell? ⟨w.heap.size,2,none⟩=some (.slice Dx dx ex):=by rw [hw0];simp [go_sem,World.cell?_alloc_past]
  have cc1_0:w0.cell? ⟨w.heap.size+1,0,none⟩=some (.bool gy):=by rw [hw0];simp [go_sem,World.cell?_alloc_past]
  have cc1_1:w0.cell? ⟨w.heap.size+1,1,none⟩=some (.slice Ay ny cy):=by rw [hw0];simp [go_sem,World.cell?_alloc_past]
  have cc1_2:w0.cell? ⟨w.heap.size+1,2,none⟩=some (.slice Dy dy ey):=by rw [hw0];simp [go_sem,World.cell?_alloc_past]
  have o0:Own w w0 (w.heap.size+3) (w.heap.size+2) 88 #[.bool false,.slice none 0 0,.slice none 0 0] w0:=
   ⟨by rw [hw0];exact (((Below.refl _ _).alloc (oy _) _).alloc (by simp <;> omega) _).alloc (by simp <;> omega) _,by rw [hw0];simp,by rw [hw0];exact Blk.new2 _ _ _ _ _ ,SameBut.refl _ _ _⟩
  rw [←hw0];clear hw0
  go_wp2_with fail
  refine (aAb (HY.out _ o0.below) ky).mono ?_;rintro e w1 ⟨rfl,hb1⟩;have q1:=o0.call hb1;have cw1_0:w1.cell? ⟨w.heap.size,0,none⟩=some (.bool gx):=(q1.same _ _ oq oq).trans cc0_0;have cw1_1:w1.cell? ⟨w.heap.size,1,none⟩=some (.slice Ax nx cx):=(q1.same _ _ oq oq).trans cc0_1;have cw1_2:w1.cell? ⟨w.heap.size,2,none⟩=some (.slice Dx dx ex):=(q1.same _ _ oq oq).trans cc0_2;have cw1_3:w1.cell? ⟨w.heap.size+1,0,none⟩=some (.bool gy):=(q1.same _ _ oq oq).trans cc1_0;have cw1_4:w1.cell? ⟨w.heap.size+1,1,none⟩=some (.slice Ay ny cy):=(q1.same _ _ oq oq).trans cc1_1;have cw1_5:w1.cell? ⟨w.heap.size+1,2,none⟩=some (.slice Dy dy ey):=(q1.same _ _ oq oq).trans cc1_2
  go_upto_region 3 with fail
  go_cut [6] (fun s wx=>MidI w w0 (w.heap.size+3) (w.heap.size+2) 88 #[.bool false,.slice none 0 0,.slice none 0 0] 32 (x.num*↑y.den) (2*K) s wx)
  case first=>
   go_wp2_with fail
   have q1d:=q1.drew
   go_region_held3 (fun w'=>∀b o,b<w.heap.size+3→b≠w.heap.size+2→w'.cell? ⟨b,o,none⟩=w0.cell? ⟨b,o,none⟩) (first|exact (q3.same.far hBN _ _).far hBN _ _|exact q3.same.far hBN _ _|exact ((q3.alloc _).same.far q3.size _ _).far q3.size _ _|exact (q3.alloc _).same.far q3.size _ _|exact (q3.alloc _).same|exact q3.same|exact (q2.same.far hBN _ _).far hBN _ _|exact q2.same.far hBN _ _|exact ((q2.alloc _).same.far q2.size _ _).far q2.size _ _|exact (q2.alloc _).same.far q2.size _ _|exact (q2.alloc _).same|exact q2.same|exact (q1d.same.far hBN _ _).far hBN _ _|exact q1d.same.far hBN _ _|exact ((q1d.alloc _).same.far q1d.size _ _).far q1d.size _ _|exact (q1d.alloc _).same.far q1d.size _ _|exact (q1d.alloc _).same|exact q1d.same)
    (first
      | (go_at_call 105;guard_hyp q2;(fail_if_success guard_hyp hb3);have ku2:nu≤17179869184:=oq;refine (jY (HX.out _ (q2.call (by first|exact Below.refl _ _|exact Below.al _ _|exact Below.alD _ _)).below).num (hu.below (by first|exact Below.refl _ _|exact Below.al _ _|exact Below.alD _ _)) kx ku2).mono ?_;rintro e w3 ⟨⟨gv,Av,nv,cv,rfl,hv,kv⟩,hb3⟩;(first|(have hB:Blk w3 w2.heap.size _ _:=(by first|exact Blk.afterD hb3|exact Blk.after hb3);have hBN:w.heap.size+3≤w2.heap.size:=q2.size;have hrB:=hB.cell;have hfB:=hB.frozen)|(have hB:=hB.carry hb3;have hrB:=hB.cell;have hfB:=hB.frozen)|skip);have hb3:=(by first|exact hb3|exact Below.of_allocD hb3|exact Below.of_alloc hb3:Below _ w2 w3);have q3:=q2.call hb3)
      | (go_at_call 104;guard_hyp q1d;(fail_if_success guard_hyp hb2);refine (nI (HY.out _ (q1d.call (by first|exact Below.refl _ _|exact Below.al _ _|exact Below.alD _ _)).below).den hy0 lyd k1 kK).mono ?_;rintro e w2 ⟨⟨Au,nu,cu,rfl,hu,ku⟩,hb2⟩;(first|(have hB:Blk w2 w1.heap.size _ _:=(by first|exact Blk.afterD hb2|exact Blk.after hb2);have hBN:w.heap.size+3≤w1.heap.size:=q1d.size;have hrB:=hB.cell;have hfB:=hB.frozen)|(have hB:=hB.carry hb2;have hrB:=hB.cell;have hfB:=hB.frozen)|skip);have hb2:=(by first|exact hb2|exact Below.of_allocD hb2|exact Below.of_alloc hb2:Below _ w1.drew w2);have q2:=q1d.call hb2)
      | fail "no arm")
   all_goals
    go_wp2_with fail
    go_meet
    first
     | exact MidI.one q3 hv oq
     | exact MidI.two q3 hB hBN hv oq
  case rest=>
  obtain⟨w4,rfl⟩:∃w4,w4=wc:=⟨_,rfl⟩;obtain⟨B4,gv,Av,nv,cv,rfl,q4,hBN4,hBb4,hv,k4⟩:=hcut.ex;have hBL4:=hBb4.lt;have n40:w4.cell? ⟨B4,0,none⟩=some (.bool gv):=hBb4.cell 0;have n41:w4.cell? ⟨B4,1,none⟩=some (.slice Av nv cv):=hBb4.cell 1;have rw4_0:w4.cell? ⟨w.heap.size,0,none⟩=some (.bool gx):=(q4.same _ _ oq oq).trans cc0_0;have rw4_1:w4.cell? ⟨w.heap.size,1,none⟩=some (.slice Ax nx cx):=(q4.same _ _ oq oq).trans cc0_1;have rw4_2:w4.cell? ⟨w.heap.size,2,none⟩=some (.slice Dx dx ex):=(q4.same _ _ oq oq).trans cc0_2;have rw4_3:w4.cell? ⟨w.heap.size+1,0,none⟩=some (.bool gy):=(q4.same _ _ oq oq).trans cc1_0;have rw4_4:w4.cell? ⟨w.heap.size+1,1,none⟩=some (.slice Ay ny cy):=(q4.same _ _ oq oq).trans cc1_1;have rw4_5:w4.cell? ⟨w.heap.size+1,2,none⟩=some (.slice Dy dy ey):=(q4.same _ _ oq oq).trans cc1_2;have qbw4:=q4.base;have HBm:∀b,b<w.heap.size+3→b≠B4:=fun b h=>by omega
  have hgv:=ou hv.neg;have hx4:=(HX.out _ q4.below);have hgy:=ou hx4.num.neg;have hy4:=(HY.out _ q4.below);have hgy:=ou hy4.num.neg;have kv2:nv≤1152921504606846976:=oq
  have CJ1:=ou (fun (w':World) (z:SameBut (w4.heap.size) (w.heap.size+2) w4 w')=>(show w'.cell? ⟨w.heap.size,0,none⟩=some (.bool gx)∧w'.cell? ⟨w.heap.size,1,none⟩=some (.slice Ax nx cx)∧w'.cell? ⟨w.heap.size,2,none⟩=some (.slice Dx dx ex)∧w'.cell? ⟨w.heap.size+1,0,none⟩=some (.bool gy)∧w'.cell? ⟨w.heap.size+1,1,none⟩=some (.slice Ay ny cy)∧w'.cell? ⟨w.heap.size+1,2,none⟩=some (.slice Dy dy ey)∧w'.cell? ⟨B4,0,none⟩=some (.bool gv)∧w'.cell? ⟨B4,1,none⟩=some (.slice Av nv cv) from⟨(z _ _ oq oq).trans rw4_0,(z _ _ oq oq).trans rw4_1,(z _ _ oq oq).trans rw4_2,(z _ _ oq oq).trans rw4_3,(z _ _ oq oq).trans rw4_4,(z _ _ oq oq).trans rw4_5,(z _ _ oq oq).trans n40,(z _ _ oq oq).trans n41⟩))
  go_wp2_with fail
  have q4d:=qbw4.drew;have kSq4d:=(CJ1.out _ (q4d.same))
  go_region_held3 (fun w'=>w'.cell? ⟨w.heap.size,0,none⟩=some (.bool gx)∧w'.cell? ⟨w.heap.size,1,none⟩=some (.slice Ax nx cx)∧w'.cell? ⟨w.heap.size,2,none⟩=some (.slice Dx dx ex)∧w'.cell? ⟨w.heap.size+1,0,none⟩=some (.bool gy)∧w'.cell? ⟨w.heap.size+1,1,none⟩=some (.slice Ay ny cy)∧w'.cell? ⟨w.heap.size+1,2,none⟩=some (.slice Dy dy ey)∧w'.cell? ⟨B4,0,none⟩=some (.bool gv)∧w'.cell? ⟨B4,1,none⟩=some (.slice Av nv cv)) (first|exact kSE _ _ _ |exact kSq8|exact kSq7|exact kSq6|exact kSq5|exact kSq4d)
   (first
     | (go_at_call 146;guard_hyp q7;(fail_if_success guard_hyp hb8);have kp2:np≤4294967296:=oq;have km2:nm≤4294967296:=oq;refine (vV ((hp.below hb6).below hb7) hm hxy kp2 km2).mono ?_;rintro e w8 ⟨⟨gr,Ar,nr,cr,Dr,dr,er,rfl,hr,kr,lr⟩,hb8⟩;have q8:=q7.call hb8;have kSq8:=(CJ1.out _ (q8.same));have kSE:=fun v0 v1 v2=>(CJ1.out _ ((((q8.same).store 0 v0).store 1 v1).store 2 v2));have hrE:=q8.cells;have hfE:=q8.free)
     | (go_at_call 108;guard_hyp q6;(fail_if_success guard_hyp hb7);have ku2:nu≤17179869184:=oq;refine (nH hu (HY.out _ q6.below).num.lim ku2 ky).mono ?_;rintro e w7 ⟨⟨Am,nm,cm,rfl,hm,km⟩,hb7⟩;have q7:=q6.call hb7;have kSq7:=(CJ1.out _ (q7.same)))
     | (go_at_call 104;guard_hyp q5;(fail_if_success guard_hyp hb6);refine (nI (HX.out _ q5.below).den hx0 lxd k1 kK).mono ?_;rintro e w6 ⟨⟨Au,nu,cu,rfl,hu,ku⟩,hb6⟩;have q6:=q5.call hb6;have kSq6:=(CJ1.out _ (q6.same)))
     | (go_at_call 171;guard_hyp q4d;(fail_if_success guard_hyp hb5);refine (fV (gv != gy) hv.lim.drewN1 kv2).mono ?_;rintro e w5 ⟨⟨gp,Ap,np,cp,rfl,hp,kp⟩,hb5⟩;have q5:=q4d.call hb5;have kSq5:=(CJ1.out _ (q5.same)))
     | fail "no arm")
  go_wp2_with fail
  exact bodyPost_ret (v:=.tuple #[.agg #[.bool gr,.slice Ar nr cr,.slice Dr dr er],.int .i64 0]) (by simp [results,Tryz.results86,go_sem,World.cell?_setCell_same,World.cell?_setCell_other,hrE]) rfl (RetR.with_ 0 (RetR.mk q8 oq rfl (by rw [←hgv.out,←hgy.out];exact hr) oq oq))
