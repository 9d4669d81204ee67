/- Walks: package exact's fractions, third part: Same, New, Div. (Printed by gen/rat.py.) -/
import Derived.Test.YthiaclljcnincaaGreatApRat3
namespace Go.Proofs.YthiaclljcnincaaGreat
open Go.RowKit Num
theorem aVj (n b:Int):sgn (decide (n<0) != decide (b<0)) n.natAbs=if b<0 then -n else n:=by
 unfold sgn
 by_cases h1:n<0 <;> by_cases h2:b<0 <;> simp [h1,h2] <;> omega
theorem qN (a b:Int) (hb:b≠0):mkRat (sgn (decide (a<0) != decide (b<0)) a.natAbs) b.natAbs=(a:Rat) / (b:Rat):=by
 rw [aVj,Rat.mkRat_eq_div]
 by_cases h:b<0
 ·rw [og h];have e:((b.natAbs:Nat):Rat)=-(b:Rat):=by
   rw [←xc,←ze];congr 1;omega
  rw [e,ze];have:(b:Rat)≠0:=by simpa using hb
  grind
 ·rw [oh h];have e:((b.natAbs:Nat):Rat)=(b:Rat):=by
   rw [←xc];congr 1;omega
  rw [e]
set_option maxRecDepth 20000 in
set_option maxHeartbeats 2000000 in
theorem aZo {w:World}(a b:Int) (ia0:-9223372036854775808≤a) (ia1:a<9223372036854775808) (ib0:-9223372036854775808≤b) (ib1:b<9223372036854775808) :
 Calls Tryz.prog 50 #[.int .i64 a,.int .i64 b] w (aLe ((a:Rat) / (b:Rat)) (if b=0 then 3 else 0) 1 1 w):=by
 by_cases hb:b=0
 ·subst hb;have hz:(a:Rat) / ((0:Int):Rat)=0:=by rw [yu,xd];simp
  rw [og rfl,hz];clear hz
  go_enter Tryz.func50,Tryz.ntmps50
  go_wp2_with fail
  exact bodyPost_ret (v:=.tuple #[.agg #[.bool false,.slice none 0 0,.slice none 0 0],.int .i64 3]) (by simp [results,Tryz.results50,go_sem]) rfl ⟨⟨_,_,_,_,_,_,_,rfl,RatR.zero,oq,oq⟩,(Below.refl _ _).alloc (oy _) _⟩
 ·rw [oh hb,←qN a b hb];have hbn:0<b.natAbs:=oq
  have e1:decide (b=0)=false:=decide_eq_false hb
  go_enter Tryz.func50,Tryz.ntmps50
  go_wp2_with fail
  obtain⟨w0,hw0⟩:∃w0,w0=w.alloc (.cells #[.bool false,.slice none 0 0,.slice none 0 0] 41):=⟨_,rfl⟩;have o0:Own w w0 (w.heap.size+1) (w.heap.size) 41 #[.bool false,.slice none 0 0,.slice none 0 0] w0:=
   ⟨by rw [hw0];exact (Below.refl _ _).alloc (oy _) _,by rw [hw0];simp,by rw [hw0];exact Blk.new _ _ _,SameBut.refl _ _ _⟩
  rw [←hw0];clear hw0
  go_wp2_with fail
  refine (aUg a ia0 ia1).mono ?_;rintro e w1 ⟨⟨gv,Av,nv,cv,rfl,hv,kv⟩,hb1⟩;have q1:=o0.call hb1
  go_wp2_with fail
  refine (aUg b ib0 ib1).mono ?_;rintro e w2 ⟨⟨gu,Au,nu,cu,rfl,hu,ku⟩,hb2⟩;have q2:=q1.call hb2;have hv:=hv.below hb2
  go_wp2_with fail
  obtain⟨w3,hw3⟩:∃w3,w3=(w2.alloc (.cells #[.bool gv,.slice Av nv cv] 33)).alloc (.cells #[.bool gu,.slice Au nu cu] 33):=⟨_,rfl⟩;have q3:Own w w0 (w.heap.size+1) w.heap.size 41 #[.bool false,.slice none 0 0,.slice none 0 0] w3:=by rw [hw3];exact (q2.alloc _).alloc _
  have hB3:Below w2.heap.size w2 w3:=by rw [hw3];exact ((Below.refl _ _).alloc (oy _) _).alloc (by simp) _
  have hs3:w3.heap.size=w2.heap.size+2:=by rw [hw3];simp
  have hs2:=q2.size;have n30:w3.cell? ⟨w2.heap.size,0,none⟩=some (.bool gv):=by rw [hw3];simp [go_sem,World.cell?_alloc_past]
  have n31:w3.cell? ⟨w2.heap.size,1,none⟩=some (.slice Av nv cv):=by rw [hw3];simp [go_sem,World.cell?_alloc_past]
  have n32:w3.cell? ⟨w2.heap.size+1,0,none⟩=some (.bool gu):=by rw [hw3];simp [go_sem]
  have n33:w3.cell? ⟨w2.heap.size+1,1,none⟩=some (.slice Au nu cu):=by rw [hw3];simp [go_sem]
  have hu:=hu.below hB3;have hv:=hv.below hB3;rw [←hw3];clear hw3;have hgu:=ou hu.neg;have hgv:=ou hv.neg;have kv2:nv≤1152921504606846976:=oq
  have hul:=hu.lim;have qbw3:=q3.base;have CJ1:=ou (fun (w':World) (z:SameBut (w3.heap.size) (w.heap.size) w3 w')=>(show w'.cell? ⟨w2.heap.size,0,none⟩=some (.bool gv)∧w'.cell? ⟨w2.heap.size,1,none⟩=some (.slice Av nv cv)∧w'.cell? ⟨w2.heap.size+1,0,none⟩=some (.bool gu)∧w'.cell? ⟨w2.heap.size+1,1,none⟩=some (.slice Au nu cu) from⟨(z _ _ oq oq).trans n30,(z _ _ oq oq).trans n31,(z _ _ oq oq).trans n32,(z _ _ oq oq).trans n33⟩));clear hs3
  go_wp2_with fail
  have q3d:=qbw3.drew;have kSq3d:=(CJ1.out _ (q3d.same))
  go_region_held3 (fun w'=>w'.cell? ⟨w2.heap.size,0,none⟩=some (.bool gv)∧w'.cell? ⟨w2.heap.size,1,none⟩=some (.slice Av nv cv)∧w'.cell? ⟨w2.heap.size+1,0,none⟩=some (.bool gu)∧w'.cell? ⟨w2.heap.size+1,1,none⟩=some (.slice Au nu cu)) (first|exact kSE _ _ _ |exact kSq5|exact kSq4|exact kSq3d)
   (first
     | (go_at_call 59;guard_hyp q4;(fail_if_success guard_hyp hb5);have kp2:np≤4294967296:=oq;have km2:nu≤4294967296:=oq;refine (aNx hp (hul.drewN1.below hb4) hbn kp2 km2).mono ?_;rintro e w5 ⟨⟨gr,Ar,nr,cr,Dr,dr,er,rfl,hr,kr,lr⟩,hb5⟩;have q5:=q4.call hb5;have kSq5:=(CJ1.out _ (q5.same));have kSE:=fun v0 v1 v2=>(CJ1.out _ ((((q5.same).store 0 v0).store 1 v1).store 2 v2));have hrE:=q5.cells;have hfE:=q5.free)
     | (go_at_call 76;guard_hyp q3d;(fail_if_success guard_hyp hb4);refine (kD (gv != gu) hv.lim.drewN1 kv2).mono ?_;rintro e w4 ⟨⟨gp,Ap,np,cp,rfl,hp,kp⟩,hb4⟩;have q4:=q3d.call hb4;have kSq4:=(CJ1.out _ (q4.same)))
     | fail "no arm")
  go_wp2_with fail
  exact bodyPost_ret (v:=.tuple #[.agg #[.bool gr,.slice Ar nr cr,.slice Dr dr er],.int .i64 0]) (by simp [results,Tryz.results50,go_sem,World.cell?_setCell_same,World.cell?_setCell_other,hrE]) rfl (RetR.with_ 0 (RetR.mk q5 oq rfl (by rw [←hgv.out,←hgu.out];exact hr) oq oq))
