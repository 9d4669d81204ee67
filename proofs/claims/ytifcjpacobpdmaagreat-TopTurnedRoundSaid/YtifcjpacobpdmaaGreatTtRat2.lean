/- Walks: package exact's fractions. (Printed by gen/rat.py.) -/
import Derived.Test.YtifcjpacobpdmaaGreatTtRat
set_option maxHeartbeats 4000000
namespace Go.Proofs.YtifcjpacobpdmaaGreat
open Go.RowKit Num
def aNl (v:Value) (w:World) (e:Ending) (w':World):Prop:=e=.returned v∧Below w.heap.size w w'
def aCk (q:Rat) (x:Int) (K L:Nat) (w:World) (e:Ending) (w':World):Prop:=(∃g A n c D d e',e=.returned (.tuple #[.agg #[.bool g,.slice A n c,.slice D d e'],.int .i64 x])∧RatR w' g A n c D d e' q∧n≤K∧d≤L)∧Below w.heap.size w w'
theorem RetR.with_ {q:Rat}{K L:Nat}{w w':World}{v:Value}(x:Int) (h:RetR q K L w (.returned v) w'):aCk q x K L w (.returned (.tuple #[v,.int .i64 x])) w':=by
 obtain⟨⟨g,A,n,c,D,d,e',h1,h2,h3,h4⟩,hb⟩:=h;injection h1 with h1;subst h1;exact⟨⟨g,A,n,c,D,d,e',rfl,h2,h3,h4⟩,hb⟩
theorem RatR.zero {w:World}:RatR w false none 0 0 none 0 0 0:=⟨⟨rfl,LimR.nil⟩,LimR.nil⟩
theorem RatR.int {w:World}{g:Bool}{A:Option Addr}{n c:Nat}{z:Int}(h:IntR w g A n c z):RatR w g A n c none 0 0 (z:Rat):=⟨h,LimR.nil⟩
theorem aUh {w:World}{gx:Bool}{Ax:Option Addr}{nx cx:Nat}{x:Int}(hx:IntR w gx Ax nx cx x) (lx:nx≤17179869184) :
 Calls Tryz.prog 236 #[.agg #[.bool gx,.slice Ax nx cx]] w (aNl (.int .i64 x.sign) w):=by
 have h0:=hx.neg;have h1:=hx.lim.pos_iff;clear hx;obtain⟨s,hs⟩:∃s,s=x.sign:=⟨_,rfl⟩;rw [←hs];cases gx
 ·by_cases hn:nx=0
  ·have e:s=0:=by
    have:x=0:=oq
    rw [hs,this];rfl
   subst hn;clear h0 h1 hs;subst e
   go_enter Tryz.func236,Tryz.ntmps236
   go_wp2_with fail
   exact bodyPost_ret (v:=.int .i64 0) (by simp [results,Tryz.results236,go_sem]) rfl ⟨rfl,(Below.refl _ _).alloc (oy _) _⟩
  ·have e:s=1:=by
    rw [hs];exact Int.sign_eq_one_of_pos (by have:=(decide_eq_false_iff_not.1 h0.symm);omega)
   have e1:(0:Int)<nx:=oq
   clear h0 h1 hs;subst e
   go_enter Tryz.func236,Tryz.ntmps236
   go_wp2_with fail
   exact bodyPost_ret (v:=.int .i64 1) (by simp [results,Tryz.results236,go_sem]) rfl ⟨rfl,(Below.refl _ _).alloc (oy _) _⟩
 ·have e:s=-1:=by
   rw [hs];exact Int.sign_eq_neg_one_of_neg (ow h0.symm)
  clear h0 h1 hs;subst e
  go_enter Tryz.func236,Tryz.ntmps236
  go_wp2_with fail
  exact bodyPost_ret (v:=.int .i64 (-1)) (by simp [results,Tryz.results236,go_sem]) rfl ⟨rfl,(Below.refl _ _).alloc (oy _) _⟩
theorem aUw {w:World}(z:Int) (h0:-9223372036854775808≤z) (h1:z<9223372036854775808) :
 Calls Tryz.prog 60 #[.int .i64 z] w (RetR z 1 0 w):=by
 go_enter Tryz.func60,Tryz.ntmps60
 go_wp2_with fail
 obtain⟨w0,hw0⟩:∃w0,w0=w.alloc (.cells #[.bool false,.slice none 0 0,.slice none 0 0] 88):=⟨_,rfl⟩;have o0:Own w w0 (w.heap.size+1) (w.heap.size) 88 #[.bool false,.slice none 0 0,.slice none 0 0] w0:=
  ⟨by rw [hw0];exact (Below.refl _ _).alloc (oy _) _,by rw [hw0];simp,by rw [hw0];exact Blk.new _ _ _,SameBut.refl _ _ _⟩
 rw [←hw0];clear hw0
 go_wp2_with fail
 refine (aPw z h0 h1).mono ?_;rintro e w1 ⟨⟨gv,Av,nv,cv,rfl,hv,kv⟩,hb1⟩;have q1:=o0.call hb1;have hrE:=q1.cells;have hfE:=q1.free
 go_wp2_with fail
 exact bodyPost_ret (v:=.agg #[.bool gv,.slice Av nv cv,.slice none 0 0]) (by simp [results,Tryz.results60,go_sem,World.cell?_setCell_same,World.cell?_setCell_other,hrE]) rfl (RetR.mk q1 oq rfl (RatR.int hv) oq oq)
theorem LimR.drewN1 {w:World}{A:Option Addr}{n c m:Nat}(h:LimR w A n c m):LimR w.drew A n c m:=h.drewN 1
theorem IntR.drewN1 {w:World}{g:Bool}{A:Option Addr}{n c:Nat}{m:Int}(h:IntR w g A n c m):IntR w.drew g A n c m:=h.drewN 1
theorem LimR.below3 {w w' w'':World}{A:Option Addr}{n c m:Nat}(h:LimR w A n c m) (h1:Below w.heap.size w w') (h2:Below w'.heap.size w' w''):LimR w'' A n c m:=(h.below h1).below h2
set_option maxRecDepth 20000 in
theorem aUr {w:World}{gx:Bool}{Ax Dx:Option Addr}{nx cx dx ex:Nat}{x:Rat}{gy:Bool}{Ay Dy:Option Addr}{ny cy dy ey:Nat}{y:Rat}{K:Nat}(hx:RatR w gx Ax nx cx Dx dx ex x) (hy:RatR w gy Ay ny cy Dy dy ey y) (k1:1≤K) (lx:nx≤K) (lxd:dx≤K) (ly:ny≤K) (lyd:dy≤K) (hK:K≤1073741824) :
 Calls Tryz.prog 58 #[.agg #[.bool gx,.slice Ax nx cx,.slice Dx dx ex],.agg #[.bool gy,.slice Ay ny cy,.slice Dy dy ey]] w (RetR (x+y) (2*K+1) (2*K) w):=by
 have hx0:=x.den_pos;have hy0:=y.den_pos;have hxy:=xk hx0 hy0;have kK:K≤17179869184:=oq
 have kK2:2*K≤17179869184:=oq
 have kx:nx≤17179869184:=oq
 have ky:ny≤17179869184:=oq
 have HX:=ou (fun (W:World) (hB:Below w.heap.size w W)=>hx.below hB);have HY:=ou (fun (W:World) (hB:Below w.heap.size w W)=>hy.below hB);rw [Rat.add_def'];clear hx hy
 go_enter Tryz.func58,Tryz.ntmps58
 go_wp2_with fail
 obtain⟨w0,hw0⟩:∃w0,w0=((w.alloc (.cells #[.bool gx,.slice Ax nx cx,.slice Dx dx ex] 88)).alloc (.cells #[.bool gy,.slice Ay ny cy,.slice Dy dy ey] 88)).alloc (.cells #[.bool false,.slice none 0 0,.slice none 0 0] 88):=⟨_,rfl⟩;have cc0_0:w0.cell? ⟨w.heap.size,0,none⟩=some (.bool gx):=by rw [hw0];simp [go_sem,World.cell?_alloc_past]
 have cc0_1:w0.cell? ⟨w.heap.size,1,none⟩=some (.slice Ax nx cx):=by rw [hw0];simp [go_sem,World.cell?_alloc_past]
 have cc0_2:w0.cell? ⟨w.heap.size,2,none⟩=some (.slice Dx dx ex):=by rw [hw0];simp [go_sem,World.cell?_alloc_past]
 have cc1_0:w0.cell? ⟨w.heap.size+1,0,none⟩=some (.bool gy):=by rw [hw0];simp [go_sem,World.cell?_alloc_past]
 have cc1_1:w0.cell? ⟨w.heap.size+1,1,none⟩=some (.slice Ay ny cy):=by rw [hw0];simp [go_sem,World.cell?_alloc_past]
 have cc1_2:w0.cell? ⟨w.heap.size+1,2,none⟩=some (.slice Dy dy ey):=by rw [hw0];simp [go_sem,World.cell?_alloc_past]
 have o0:Own w w0 (w.heap.size+3) (w.heap.size+2) 88 #[.bool false,.slice none 0 0,.slice none 0 0] w0:=
  ⟨by rw [hw0];exact (((Below.refl _ _).alloc (oy _) _).alloc (by simp <;> omega) _).alloc (by simp <;> omega) _,by rw [hw0];simp,by rw [hw0];exact Blk.new2 _ _ _ _ _ ,SameBut.refl _ _ _⟩
 rw [←hw0];clear hw0;have q0d:=o0.drew;have kSq0d:=q0d.same
 go_region_held3 (fun w'=>∀b o,b<w.heap.size+3→b≠w.heap.size+2→w'.cell? ⟨b,o,none⟩=w0.cell? ⟨b,o,none⟩) (first|exact kSq2|exact kSq1|exact kSq0d)
  (first
    | (go_at_call 104;guard_hyp q1;(fail_if_success guard_hyp hb2);refine (nI (HY.out _ q1.below).den hy0 lyd k1 kK).mono ?_;rintro e w2 ⟨⟨Av,nv,cv,rfl,hv,kv⟩,hb2⟩;have q2:=q1.call hb2;have kSq2:=q2.same)
    | (go_at_call 104;guard_hyp q0d;(fail_if_success guard_hyp hb1);refine (nI (HX.out _ q0d.below).den hx0 lxd k1 kK).mono ?_;rintro e w1 ⟨⟨Au,nu,cu,rfl,hu,ku⟩,hb1⟩;have q1:=q0d.call hb1;have kSq1:=q1.same)
    | fail "no arm")
 have hu:=hu.below hb2;have ku2:nu≤17179869184:=oq
 have kv2:nv≤17179869184:=oq
 have hX:=(HX.out _ q2.below).num;have hY:=(HY.out _ q2.below).num
 go_wp2_with fail
 have q2d:=q2.drew;have kSq2d:=q2d.same
 go_region_held3 (fun w'=>∀b o,b<w.heap.size+3→b≠w.heap.size+2→w'.cell? ⟨b,o,none⟩=w0.cell? ⟨b,o,none⟩) (first|exact kSE _ _ _ |exact kSq7|exact kSq6|exact kSq5|exact kSq4|exact kSq3|exact kSq2d)
  (first
    | (go_at_call 146;guard_hyp q6;(fail_if_success guard_hyp hb7);have kp2:np≤4294967296:=oq;have km2:nm≤4294967296:=oq;refine (vV (hp.below hb6) hm hxy kp2 km2).mono ?_;rintro e w7 ⟨⟨gr,Ar,nr,cr,Dr,dr,er,rfl,hr,kr,lr⟩,hb7⟩;have q7:=q6.call hb7;have kSq7:=q7.same;have kSE:=fun v0 v1 v2=>(((q7.same).store 0 v0).store 1 v1).store 2 v2;have hrE:=q7.cells;have hfE:=q7.free)
    | (go_at_call 108;guard_hyp q5;(fail_if_success guard_hyp hb6);refine (nH ((hu.drewN1.below hb3).below3 hb4 hb5) ((hv.drewN1.below hb3).below3 hb4 hb5) ku2 kv2).mono ?_;rintro e w6 ⟨⟨Am,nm,cm,rfl,hm,km⟩,hb6⟩;have q6:=q5.call hb6;have kSq6:=q6.same)
    | (go_at_call 106;guard_hyp q4;(fail_if_success guard_hyp hb5);have ks:ns≤2*K:=oq;have kt:nt≤2*K:=oq;refine (aDj (hs.below hb4) ht ks kt kK2).mono ?_;rintro e w5 ⟨⟨gp,Ap,np,cp,rfl,hp,kp⟩,hb5⟩;have q5:=q4.call hb5;have kSq5:=q5.same)
    | (go_at_call 105;guard_hyp q3;(fail_if_success guard_hyp hb4);refine (jY (hY.drewN1.below hb3) (hu.drewN1.below hb3) ky ku2).mono ?_;rintro e w4 ⟨⟨gt,At,nt,ct,rfl,ht,kt⟩,hb4⟩;have q4:=q3.call hb4;have kSq4:=q4.same)
    | (go_at_call 105;guard_hyp q2d;(fail_if_success guard_hyp hb3);refine (jY hX.drewN1 hv.drewN1 kx kv2).mono ?_;rintro e w3 ⟨⟨gs,As,ns,cs,rfl,hs,ks⟩,hb3⟩;have q3:=q2d.call hb3;have kSq3:=q3.same)
    | fail "no arm")
 go_wp2_with fail
 exact bodyPost_ret (v:=.agg #[.bool gr,.slice Ar nr cr,.slice Dr dr er]) (by simp [results,Tryz.results58,go_sem,World.cell?_setCell_same,World.cell?_setCell_other,hrE]) rfl (RetR.mk q7 oq rfl hr oq oq)
