/- Walks: package exact's fractions, third part: Same, New, Div. (Printed by gen/rat.py.) -/
import Derived.Test.YtmifbgccpdmjpaaLpRat3
namespace Go.Proofs.Ytmifbgccpdmjpaa
open Go.RowKit Num
theorem sI {a b:Nat}:dR a b=0↔a=b:=by
 unfold dR
 by_cases h:a<b
 ·rw [og h];omega
 ·rw [oh h]
  by_cases h':a=b
  ·rw [og h'];omega
  ·rw [oh h'];omega
theorem aEz {a b:Nat}(ha:0<a) (hb:0<b):(if a=1 then 0 else a)=(if b=1 then 0 else b)↔a=b:=by
 by_cases h1:a=1 <;> by_cases h2:b=1 <;> simp [h1,h2] <;> omega
theorem aGz {x y:Rat}:x=y↔decide (x.num<0)=decide (y.num<0)∧x.num.natAbs=y.num.natAbs∧x.den=y.den:=by
 constructor
 ·rintro rfl;exact⟨rfl,rfl,rfl⟩
 ·rintro⟨h1,h2,h3⟩;refine Rat.ext ?_ h3;rw [decide_eq_decide]at h1;omega
set_option maxRecDepth 20000 in
set_option maxHeartbeats 2000000 in
theorem aLy {w:World}{gx:Bool}{Ax Dx:Option Addr}{nx cx dx ex:Nat}{x:Rat}{gy:Bool}{Ay Dy:Option Addr}{ny cy dy ey:Nat}{y:Rat}(hx:RatR w gx Ax nx cx Dx dx ex x) (hy:RatR w gy Ay ny cy Dy dy ey y) (lx:nx≤17179869184) (lxd:dx≤17179869184) (ly:ny≤17179869184) (lyd:dy≤17179869184) :
 Calls Try.prog 9 #[.agg #[.bool gx,.slice Ax nx cx,.slice Dx dx ex],.agg #[.bool gy,.slice Ay ny cy,.slice Dy dy ey]] w (aEi (.bool (decide (x=y))) w):=by
 have H1:=ou (fun (W:World) (hB:Below w.heap.size w W)=>aEt (hx.num.lim.below hB) (hy.num.lim.below hB) lx ly);have H2:=ou (fun (W:World) (hB:Below w.heap.size w W)=>aEt (hx.den.below hB) (hy.den.below hB) lxd lyd);have hS:x=y↔gx=gy∧dR x.num.natAbs y.num.natAbs=0∧dR (if x.den=1 then 0 else x.den) (if y.den=1 then 0 else y.den)=0:=by
  rw [aGz,hx.num.neg,hy.num.neg,sI,sI,aEz x.den_pos y.den_pos]
 have hb:∀b,(x=y↔b=true)→decide (x=y)=b:=fun b h=>by rw [vk,decide_eq_true_iff];exact h
 generalize decide (x=y)=r at *
 rw [hS]at hb;clear hx hy hS;generalize dR x.num.natAbs y.num.natAbs=c1 at *
 generalize dR (if x.den=1 then 0 else x.den) (if y.den=1 then 0 else y.den)=c2 at *
 by_cases hg:gx=gy
 ·subst hg;have e0:(gx == gx)=true:=by simp
  by_cases h1:c1=0
  ·by_cases h2:c2=0
   ·have:=hb true (by simp [h1,h2]);clear hb;subst h1 h2 this
    go_enter Try.func9,Try.ntmps9
    go_wp2_with fail
    obtain⟨w0,hw0⟩:∃w0,w0=((w.alloc (.cells #[.bool gx,.slice Ax nx cx,.slice Dx dx ex] 28)).alloc (.cells #[.bool gx,.slice Ay ny cy,.slice Dy dy ey] 28)):=⟨_,rfl⟩;have cc0_0:w0.cell? ⟨w.heap.size,0,none⟩=some (.bool gx):=by rw [hw0];simp [go_sem,World.cell?_alloc_past]
    have cc0_1:w0.cell? ⟨w.heap.size,1,none⟩=some (.slice Ax nx cx):=by rw [hw0];simp [go_sem,World.cell?_alloc_past]
    have cc0_2:w0.cell? ⟨w.heap.size,2,none⟩=some (.slice Dx dx ex):=by rw [hw0];simp [go_sem,World.cell?_alloc_past]
    have cc1_0:w0.cell? ⟨w.heap.size+1,0,none⟩=some (.bool gx):=by rw [hw0];simp [go_sem]
    have cc1_1:w0.cell? ⟨w.heap.size+1,1,none⟩=some (.slice Ay ny cy):=by rw [hw0];simp [go_sem]
    have cc1_2:w0.cell? ⟨w.heap.size+1,2,none⟩=some (.slice Dy dy ey):=by rw [hw0];simp [go_sem]
    have o0:Own w w0 (w.heap.size+2) (w.heap.size+1) 28 #[.bool gx,.slice Ay ny cy,.slice Dy dy ey] w0:=
     ⟨by rw [hw0];exact ((Below.refl _ _).alloc (oy _) _).alloc (by simp <;> omega) _,by rw [hw0];simp,by rw [hw0];exact Blk.new1 _ _ _ _ ,SameBut.refl _ _ _⟩
    rw [←hw0];clear hw0;have hr0:=o0.cells;have hs0:=o0.same
    go_wp2_with fail
    refine (H1.out _ o0.below).mono ?_;rintro e w' ⟨rfl,dn0,rfl⟩
    go_wp2_with fail
    refine (H2.out _ (bD o0.below _)).mono ?_;rintro e w' ⟨rfl,dn1,rfl⟩
    go_wp2_with fail
    exact bodyPost_ret (v:=.bool true) (by simp [results,Try.results9,go_sem]) rfl ⟨rfl,(bD o0.below _)⟩
   ·have:=hb false (by simp [h2]);clear hb;have e2:(c2 == 0)=false:=by simpa using h2
    subst h1 this
    go_enter Try.func9,Try.ntmps9
    go_wp2_with fail
    obtain⟨w0,hw0⟩:∃w0,w0=((w.alloc (.cells #[.bool gx,.slice Ax nx cx,.slice Dx dx ex] 28)).alloc (.cells #[.bool gx,.slice Ay ny cy,.slice Dy dy ey] 28)):=⟨_,rfl⟩;have cc0_0:w0.cell? ⟨w.heap.size,0,none⟩=some (.bool gx):=by rw [hw0];simp [go_sem,World.cell?_alloc_past]
    have cc0_1:w0.cell? ⟨w.heap.size,1,none⟩=some (.slice Ax nx cx):=by rw [hw0];simp [go_sem,World.cell?_alloc_past]
    have cc0_2:w0.cell? ⟨w.heap.size,2,none⟩=some (.slice Dx dx ex):=by rw [hw0];simp [go_sem,World.cell?_alloc_past]
    have cc1_0:w0.cell? ⟨w.heap.size+1,0,none⟩=some (.bool gx):=by rw [hw0];simp [go_sem]
    have cc1_1:w0.cell? ⟨w.heap.size+1,1,none⟩=some (.slice Ay ny cy):=by rw [hw0];simp [go_sem]
    have cc1_2:w0.cell? ⟨w.heap.size+1,2,none⟩=some (.slice Dy dy ey):=by rw [hw0];simp [go_sem]
    have o0:Own w w0 (w.heap.size+2) (w.heap.size+1) 28 #[.bool gx,.slice Ay ny cy,.slice Dy dy ey] w0:=
     ⟨by rw [hw0];exact ((Below.refl _ _).alloc (oy _) _).alloc (by simp <;> omega) _,by rw [hw0];simp,by rw [hw0];exact Blk.new1 _ _ _ _ ,SameBut.refl _ _ _⟩
    rw [←hw0];clear hw0;have hr0:=o0.cells;have hs0:=o0.same
    go_wp2_with fail
    refine (H1.out _ o0.below).mono ?_;rintro e w' ⟨rfl,dn0,rfl⟩
    go_wp2_with fail
    refine (H2.out _ (bD o0.below _)).mono ?_;rintro e w' ⟨rfl,dn1,rfl⟩
    go_wp2_with fail
    exact bodyPost_ret (v:=.bool false) (by simp [results,Try.results9,go_sem]) rfl ⟨rfl,(bD o0.below _)⟩
  ·have:=hb false (by simp [h1]);clear hb;have e1:(c1 == 0)=false:=by simpa using h1
   subst this
   go_enter Try.func9,Try.ntmps9
   go_wp2_with fail
   obtain⟨w0,hw0⟩:∃w0,w0=((w.alloc (.cells #[.bool gx,.slice Ax nx cx,.slice Dx dx ex] 28)).alloc (.cells #[.bool gx,.slice Ay ny cy,.slice Dy dy ey] 28)):=⟨_,rfl⟩;have cc0_0:w0.cell? ⟨w.heap.size,0,none⟩=some (.bool gx):=by rw [hw0];simp [go_sem,World.cell?_alloc_past]
   have cc0_1:w0.cell? ⟨w.heap.size,1,none⟩=some (.slice Ax nx cx):=by rw [hw0];simp [go_sem,World.cell?_alloc_past]
   have cc0_2:w0.cell? ⟨w.heap.size,2,none⟩=some (.slice Dx dx ex):=by rw [hw0];simp [go_sem,World.cell?_alloc_past]
   have cc1_0:w0.cell? ⟨w.heap.size+1,0,none⟩=some (.bool gx):=by rw [hw0];simp [go_sem]
   have cc1_1:w0.cell? ⟨w.heap.size+1,1,none⟩=some (.slice Ay ny cy):=by rw [hw0];simp [go_sem]
   have cc1_2:w0.cell? ⟨w.heap.size+1,2,none⟩=some (.slice Dy dy ey):=by rw [hw0];simp [go_sem]
   have o0:Own w w0 (w.heap.size+2) (w.heap.size+1) 28 #[.bool gx,.slice Ay ny cy,.slice Dy dy ey] w0:=
    ⟨by rw [hw0];exact ((Below.refl _ _).alloc (oy _) _).alloc (by simp <;> omega) _,by rw [hw0];simp,by rw [hw0];exact Blk.new1 _ _ _ _ ,SameBut.refl _ _ _⟩
   rw [←hw0];clear hw0;have hr0:=o0.cells;have hs0:=o0.same
   go_wp2_with fail
   refine (H1.out _ o0.below).mono ?_;rintro e w' ⟨rfl,dn0,rfl⟩
   go_wp2_with fail
   exact bodyPost_ret (v:=.bool false) (by simp [results,Try.results9,go_sem]) rfl ⟨rfl,(bD o0.below _)⟩
 ·have e0:(gx == gy)=false:=by simpa using hg
  have:=hb false (by simp [hg]);clear hb hg;subst this
  go_enter Try.func9,Try.ntmps9
  go_wp2_with fail
  obtain⟨w0,hw0⟩:∃w0,w0=((w.alloc (.cells #[.bool gx,.slice Ax nx cx,.slice Dx dx ex] 28)).alloc (.cells #[.bool gy,.slice Ay ny cy,.slice Dy dy ey] 28)):=⟨_,rfl⟩;have cc0_0:w0.cell? ⟨w.heap.size,0,none⟩=some (.bool gx):=by rw [hw0];simp [go_sem,World.cell?_alloc_past]
  have cc0_1:w0.cell? ⟨w.heap.size,1,none⟩=some (.slice Ax nx cx):=by rw [hw0];simp [go_sem,World.cell?_alloc_past]
  have cc0_2:w0.cell? ⟨w.heap.size,2,none⟩=some (.slice Dx dx ex):=by rw [hw0];simp [go_sem,World.cell?_alloc_past]
  have cc1_0:w0.cell? ⟨w.heap.size+1,0,none⟩=some (.bool gy):=by rw [hw0];simp [go_sem]
  have cc1_1:w0.cell? ⟨w.heap.size+1,1,none⟩=some (.slice Ay ny cy):=by rw [hw0];simp [go_sem]
  have cc1_2:w0.cell? ⟨w.heap.size+1,2,none⟩=some (.slice Dy dy ey):=by rw [hw0];simp [go_sem]
  have o0:Own w w0 (w.heap.size+2) (w.heap.size+1) 28 #[.bool gy,.slice Ay ny cy,.slice Dy dy ey] w0:=
   ⟨by rw [hw0];exact ((Below.refl _ _).alloc (oy _) _).alloc (by simp <;> omega) _,by rw [hw0];simp,by rw [hw0];exact Blk.new1 _ _ _ _ ,SameBut.refl _ _ _⟩
  rw [←hw0];clear hw0;have hr0:=o0.cells;have hs0:=o0.same
  go_wp2_with fail
  exact bodyPost_ret (v:=.bool false) (by simp [results,Try.results9,go_sem]) rfl ⟨rfl,o0.below⟩
