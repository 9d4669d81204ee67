/- Walks: package exact's fractions. (Printed by gen/rat.py.) -/
import Derived.Test.YthiaclljcnincaaGreatApRat
set_option maxHeartbeats 1000000
namespace Go.Proofs.YthiaclljcnincaaGreat
open Go.RowKit Num
def aSd (v:Value) (w:World) (e:Ending) (w':World):Prop:=e=.returned v∧Below w.heap.size w w'
def aLe (q:Rat) (x:Int) (K L:Nat) (w:World) (e:Ending) (w':World):Prop:=(∃g A n c D d e',e=.returned (.tuple #[.agg #[.bool g,.slice A n c,.slice D d e'],.int .i64 x])∧RatR w' g A n c D d e' q∧n≤K∧d≤L)∧Below w.heap.size w w'
theorem RetR.with_ {q:Rat}{K L:Nat}{w w':World}{v:Value}(x:Int) (h:RetR q K L w (.returned v) w'):aLe q x K L w (.returned (.tuple #[v,.int .i64 x])) w':=by
 obtain⟨⟨g,A,n,c,D,d,e',h1,h2,h3,h4⟩,hb⟩:=h;injection h1 with h1;subst h1;exact⟨⟨g,A,n,c,D,d,e',rfl,h2,h3,h4⟩,hb⟩
theorem RatR.zero {w:World}:RatR w false none 0 0 none 0 0 0:=⟨⟨rfl,LimR.nil⟩,LimR.nil⟩
theorem RatR.int {w:World}{g:Bool}{A:Option Addr}{n c:Nat}{z:Int}(h:IntR w g A n c z):RatR w g A n c none 0 0 (z:Rat):=⟨h,LimR.nil⟩
theorem aYz {w:World}{gx:Bool}{Ax:Option Addr}{nx cx:Nat}{x:Int}(hx:IntR w gx Ax nx cx x) (lx:nx≤17179869184) :
 Calls Tryz.prog 60 #[.agg #[.bool gx,.slice Ax nx cx]] w (aSd (.int .i64 x.sign) w):=by
 have h0:=hx.neg;have h1:=hx.lim.pos_iff;clear hx;obtain⟨s,hs⟩:∃s,s=x.sign:=⟨_,rfl⟩;rw [←hs];cases gx
 ·by_cases hn:nx=0
  ·have e:s=0:=by
    have:x=0:=oq
    rw [hs,this];rfl
   subst hn;clear h0 h1 hs;subst e
   go_enter Tryz.func60,Tryz.ntmps60
   go_wp2_with fail
   exact bodyPost_ret (v:=.int .i64 0) (by simp [results,Tryz.results60,go_sem]) rfl ⟨rfl,(Below.refl _ _).alloc (oy _) _⟩
  ·have e:s=1:=by
    rw [hs];exact Int.sign_eq_one_of_pos (by have:=(decide_eq_false_iff_not.1 h0.symm);omega)
   have e1:(0:Int)<nx:=oq
   clear h0 h1 hs;subst e
   go_enter Tryz.func60,Tryz.ntmps60
   go_wp2_with fail
   exact bodyPost_ret (v:=.int .i64 1) (by simp [results,Tryz.results60,go_sem]) rfl ⟨rfl,(Below.refl _ _).alloc (oy _) _⟩
 ·have e:s=-1:=by
   rw [hs];exact Int.sign_eq_neg_one_of_neg (ow h0.symm)
  clear h0 h1 hs;subst e
  go_enter Tryz.func60,Tryz.ntmps60
  go_wp2_with fail
  exact bodyPost_ret (v:=.int .i64 (-1)) (by simp [results,Tryz.results60,go_sem]) rfl ⟨rfl,(Below.refl _ _).alloc (oy _) _⟩
theorem aZn {w:World}(z:Int) (h0:-9223372036854775808≤z) (h1:z<9223372036854775808) :
 Calls Tryz.prog 8 #[.int .i64 z] w (RetR z 1 0 w):=by
 go_enter Tryz.func8,Tryz.ntmps8
 go_wp2_with fail
 obtain⟨w0,hw0⟩:∃w0,w0=w.alloc (.cells #[.bool false,.slice none 0 0,.slice none 0 0] 41):=⟨_,rfl⟩;have o0:Own w w0 (w.heap.size+1) (w.heap.size) 41 #[.bool false,.slice none 0 0,.slice none 0 0] w0:=
  ⟨by rw [hw0];exact (Below.refl _ _).alloc (oy _) _,by rw [hw0];simp,by rw [hw0];exact Blk.new _ _ _,SameBut.refl _ _ _⟩
 rw [←hw0];clear hw0
 go_wp2_with fail
 refine (aUg z h0 h1).mono ?_;rintro e w1 ⟨⟨gv,Av,nv,cv,rfl,hv,kv⟩,hb1⟩;have q1:=o0.call hb1;have hrE:=q1.cells;have hfE:=q1.free
 go_wp2_with fail
 exact bodyPost_ret (v:=.agg #[.bool gv,.slice Av nv cv,.slice none 0 0]) (by simp [results,Tryz.results8,go_sem,World.cell?_setCell_same,World.cell?_setCell_other,hrE]) rfl (RetR.mk q1 oq rfl (RatR.int hv) oq oq)
theorem LimR.drewN1 {w:World}{A:Option Addr}{n c m:Nat}(h:LimR w A n c m):LimR w.drew A n c m:=h.drewN 1
