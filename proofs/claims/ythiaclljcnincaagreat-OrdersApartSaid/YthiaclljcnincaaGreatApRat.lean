/- Fractions: the predicate, lowest terms (over), under. -/
import Derived.Test.YthiaclljcnincaaGreatApInt
namespace Go.Proofs.YthiaclljcnincaaGreat
open Go.RowKit Num
structure RatR (w:World) (g:Bool) (A:Option Addr) (n c:Nat) (D:Option Addr) (d e:Nat) (q:Rat):Prop where
 num:IntR w g A n c q.num
 den:LimR w D d e (if q.den=1 then 0 else q.den)
section
variable {w w':World}{A D:Option Addr}{g:Bool}{n c d e R:Nat}{q:Rat}{T:TypeId}{cs:Array Value}
theorem RatR.below (h:RatR w g A n c D d e q) (hb:Below w.heap.size w w'):RatR w' g A n c D d e q:=⟨h.num.below hb,h.den.below hb⟩
theorem RatR.grownR (h:RatR w g A n c D d e q) (hR:Blk w R T cs) (hn:NoWord cs) (hg:w.grownBy w' (some R)):RatR w' g A n c D d e q:=⟨h.num.grownR hR hn hg,h.den.grownR hR hn hg⟩
end
def RetR (q:Rat) (K L:Nat) (w:World) (e:Ending) (w':World):Prop:=(∃g A n c D d e',e=.returned (.agg #[.bool g,.slice A n c,.slice D d e'])∧RatR w' g A n c D d e' q∧n≤K∧d≤L)∧Below w.heap.size w w'
def put3 (w:World) (R:Nat) (a b c:Value):World:=((w.setCell ⟨R,0,none⟩ a).setCell ⟨R,1,none⟩ b).setCell ⟨R,2,none⟩ c
theorem aDn (w:World) (R:Nat) (a b c:Value):w.grownBy (put3 w R a b c) (some R):=by
 unfold put3;exact cY (g:=R) (p:=⟨R,2,none⟩) (cY (g:=R) (p:=⟨R,1,none⟩) (cY (g:=R) (p:=⟨R,0,none⟩) (World.grownBy.refl w (some R)) (.inl rfl) a) (.inl rfl) b) (.inl rfl) c
theorem RetR.mk {w w0 w2:World}{N R K L n d:Nat}{T:TypeId}{cs:Array Value}{g:Bool}{A D:Option Addr}{c e:Nat}{q:Rat}(h:Own w w0 N R T cs w2) (hw:w.heap.size≤R) (hn:NoWord cs) (hl:RatR w2 g A n c D d e q) (hk:n≤K) (hd:d≤L) :
 RetR q K L w (.returned (.agg #[.bool g,.slice A n c,.slice D d e])) (put3 w2 R (.bool g) (.slice A n c) (.slice D d e)):=
 ⟨⟨_,_,_,_,_,_,_,rfl,hl.grownR h.blk hn (aDn _ _ _ _ _),hk,hd⟩,((h.below.setCell hw _).setCell hw _).setCell hw _⟩
theorem Own.other {w w0 w1:World}{N R b i:Nat}{T:TypeId}{cs:Array Value}(h:Own w w0 N R T cs w1) (hb:w.heap.size≤b) (hne:b≠R) (v:Value) :
 Own w (w1.setCell ⟨b,i,none⟩ v) N R T cs (w1.setCell ⟨b,i,none⟩ v):=
 ⟨h.below.setCell hb _,by rw [World.size_setCell];exact h.size,h.blk.far (fun e=>hne e.symm) v,SameBut.refl _ _ _⟩
theorem jD (x:Int) {m:Nat}(h:0<m):(mkRat x m).num.natAbs=x.natAbs/Nat.gcd x.natAbs m:=by
 rw [Rat.num_mkRat,oh oq,xp];rw [Int.natAbs_ediv_of_dvd (by rw [zo];exact xe _ _)];rw [zi]
theorem kV (x:Int) {m:Nat}(h:0<m):(mkRat x m).den=m/Nat.gcd x.natAbs m:=by
 rw [Rat.den_mkRat,oh oq,xp]
theorem vT (x:Int) {m:Nat}(h:0<m):decide ((mkRat x m).num<0)=decide (x<0):=by
 rw [Rat.num_mkRat,oh oq,decide_eq_decide];have hg:0<m.gcd x.natAbs:=xm _ h;constructor
 ·intro h1;exact xv fun h2=>by
   have:=Int.ediv_nonneg (a:=x) (b:=(m.gcd x.natAbs:Int)) oq oq;omega
 ·intro h1;exact Int.ediv_neg_of_neg_of_pos h1 oq
section
variable {w:World}{A:Option Addr}{n c m K:Nat}
theorem aVu (h:LimR w A n c (if m=1 then 0 else m)) (h0:0<m) (hn:n≤K) (hK:1≤K) (hK2:K≤17179869184) :
 Calls Tryz.prog 53 #[.slice A n c] w (yZ m K w):=by
 by_cases h1:m=1
 ·subst h1;rw [og rfl]at h;have e0:n=0:=h.zero_iff.2 rfl;subst e0
  go_enter Tryz.func53,Tryz.ntmps53
  go_wp2_with fail
  refine (yQ (x:=1) oz).mono ?_;rintro e w' ⟨⟨A',n',c',rfl,h',k'⟩,hb⟩
  go_wp2_with fail
  exact bodyPost_ret (v:=.slice A' n' c') (by simp [results,Tryz.results53,go_sem]) rfl ⟨⟨_,_,_,rfl,h',oq⟩,hb⟩
 ·rw [oh h1]at h;have e0:=h.pos_iff.2 h0;have H:=ou h;clear h;have e1:¬ ((n:Int)=0):=oq
  go_enter Tryz.func53,Tryz.ntmps53
  go_wp2_with fail
  exact bodyPost_ret (v:=.slice A n c) (by simp [results,Tryz.results53,go_sem]) rfl ⟨⟨_,_,_,rfl,H.out,hn⟩,Below.refl _ _⟩
end
theorem SameBut.alloc {N R:Nat}{w w':World}(h:SameBut N R w w') (hN:N≤w'.heap.size) (o:Obj):SameBut N R w (w'.alloc o):=fun b i hbn hr=>by
 rw [World.cell?_alloc_old _ _ _ (show b≠w'.heap.size by omega)];exact h b i hbn hr
theorem Own.base {w w0 w1:World}{N R:Nat}{T:TypeId}{cs:Array Value}(h:Own w w0 N R T cs w1):Own w w1 w1.heap.size R T cs w1:=⟨h.below,oy _,h.blk,SameBut.refl _ _ _⟩
theorem Own.alloc {w w0 w1:World}{N R:Nat}{T:TypeId}{cs:Array Value}(h:Own w w0 N R T cs w1) (o:Obj):Own w w0 N R T cs (w1.alloc o):=
 ⟨h.below.alloc h.below.size _,by rw [wy];have:=h.size;omega,h.blk.alloc _,h.same.alloc h.size o⟩
theorem Below.al (w:World) (o:Obj):Below w.heap.size w (w.alloc o):=(Below.refl _ _).alloc (oy _) _
structure MidI (w w0:World) (N R:Nat) (T:TypeId) (cs:Array Value) (TI:TypeId) (z:Int) (K:Nat) (s:Value) (wx:World):Prop where
 ex:∃B g A n c,s=.pointer (some ⟨B,0,none⟩)∧Own w w0 N R T cs wx∧N≤B∧Blk wx B TI #[.bool g,.slice A n c]∧IntR wx g A n c z∧n≤K
set_option maxHeartbeats 2000000 in
theorem aNx {w:World}{gx:Bool}{Ax:Option Addr}{nx cx:Nat}{x:Int}{Am:Option Addr}{nm cm m:Nat}(hx:IntR w gx Ax nx cx x) (hm:LimR w Am nm cm m) (hm0:0<m) (lx:nx≤4294967296) (lm:nm≤4294967296) :
 Calls Tryz.prog 59 #[.agg #[.bool gx,.slice Ax nx cx],.slice Am nm cm] w (RetR (mkRat x m) nx nm w):=by
 have HG:=ou (fun (W:World) (hB:Below w.heap.size w W)=>aWl (hx.lim.below hB) (hm.below hB) oq oq);have HX:=ou (fun (W:World) (hB:Below w.heap.size w W)=>hx.lim.below hB);have HM:=ou (fun (W:World) (hB:Below w.heap.size w W)=>hm.below hB);have g0:0<Nat.gcd x.natAbs m:=Nat.gcd_pos_of_pos_right _ hm0;have hgm:Nat.gcd x.natAbs m ∣ m:=ki _ _;have HF:∀W A n c D d e,LimR W A n c (x.natAbs/Nat.gcd x.natAbs m)→LimR W D d e (if m/Nat.gcd x.natAbs m=1 then 0 else m/Nat.gcd x.natAbs m)→RatR W gx A n c D d e (mkRat x m):=fun W A n c D d e h1 h2=>
  ⟨⟨by rw [vT x hm0];exact hx.neg,by rw [jD x hm0];exact h1⟩,by rw [kV x hm0];exact h2⟩
 have HF:=ou HF;clear hx hm;generalize mkRat x m=q at *
 generalize x.natAbs=a at *
 generalize Nat.gcd a m=g at *
 by_cases h1:g=1
 ·have e1:decide (g=1)=true:=decide_eq_true h1
  by_cases hm1:m=1
  ·have e2:decide (m=1)=true:=decide_eq_true hm1
   go_enter Tryz.func59,Tryz.ntmps59
   go_wp2_with fail
   obtain⟨w0,hw0⟩:∃w0,w0=(w.alloc (.cells #[.bool gx,.slice Ax nx cx] 33)).alloc (.cells #[.bool false,.slice none 0 0,.slice none 0 0] 41):=⟨_,rfl⟩;have cc0_0:w0.cell? ⟨w.heap.size,0,none⟩=some (.bool gx):=by rw [hw0];simp [go_sem,World.cell?_alloc_past]
   have cc0_1:w0.cell? ⟨w.heap.size,1,none⟩=some (.slice Ax nx cx):=by rw [hw0];simp [go_sem,World.cell?_alloc_past]
   have o0:Own w w0 (w.heap.size+2) (w.heap.size+1) 41 #[.bool false,.slice none 0 0,.slice none 0 0] w0:=
    ⟨by rw [hw0];exact ((Below.refl _ _).alloc (oy _) _).alloc (by simp <;> omega) _,by rw [hw0];simp,by rw [hw0];exact Blk.new1 _ _ _ _ ,SameBut.refl _ _ _⟩
   have oA0:Own w w0 (w.heap.size+2) (w.heap.size) 33 #[.bool gx,.slice Ax nx cx] w0:=
    ⟨o0.below,o0.size,by rw [hw0];exact (Blk.new _ _ _).alloc _,SameBut.refl _ _ _⟩
   rw [←hw0];clear hw0
   go_wp2_with fail
   refine (HG.out _ o0.below).mono ?_;rintro e w1 ⟨⟨Ag,ng,cg,rfl,hg,kg⟩,hb1⟩;have q1:=o0.call hb1;have c10:w1.cell? ⟨w.heap.size,0,none⟩=some (.bool gx):=(q1.same _ _ oq oq).trans cc0_0;have c11:w1.cell? ⟨w.heap.size,1,none⟩=some (.slice Ax nx cx):=(q1.same _ _ oq oq).trans cc0_1;have kk:ng≤17179869184:=oq
   go_wp2_with fail
   refine (gS hg kk).mono ?_;rintro e w' ⟨rfl,rfl⟩
   go_wp2_with fail
   have HA:LimR w1 Ax nx cx (a/g):=by rw [h1,yw];exact HX.out _ q1.below
   have HN:LimR w1 none 0 0 (if m/g=1 then 0 else m/g):=by rw [h1,yw,og hm1];exact LimR.nil
   have HM1:=HM.out _ q1.below;have km:nm≤17179869184:=oq
   refine (gS HM1 km).mono ?_;rintro e w' ⟨rfl,rfl⟩;have hrE:=q1.cells;have hfE:=q1.free
   go_wp2_with fail
   exact bodyPost_ret (v:=.agg #[.bool gx,.slice Ax nx cx,.slice none 0 0]) (by simp [results,Tryz.results59,go_sem,World.cell?_setCell_same,World.cell?_setCell_other,hrE]) rfl (RetR.mk q1 oq rfl (HF.out _ _ _ _ _ _ _ HA HN) (oy _) (jx _))
  ·have e2:decide (m=1)=false:=decide_eq_false hm1
   go_enter Tryz.func59,Tryz.ntmps59
   go_wp2_with fail
   obtain⟨w0,hw0⟩:∃w0,w0=(w.alloc (.cells #[.bool gx,.slice Ax nx cx] 33)).alloc (.cells #[.bool false,.slice none 0 0,.slice none 0 0] 41):=⟨_,rfl⟩;have cc0_0:w0.cell? ⟨w.heap.size,0,none⟩=some (.bool gx):=by rw [hw0];simp [go_sem,World.cell?_alloc_past]
   have cc0_1:w0.cell? ⟨w.heap.size,1,none⟩=some (.slice Ax nx cx):=by rw [hw0];simp [go_sem,World.cell?_alloc_past]
   have o0:Own w w0 (w.heap.size+2) (w.heap.size+1) 41 #[.bool false,.slice none 0 0,.slice none 0 0] w0:=
    ⟨by rw [hw0];exact ((Below.refl _ _).alloc (oy _) _).alloc (by simp <;> omega) _,by rw [hw0];simp,by rw [hw0];exact Blk.new1 _ _ _ _ ,SameBut.refl _ _ _⟩
   have oA0:Own w w0 (w.heap.size+2) (w.heap.size) 33 #[.bool gx,.slice Ax nx cx] w0:=
    ⟨o0.below,o0.size,by rw [hw0];exact (Blk.new _ _ _).alloc _,SameBut.refl _ _ _⟩
   rw [←hw0];clear hw0
   go_wp2_with fail
   refine (HG.out _ o0.below).mono ?_;rintro e w1 ⟨⟨Ag,ng,cg,rfl,hg,kg⟩,hb1⟩;have q1:=o0.call hb1;have c10:w1.cell? ⟨w.heap.size,0,none⟩=some (.bool gx):=(q1.same _ _ oq oq).trans cc0_0;have c11:w1.cell? ⟨w.heap.size,1,none⟩=some (.slice Ax nx cx):=(q1.same _ _ oq oq).trans cc0_1;have kk:ng≤17179869184:=oq
   go_wp2_with fail
   refine (gS hg kk).mono ?_;rintro e w' ⟨rfl,rfl⟩
   go_wp2_with fail
   have HA:LimR w1 Ax nx cx (a/g):=by rw [h1,yw];exact HX.out _ q1.below
   have HB:LimR w1 Am nm cm (if m/g=1 then 0 else m/g):=by rw [h1,yw,oh hm1];exact HM.out _ q1.below
   have HM1:=HM.out _ q1.below;have km:nm≤17179869184:=oq
   refine (gS HM1 km).mono ?_;rintro e w' ⟨rfl,rfl⟩;have hrE:=q1.cells;have hfE:=q1.free
   go_wp2_with fail
   exact bodyPost_ret (v:=.agg #[.bool gx,.slice Ax nx cx,.slice Am nm cm]) (by simp [results,Tryz.results59,go_sem,World.cell?_setCell_same,World.cell?_setCell_other,hrE]) rfl (RetR.mk q1 oq rfl (HF.out _ _ _ _ _ _ _ HA HB) (oy _) (oy _))
 ·have e1:decide (g=1)=false:=decide_eq_false h1;have kx:nx≤8589934592:=oq
  have km:nm≤8589934592:=oq
  have KG:=ou (fun (W:World) (Ag:Option Addr) (ng cg:Nat) (hgW:LimR W Ag ng cg g) (hB:Below w.heap.size w W)=>sW (HX.out W hB) hgW g0 kx);have KM:=ou (fun (W:World) (Ag:Option Addr) (ng cg:Nat) (hgW:LimR W Ag ng cg g) (hB:Below w.heap.size w W)=>sW (HM.out W hB) hgW g0 km);have kq:g≤m:=Nat.le_of_dvd hm0 hgm
  by_cases hm1:m/g=1
  ·have e2:decide (m/g=1)=true:=decide_eq_true hm1
   go_enter Tryz.func59,Tryz.ntmps59
   go_wp2_with fail
   obtain⟨w0,hw0⟩:∃w0,w0=(w.alloc (.cells #[.bool gx,.slice Ax nx cx] 33)).alloc (.cells #[.bool false,.slice none 0 0,.slice none 0 0] 41):=⟨_,rfl⟩;have cc0_0:w0.cell? ⟨w.heap.size,0,none⟩=some (.bool gx):=by rw [hw0];simp [go_sem,World.cell?_alloc_past]
   have cc0_1:w0.cell? ⟨w.heap.size,1,none⟩=some (.slice Ax nx cx):=by rw [hw0];simp [go_sem,World.cell?_alloc_past]
   have o0:Own w w0 (w.heap.size+2) (w.heap.size+1) 41 #[.bool false,.slice none 0 0,.slice none 0 0] w0:=
    ⟨by rw [hw0];exact ((Below.refl _ _).alloc (oy _) _).alloc (by simp <;> omega) _,by rw [hw0];simp,by rw [hw0];exact Blk.new1 _ _ _ _ ,SameBut.refl _ _ _⟩
   have oA0:Own w w0 (w.heap.size+2) (w.heap.size) 33 #[.bool gx,.slice Ax nx cx] w0:=
    ⟨o0.below,o0.size,by rw [hw0];exact (Blk.new _ _ _).alloc _,SameBut.refl _ _ _⟩
   rw [←hw0];clear hw0
   go_wp2_with fail
   refine (HG.out _ o0.below).mono ?_;rintro e w1 ⟨⟨Ag,ng,cg,rfl,hg,kg⟩,hb1⟩;have q1:=o0.call hb1;have c10:w1.cell? ⟨w.heap.size,0,none⟩=some (.bool gx):=(q1.same _ _ oq oq).trans cc0_0;have c11:w1.cell? ⟨w.heap.size,1,none⟩=some (.slice Ax nx cx):=(q1.same _ _ oq oq).trans cc0_1;have kk:ng≤17179869184:=oq
   have qA:=oA0.call hb1
   go_wp2_with fail
   refine (gS hg kk).mono ?_;rintro e w' ⟨rfl,rfl⟩
   go_wp2_with fail
   have kg2:ng≤8589934592:=by rw [hg.len];have:=bJ kq;have:=(HM.out _ q1.below).len;omega
   refine (KG.out _ _ _ _ hg q1.below kg2).mono ?_;rintro e w2 ⟨⟨A1,n1,c1,A2,n2,c2,rfl,hd1,-,kd1,-⟩,hb2⟩;have q2:=q1.call hb2;have qA2:=qA.call hb2;have hg2:=hg.below hb2;have hr2:=qA2.cells;have hf2:=qA2.free;clear c10 c11
   go_wp2_with fail
   obtain⟨w3,hw3⟩:∃w3,w3=w2.setCell ⟨w.heap.size,1,none⟩ (.slice A1 n1 c1):=⟨_,rfl⟩;have q3:Own w w3 (w.heap.size+2) (w.heap.size+1) 41 #[.bool false,.slice none 0 0,.slice none 0 0] w3:=by
    rw [hw3];exact q2.other (oy _) oq _
   have dd0:w3.cell? ⟨w.heap.size,0,none⟩=some (.bool gx):=by rw [hw3,qh _ _ _ _ (by simp),hr2];rfl
   have dd1:w3.cell? ⟨w.heap.size,1,none⟩=some (.slice A1 n1 c1):=by rw [hw3,qs _ _ _ (hr2 1)]
   have gr3:w2.grownBy w3 (some w.heap.size):=by rw [hw3];exact cY (g:=w.heap.size) (p:=⟨w.heap.size,1,none⟩) (World.grownBy.refl _ _) (.inl rfl) _
   have hg3:=hg2.grownR qA2.blk rfl gr3;have hd3:=hd1.grownR qA2.blk rfl gr3;rw [←hw3];clear hw3 gr3 hr2 hf2 qA2;refine (KM.out _ _ _ _ hg3 q3.below kg2).mono ?_;rintro e w4 ⟨⟨A3,n3,c3,A4,n4,c4,rfl,hm4,-,km4,-⟩,hb4⟩;have q4:=q3.call hb4;have c40:w4.cell? ⟨w.heap.size,0,none⟩=some (.bool gx):=(q4.same _ _ oq oq).trans dd0;have c41:w4.cell? ⟨w.heap.size,1,none⟩=some (.slice A1 n1 c1):=(q4.same _ _ oq oq).trans dd1;have HA:=hd3.below hb4;have k4:n3≤17179869184:=oq
   go_wp2_with fail
   have HN:LimR w4 none 0 0 (if m/g=1 then 0 else m/g):=by rw [og hm1];exact LimR.nil
   refine (gS hm4 k4).mono ?_;rintro e w' ⟨rfl,rfl⟩;have hrE:=q4.cells;have hfE:=q4.free
   go_wp2_with fail
   exact bodyPost_ret (v:=.agg #[.bool gx,.slice A1 n1 c1,.slice none 0 0]) (by simp [results,Tryz.results59,go_sem,World.cell?_setCell_same,World.cell?_setCell_other,hrE]) rfl (RetR.mk q4 oq rfl (HF.out _ _ _ _ _ _ _ HA HN) kd1 (jx _))
  ·have e2:decide (m/g=1)=false:=decide_eq_false hm1
   go_enter Tryz.func59,Tryz.ntmps59
   go_wp2_with fail
   obtain⟨w0,hw0⟩:∃w0,w0=(w.alloc (.cells #[.bool gx,.slice Ax nx cx] 33)).alloc (.cells #[.bool false,.slice none 0 0,.slice none 0 0] 41):=⟨_,rfl⟩;have cc0_0:w0.cell? ⟨w.heap.size,0,none⟩=some (.bool gx):=by rw [hw0];simp [go_sem,World.cell?_alloc_past]
   have cc0_1:w0.cell? ⟨w.heap.size,1,none⟩=some (.slice Ax nx cx):=by rw [hw0];simp [go_sem,World.cell?_alloc_past]
   have o0:Own w w0 (w.heap.size+2) (w.heap.size+1) 41 #[.bool false,.slice none 0 0,.slice none 0 0] w0:=
    ⟨by rw [hw0];exact ((Below.refl _ _).alloc (oy _) _).alloc (by simp <;> omega) _,by rw [hw0];simp,by rw [hw0];exact Blk.new1 _ _ _ _ ,SameBut.refl _ _ _⟩
   have oA0:Own w w0 (w.heap.size+2) (w.heap.size) 33 #[.bool gx,.slice Ax nx cx] w0:=
    ⟨o0.below,o0.size,by rw [hw0];exact (Blk.new _ _ _).alloc _,SameBut.refl _ _ _⟩
   rw [←hw0];clear hw0
   go_wp2_with fail
   refine (HG.out _ o0.below).mono ?_;rintro e w1 ⟨⟨Ag,ng,cg,rfl,hg,kg⟩,hb1⟩;have q1:=o0.call hb1;have c10:w1.cell? ⟨w.heap.size,0,none⟩=some (.bool gx):=(q1.same _ _ oq oq).trans cc0_0;have c11:w1.cell? ⟨w.heap.size,1,none⟩=some (.slice Ax nx cx):=(q1.same _ _ oq oq).trans cc0_1;have kk:ng≤17179869184:=oq
   have qA:=oA0.call hb1
   go_wp2_with fail
   refine (gS hg kk).mono ?_;rintro e w' ⟨rfl,rfl⟩
   go_wp2_with fail
   have kg2:ng≤8589934592:=by rw [hg.len];have:=bJ kq;have:=(HM.out _ q1.below).len;omega
   refine (KG.out _ _ _ _ hg q1.below kg2).mono ?_;rintro e w2 ⟨⟨A1,n1,c1,A2,n2,c2,rfl,hd1,-,kd1,-⟩,hb2⟩;have q2:=q1.call hb2;have qA2:=qA.call hb2;have hg2:=hg.below hb2;have hr2:=qA2.cells;have hf2:=qA2.free;clear c10 c11
   go_wp2_with fail
   obtain⟨w3,hw3⟩:∃w3,w3=w2.setCell ⟨w.heap.size,1,none⟩ (.slice A1 n1 c1):=⟨_,rfl⟩;have q3:Own w w3 (w.heap.size+2) (w.heap.size+1) 41 #[.bool false,.slice none 0 0,.slice none 0 0] w3:=by
    rw [hw3];exact q2.other (oy _) oq _
   have dd0:w3.cell? ⟨w.heap.size,0,none⟩=some (.bool gx):=by rw [hw3,qh _ _ _ _ (by simp),hr2];rfl
   have dd1:w3.cell? ⟨w.heap.size,1,none⟩=some (.slice A1 n1 c1):=by rw [hw3,qs _ _ _ (hr2 1)]
   have gr3:w2.grownBy w3 (some w.heap.size):=by rw [hw3];exact cY (g:=w.heap.size) (p:=⟨w.heap.size,1,none⟩) (World.grownBy.refl _ _) (.inl rfl) _
   have hg3:=hg2.grownR qA2.blk rfl gr3;have hd3:=hd1.grownR qA2.blk rfl gr3;rw [←hw3];clear hw3 gr3 hr2 hf2 qA2;refine (KM.out _ _ _ _ hg3 q3.below kg2).mono ?_;rintro e w4 ⟨⟨A3,n3,c3,A4,n4,c4,rfl,hm4,-,km4,-⟩,hb4⟩;have q4:=q3.call hb4;have c40:w4.cell? ⟨w.heap.size,0,none⟩=some (.bool gx):=(q4.same _ _ oq oq).trans dd0;have c41:w4.cell? ⟨w.heap.size,1,none⟩=some (.slice A1 n1 c1):=(q4.same _ _ oq oq).trans dd1;have HA:=hd3.below hb4;have k4:n3≤17179869184:=oq
   go_wp2_with fail
   have HB:LimR w4 A3 n3 c3 (if m/g=1 then 0 else m/g):=by rw [oh hm1];exact hm4
   refine (gS hm4 k4).mono ?_;rintro e w' ⟨rfl,rfl⟩;have hrE:=q4.cells;have hfE:=q4.free
   go_wp2_with fail
   exact bodyPost_ret (v:=.agg #[.bool gx,.slice A1 n1 c1,.slice A3 n3 c3]) (by simp [results,Tryz.results59,go_sem,World.cell?_setCell_same,World.cell?_setCell_other,hrE]) rfl (RetR.mk q4 oq rfl (HF.out _ _ _ _ _ _ _ HA HB) kd1 km4)
