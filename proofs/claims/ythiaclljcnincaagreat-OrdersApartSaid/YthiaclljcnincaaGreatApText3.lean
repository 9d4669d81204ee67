/- Walk: the text of a fraction. (Printed by gen/rattext.py.) -/
import Derived.Test.YthiaclljcnincaaGreatApRat4
import Derived.Test.YthiaclljcnincaaGreatApText2
namespace Go.Proofs.YthiaclljcnincaaGreat
open Go.RowKit Num
def aH (q:Rat):List UInt8:=(if q.num<0 then [45] else [])++(dec q.num.natAbs++(if q.den=1 then [] else 47 :: dec q.den))
theorem lK (m:Nat):(dec m).length≤64*nw m+1:=by
 unfold dec
 by_cases h:m=0
 ·rw [og h];simp
 ·rw [oh h];refine Nat.le_succ_of_le (nQ _ _ (qy (dA m) ?_));rw [mK,←yk];exact Nat.pow_le_pow_left oz _
theorem nO (c:UInt8) (l:List UInt8):(⟨#[c]⟩++⟨l.toArray⟩:ByteArray)=⟨(c :: l).toArray⟩:=gQ [c] l
set_option maxRecDepth 20000 in
set_option maxHeartbeats 2000000 in
theorem aWy {w:World}{gx:Bool}{Ax Dx:Option Addr}{nx cx dx ex:Nat}{x:Rat}(hx:RatR w gx Ax nx cx Dx dx ex x) (lx:nx≤8589934592) (lxd:dx≤8589934592) :
 Calls Tryz.prog 33 #[.agg #[.bool gx,.slice Ax nx cx,.slice Dx dx ex]] w (aSd (.string ⟨(aH x).toArray⟩) w):=by
 have HX:=ou (fun (W:World) (hB:Below w.heap.size w W)=>hx.below hB);obtain⟨l,hL⟩:∃l,dec x.num.natAbs=l:=⟨_,rfl⟩;obtain⟨m,hM⟩:∃m,dec x.den=m:=⟨_,rfl⟩;have HL:=ou hL;have HM:=ou hM;have hl:l.length≤549755813889:=by
  rw [←hL];have:=lK x.num.natAbs;rw [←hx.num.lim.len]at this;omega
 have hg0:=hx.num.neg;have hdp:=hx.den.pos_iff;have hdl:=hx.den.len;cases gx
 ·have hg:¬ x.num<0:=by simpa using hg0.symm
  by_cases hd1:x.den=1
  ·have h0:dx=0:=by rw [og hd1]at hdl;rw [hdl,nw_zero]
   have hm:True:=trivial;subst h0;clear hL hM hg0 hdp hdl hx;obtain⟨t,ht⟩:∃t,t=l:=⟨_,rfl⟩;have htx:aH x=t:=by rw [ht,←HL.out];simp [aH,hg,hd1]
   have HT:=ou htx;subst ht;clear htx hg hd1 hl hm
   go_enter Tryz.func33,Tryz.ntmps33
   go_wp2_with fail
   obtain⟨w0,hw0⟩:∃w0,w0=(w.alloc (.cells #[.bool false,.slice Ax nx cx,.slice Dx 0 ex] 41)):=⟨_,rfl⟩;have cc0_0:w0.cell? ⟨w.heap.size,0,none⟩=some (.bool false):=by rw [hw0];simp [go_sem]
   have cc0_1:w0.cell? ⟨w.heap.size,1,none⟩=some (.slice Ax nx cx):=by rw [hw0];simp [go_sem]
   have cc0_2:w0.cell? ⟨w.heap.size,2,none⟩=some (.slice Dx 0 ex):=by rw [hw0];simp [go_sem]
   have o0:Own w w0 (w.heap.size+1) (w.heap.size) 41 #[.bool false,.slice Ax nx cx,.slice Dx 0 ex] w0:=
    ⟨by rw [hw0];exact (Below.refl _ _).alloc (oy _) _,by rw [hw0];simp,by rw [hw0];exact Blk.new _ _ _,SameBut.refl _ _ _⟩
   rw [←hw0];clear hw0
   go_wp2_with fail
   refine (pS (HX.out _ o0.below).num.lim lx).mono ?_;rintro e w1 ⟨rfl,hb1⟩;have q1:=o0.call hb1;have cw1_0:w1.cell? ⟨w.heap.size,0,none⟩=some (.bool false):=q1.blk.cell 0;have cw1_1:w1.cell? ⟨w.heap.size,1,none⟩=some (.slice Ax nx cx):=q1.blk.cell 1;have cw1_2:w1.cell? ⟨w.heap.size,2,none⟩=some (.slice Dx 0 ex):=q1.blk.cell 2;rw [HL.out]
   go_wp2_with fail
   exact bodyPost_ret (v:=.string ⟨t.toArray⟩) (by simp [results,Tryz.results33,go_sem]) rfl ⟨by rw [HT.out],q1.below⟩
  ·have h0:0<dx:=by rw [oh hd1]at hdp;exact hdp.2 x.den_pos
   have e0:(0:Int)<dx:=oq
   have hm:m.length≤549755813889:=by
    rw [←hM];have:=lK x.den;rw [oh hd1]at hdl;rw [←hdl]at this;omega
   have HDen:=ou (fun (W:World) (hB:Below w.heap.size w W)=>(show LimR W Dx dx ex x.den from by have:=(HX.out W hB).den;rwa [oh hd1]at this));clear hL hM hg0 hdp hdl hx;obtain⟨m1,h2⟩:∃m1,m1=47 :: m:=⟨_,rfl⟩;have c2:(⟨#[47]⟩++⟨m.toArray⟩:ByteArray)=⟨m1.toArray⟩:=by rw [h2];exact nO 47 m
   have s2:¬ 9223372036854775807<1+m.length:=oq
   have n2:m1.length=m.length+1:=by rw [h2];simp
   obtain⟨t,ht⟩:∃t,t=l++m1:=⟨_,rfl⟩;have c3:(⟨l.toArray⟩++⟨m1.toArray⟩:ByteArray)=⟨t.toArray⟩:=by rw [ht];exact gQ l m1
   have s3:¬ 9223372036854775807<l.length+m1.length:=oq
   have htx:aH x=t:=by rw [ht,h2,←HL.out,←HM.out];simp [aH,hg,hd1]
   have HT:=ou htx;clear n2;clear htx hg hd1 h2 hl hm ht
   go_enter Tryz.func33,Tryz.ntmps33
   go_wp2_with fail
   obtain⟨w0,hw0⟩:∃w0,w0=(w.alloc (.cells #[.bool false,.slice Ax nx cx,.slice Dx dx ex] 41)):=⟨_,rfl⟩;have cc0_0:w0.cell? ⟨w.heap.size,0,none⟩=some (.bool false):=by rw [hw0];simp [go_sem]
   have cc0_1:w0.cell? ⟨w.heap.size,1,none⟩=some (.slice Ax nx cx):=by rw [hw0];simp [go_sem]
   have cc0_2:w0.cell? ⟨w.heap.size,2,none⟩=some (.slice Dx dx ex):=by rw [hw0];simp [go_sem]
   have o0:Own w w0 (w.heap.size+1) (w.heap.size) 41 #[.bool false,.slice Ax nx cx,.slice Dx dx ex] w0:=
    ⟨by rw [hw0];exact (Below.refl _ _).alloc (oy _) _,by rw [hw0];simp,by rw [hw0];exact Blk.new _ _ _,SameBut.refl _ _ _⟩
   rw [←hw0];clear hw0
   go_wp2_with fail
   refine (pS (HX.out _ o0.below).num.lim lx).mono ?_;rintro e w1 ⟨rfl,hb1⟩;have q1:=o0.call hb1;have cw1_0:w1.cell? ⟨w.heap.size,0,none⟩=some (.bool false):=q1.blk.cell 0;have cw1_1:w1.cell? ⟨w.heap.size,1,none⟩=some (.slice Ax nx cx):=q1.blk.cell 1;have cw1_2:w1.cell? ⟨w.heap.size,2,none⟩=some (.slice Dx dx ex):=q1.blk.cell 2;rw [HL.out]
   go_wp2_with fail
   refine (pS (HDen.out _ q1.below) lxd).mono ?_;rintro e w2 ⟨rfl,hb2⟩;have q2:=q1.call hb2;have cw2_0:w2.cell? ⟨w.heap.size,0,none⟩=some (.bool false):=q2.blk.cell 0;have cw2_1:w2.cell? ⟨w.heap.size,1,none⟩=some (.slice Ax nx cx):=q2.blk.cell 1;have cw2_2:w2.cell? ⟨w.heap.size,2,none⟩=some (.slice Dx dx ex):=q2.blk.cell 2;rw [HM.out]
   go_wp2_with fail
   exact bodyPost_ret (v:=.string ⟨t.toArray⟩) (by simp [results,Tryz.results33,go_sem]) rfl ⟨by rw [HT.out],q2.below⟩
 ·have hg:x.num<0:=by simpa using hg0.symm
  by_cases hd1:x.den=1
  ·have h0:dx=0:=by rw [og hd1]at hdl;rw [hdl,nw_zero]
   have hm:True:=trivial;subst h0;clear hL hM hg0 hdp hdl hx;obtain⟨l1,h1⟩:∃l1,l1=45 :: l:=⟨_,rfl⟩;have c1:(⟨#[45]⟩++⟨l.toArray⟩:ByteArray)=⟨l1.toArray⟩:=by rw [h1];exact nO 45 l
   have s1:¬ 9223372036854775807<1+l.length:=oq
   have n1:l1.length=l.length+1:=by rw [h1];simp
   obtain⟨t,ht⟩:∃t,t=l1:=⟨_,rfl⟩;have htx:aH x=t:=by rw [ht,h1,←HL.out];simp [aH,hg,hd1]
   have HT:=ou htx;clear n1;subst ht;clear htx hg hd1 h1 hl hm
   go_enter Tryz.func33,Tryz.ntmps33
   go_wp2_with fail
   obtain⟨w0,hw0⟩:∃w0,w0=(w.alloc (.cells #[.bool true,.slice Ax nx cx,.slice Dx 0 ex] 41)):=⟨_,rfl⟩;have cc0_0:w0.cell? ⟨w.heap.size,0,none⟩=some (.bool true):=by rw [hw0];simp [go_sem]
   have cc0_1:w0.cell? ⟨w.heap.size,1,none⟩=some (.slice Ax nx cx):=by rw [hw0];simp [go_sem]
   have cc0_2:w0.cell? ⟨w.heap.size,2,none⟩=some (.slice Dx 0 ex):=by rw [hw0];simp [go_sem]
   have o0:Own w w0 (w.heap.size+1) (w.heap.size) 41 #[.bool true,.slice Ax nx cx,.slice Dx 0 ex] w0:=
    ⟨by rw [hw0];exact (Below.refl _ _).alloc (oy _) _,by rw [hw0];simp,by rw [hw0];exact Blk.new _ _ _,SameBut.refl _ _ _⟩
   rw [←hw0];clear hw0
   go_wp2_with fail
   refine (pS (HX.out _ o0.below).num.lim lx).mono ?_;rintro e w1 ⟨rfl,hb1⟩;have q1:=o0.call hb1;have cw1_0:w1.cell? ⟨w.heap.size,0,none⟩=some (.bool true):=q1.blk.cell 0;have cw1_1:w1.cell? ⟨w.heap.size,1,none⟩=some (.slice Ax nx cx):=q1.blk.cell 1;have cw1_2:w1.cell? ⟨w.heap.size,2,none⟩=some (.slice Dx 0 ex):=q1.blk.cell 2;rw [HL.out]
   go_wp2_with fail
   exact bodyPost_ret (v:=.string ⟨t.toArray⟩) (by simp [results,Tryz.results33,go_sem]) rfl ⟨by rw [HT.out],q1.below⟩
  ·have h0:0<dx:=by rw [oh hd1]at hdp;exact hdp.2 x.den_pos
   have e0:(0:Int)<dx:=oq
   have hm:m.length≤549755813889:=by
    rw [←hM];have:=lK x.den;rw [oh hd1]at hdl;rw [←hdl]at this;omega
   have HDen:=ou (fun (W:World) (hB:Below w.heap.size w W)=>(show LimR W Dx dx ex x.den from by have:=(HX.out W hB).den;rwa [oh hd1]at this));clear hL hM hg0 hdp hdl hx;obtain⟨l1,h1⟩:∃l1,l1=45 :: l:=⟨_,rfl⟩;have c1:(⟨#[45]⟩++⟨l.toArray⟩:ByteArray)=⟨l1.toArray⟩:=by rw [h1];exact nO 45 l
   have s1:¬ 9223372036854775807<1+l.length:=oq
   have n1:l1.length=l.length+1:=by rw [h1];simp
   obtain⟨m1,h2⟩:∃m1,m1=47 :: m:=⟨_,rfl⟩;have c2:(⟨#[47]⟩++⟨m.toArray⟩:ByteArray)=⟨m1.toArray⟩:=by rw [h2];exact nO 47 m
   have s2:¬ 9223372036854775807<1+m.length:=oq
   have n2:m1.length=m.length+1:=by rw [h2];simp
   obtain⟨t,ht⟩:∃t,t=l1++m1:=⟨_,rfl⟩;have c3:(⟨l1.toArray⟩++⟨m1.toArray⟩:ByteArray)=⟨t.toArray⟩:=by rw [ht];exact gQ l1 m1
   have s3:¬ 9223372036854775807<l1.length+m1.length:=oq
   have htx:aH x=t:=by rw [ht,h1,h2,←HL.out,←HM.out];simp [aH,hg,hd1]
   have HT:=ou htx;clear n1;clear n2;clear htx hg hd1 h1 h2 hl hm ht
   go_enter Tryz.func33,Tryz.ntmps33
   go_wp2_with fail
   obtain⟨w0,hw0⟩:∃w0,w0=(w.alloc (.cells #[.bool true,.slice Ax nx cx,.slice Dx dx ex] 41)):=⟨_,rfl⟩;have cc0_0:w0.cell? ⟨w.heap.size,0,none⟩=some (.bool true):=by rw [hw0];simp [go_sem]
   have cc0_1:w0.cell? ⟨w.heap.size,1,none⟩=some (.slice Ax nx cx):=by rw [hw0];simp [go_sem]
   have cc0_2:w0.cell? ⟨w.heap.size,2,none⟩=some (.slice Dx dx ex):=by rw [hw0];simp [go_sem]
   have o0:Own w w0 (w.heap.size+1) (w.heap.size) 41 #[.bool true,.slice Ax nx cx,.slice Dx dx ex] w0:=
    ⟨by rw [hw0];exact (Below.refl _ _).alloc (oy _) _,by rw [hw0];simp,by rw [hw0];exact Blk.new _ _ _,SameBut.refl _ _ _⟩
   rw [←hw0];clear hw0
   go_wp2_with fail
   refine (pS (HX.out _ o0.below).num.lim lx).mono ?_;rintro e w1 ⟨rfl,hb1⟩;have q1:=o0.call hb1;have cw1_0:w1.cell? ⟨w.heap.size,0,none⟩=some (.bool true):=q1.blk.cell 0;have cw1_1:w1.cell? ⟨w.heap.size,1,none⟩=some (.slice Ax nx cx):=q1.blk.cell 1;have cw1_2:w1.cell? ⟨w.heap.size,2,none⟩=some (.slice Dx dx ex):=q1.blk.cell 2;rw [HL.out]
   go_wp2_with fail
   refine (pS (HDen.out _ q1.below) lxd).mono ?_;rintro e w2 ⟨rfl,hb2⟩;have q2:=q1.call hb2;have cw2_0:w2.cell? ⟨w.heap.size,0,none⟩=some (.bool true):=q2.blk.cell 0;have cw2_1:w2.cell? ⟨w.heap.size,1,none⟩=some (.slice Ax nx cx):=q2.blk.cell 1;have cw2_2:w2.cell? ⟨w.heap.size,2,none⟩=some (.slice Dx dx ex):=q2.blk.cell 2;rw [HM.out]
   go_wp2_with fail
   exact bodyPost_ret (v:=.string ⟨t.toArray⟩) (by simp [results,Tryz.results33,go_sem]) rfl ⟨by rw [HT.out],q2.below⟩
