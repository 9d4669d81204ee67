/- Several texts in one. (Printed by prep.py.) -/
import Derived.Test.YtjgnlflbgmnfaaaGreatHsNE
namespace Go.Proofs.YtjgnlflbgmnfaaaGreat
open IntKind (wrap)
open Go.RowKit
open Value (agg slice int bool tuple)
open Sy (Up Sees CallsG Seg execFn_use)
set_option maxRecDepth 100000
variable {k:World}{R:World→Value→Prop}{A0:Option Addr}{c0 l0:Nat}{n0 n1 n4:Int}{cs0 cs1 cs2 cs3:Array Value}
theorem aPy 
 (h:Tt∧(Br (((l0:Nat):Int) == 0) (Rt R k (slice none 0 0)) (Cl k 173 #[slice A0 l0 c0] fun k2 r1=>Gi r1 fun n1=>
 ∀p2 k3,Up k2 k3→Sy.Blk k3 p2 46 #[int .u32 1]→
 Cl k3 99 #[slice (some ⟨p2,0,none⟩) 1 1,int .i64 (wrap .i64 (Int.tdiv (wrap .i64 (n1+1)) 2))] fun k5 r4=>∃A3 l3 c3,some (slice A3 l3 c3)=some r4∧
 ∃I6:Nat→World→List Value→Prop,(∃m6,∀k6,Up k5 k6→I6 m6 k6 [slice A3 l3 c3])∧
 ∀m6 k6 vs6,Up k5 k6→I6 m6 k6 vs6→∃A4 l4 c4,some [slice A4 l4 c4]=some vs6∧
 Cl k6 187 #[slice A0 l0 c0,slice A4 l4 c4] fun k8 r7=>∃A5 l5 c5,∃A6 l6 c6,some (tuple #[slice A5 l5 c5,slice A6 l6 c6])=some r7∧
 Cl k8 199 #[slice A4 l4 c4,slice A5 l5 c5] fun k10 r9=>∃A7 l7 c7,some (slice A7 l7 c7)=some r9∧
 Cl k10 243 #[slice A7 l7 c7,int .i64 1] fun k12 r11=>∃A8 l8 c8,some (slice A8 l8 c8)=some r11∧
 Cl k12 191 #[slice A8 l8 c8,slice A4 l4 c4] fun k14 r13=>Gi r13 fun n9=>
 Br (decide ((n9:Int) ≥ 0)) (Rt R k14 (slice A4 l4 c4)) (∀k16,Up k14 k16→∃m,m<m6∧I6 m k16 [slice A8 l8 c8])))) :
  CallsG Tryz.prog 251 #[slice A0 l0 c0] k R:=
  qY { opq:=[],loops:=[(0,[.tmp 3 false [.slice]])] } h
theorem aSp 
 (h:Cl k 100 #[int .u64 n0] fun k1 r0=>∃A2 l2 c2,some (slice A2 l2 c2)=some r0∧
 Cl k1 99 #[slice A2 l2 c2,int .i64 (wrap .i64 (2*n1))] fun k3 r2=>∃A3 l3 c3,some (slice A3 l3 c3)=some r2∧
 Cl k3 251 #[slice A3 l3 c3] fun k5 r4=>∃A4 l4 c4,some (slice A4 l4 c4)=some r4∧
 ∀p5 k6,Up k5 k6→Sy.Blk k6 p5 46 #[int .u32 1]→
 Cl k6 99 #[slice (some ⟨p5,0,none⟩) 1 1,int .i64 n1] fun k8 r7=>∃A6 l6 c6,some (slice A6 l6 c6)=some r7∧
 Cl k8 98 #[bool false,slice A4 l4 c4,slice A6 l6 c6] fun k10 r9=>Gt 3 r9 fun cs7=>
 Rt R k10 (agg cs7)) :
  CallsG Tryz.prog 206 #[int .u64 n0,int .i64 n1] k R:=
  qY { opq:=[34] } h
theorem aMf 
 (h:Br (decide ((n0:Int)<0)) (∀p1 k0,Up k k0→Sy.Blk k0 p1 46 #[int .u32 1]→
 Cl k0 99 #[slice (some ⟨p1,0,none⟩) 1 1,int .i64 (wrap .i64 (0-n0))] fun k2 r1=>∃A2 l2 c2,some (slice A2 l2 c2)=some r1∧
 ∀p3 k3,Up k2 k3→Sy.Blk k3 p3 46 #[int .u32 1]→
 Cl k3 98 #[bool false,slice (some ⟨p3,0,none⟩) 1 1,slice A2 l2 c2] fun k5 r4=>Gt 3 r4 fun cs4=>
 Rt R k5 (agg cs4)) (Cl k 237 #[int .i64 n0] fun k8 r7=>Gt 3 r7 fun cs1=>
 Rt R k8 (agg cs1))) :
  CallsG Tryz.prog 174 #[int .i64 n0] k R:=
  qY { opq:=[34] } h
theorem aFh (hcs0:Seg 3 cs0) (hcs1:Seg 3 cs1) (hcs2:Seg 3 cs2) (hcs3:Seg 3 cs3)
 (h:∀p5 k0,Up k k0→Sy.Blk k0 p5 45 #[int .u64 1,int .u64 2,int .u64 3,int .u64 6]→
 ∃A6 l6 c6,some (slice (some ⟨p5,0,none⟩) 4 4)=some (slice A6 l6 c6)∧
 Cl k0 174 #[int .i64 (wrap .i64 (0-n4))] fun k2 r1=>Gt 3 r1 fun cs7=>
 Ad A6∧((0:Int)≤1∧(1:Int)<(l6:Nat))∧
 ∃n8,Sy.ReadAt k2.cell? A6 (Int.toNat 1*1+0) 1 (int .u64 n8)∧
 Cl k2 206 #[int .u64 n8,int .i64 n4] fun k4 r3=>Gt 3 r3 fun cs9=>
 Cl k4 81 #[agg cs1,agg cs9] fun k6 r5=>Gt 3 r5 fun cs10=>
 Cl k6 109 #[agg cs9,agg cs7] fun k8 r7=>Gt 3 r7 fun cs11=>
 Cl k8 81 #[agg cs1,agg cs11] fun k10 r9=>Gt 3 r9 fun cs12=>
 Cl k10 124 #[agg cs1] fun k12 r11=>Gi r11 fun n13=>
 Br (decide ((n13:Int)<0)) (Cl k12 109 #[agg cs0,agg cs12] fun k14 r13=>Gt 3 r13 fun cs14=>
 Cl k14 109 #[agg cs0,agg cs10] fun k16 r15=>Gt 3 r15 fun cs15=>
 Ad A6∧((0:Int)≤2∧(2:Int)<(l6:Nat))∧
 ∃n16,Sy.ReadAt k16.cell? A6 (Int.toNat 2*1+0) 1 (int .u64 n16)∧
 Cl k16 206 #[int .u64 n16,int .i64 n4] fun k18 r17=>Gt 3 r17 fun cs17=>
 Cl k18 81 #[agg cs2,agg cs17] fun k20 r19=>Gt 3 r19 fun cs18=>
 Cl k20 109 #[agg cs17,agg cs7] fun k22 r21=>Gt 3 r21 fun cs19=>
 Cl k22 81 #[agg cs2,agg cs19] fun k24 r23=>Gt 3 r23 fun cs20=>
 Cl k24 124 #[agg cs2] fun k26 r25=>Gi r25 fun n21=>
 Br (decide ((n21:Int)<0)) (Cl k26 109 #[agg cs14,agg cs20] fun k28 r27=>Gt 3 r27 fun cs22=>
 Cl k28 109 #[agg cs15,agg cs18] fun k30 r29=>Gt 3 r29 fun cs23=>
 Ad A6∧((0:Int)≤3∧(3:Int)<(l6:Nat))∧
 ∃n24,Sy.ReadAt k30.cell? A6 (Int.toNat 3*1+0) 1 (int .u64 n24)∧
 Cl k30 206 #[int .u64 n24,int .i64 n4] fun k32 r31=>Gt 3 r31 fun cs25=>
 Cl k32 81 #[agg cs3,agg cs25] fun k34 r33=>Gt 3 r33 fun cs26=>
 Cl k34 109 #[agg cs25,agg cs7] fun k36 r35=>Gt 3 r35 fun cs27=>
 Cl k36 81 #[agg cs3,agg cs27] fun k38 r37=>Gt 3 r37 fun cs28=>
 Cl k38 124 #[agg cs3] fun k40 r39=>Gi r39 fun n29=>
 Br (decide ((n29:Int)<0)) (Cl k40 109 #[agg cs22,agg cs28] fun k42 r41=>Gt 3 r41 fun cs30=>
 Cl k42 109 #[agg cs23,agg cs26] fun k44 r43=>Gt 3 r43 fun cs31=>
 Rt R k44 (tuple #[agg cs30,agg cs31])) (Cl k40 109 #[agg cs22,agg cs26] fun k47 r46=>Gt 3 r46 fun cs30=>
 Cl k47 109 #[agg cs23,agg cs28] fun k49 r48=>Gt 3 r48 fun cs31=>
 Rt R k49 (tuple #[agg cs30,agg cs31]))) (Cl k26 109 #[agg cs14,agg cs18] fun k52 r51=>Gt 3 r51 fun cs22=>
 Cl k52 109 #[agg cs15,agg cs20] fun k54 r53=>Gt 3 r53 fun cs23=>
 Ad A6∧((0:Int)≤3∧(3:Int)<(l6:Nat))∧
 ∃n24,Sy.ReadAt k54.cell? A6 (Int.toNat 3*1+0) 1 (int .u64 n24)∧
 Cl k54 206 #[int .u64 n24,int .i64 n4] fun k56 r55=>Gt 3 r55 fun cs25=>
 Cl k56 81 #[agg cs3,agg cs25] fun k58 r57=>Gt 3 r57 fun cs26=>
 Cl k58 109 #[agg cs25,agg cs7] fun k60 r59=>Gt 3 r59 fun cs27=>
 Cl k60 81 #[agg cs3,agg cs27] fun k62 r61=>Gt 3 r61 fun cs28=>
 Cl k62 124 #[agg cs3] fun k64 r63=>Gi r63 fun n29=>
 Br (decide ((n29:Int)<0)) (Cl k64 109 #[agg cs22,agg cs28] fun k66 r65=>Gt 3 r65 fun cs30=>
 Cl k66 109 #[agg cs23,agg cs26] fun k68 r67=>Gt 3 r67 fun cs31=>
 Rt R k68 (tuple #[agg cs30,agg cs31])) (Cl k64 109 #[agg cs22,agg cs26] fun k71 r70=>Gt 3 r70 fun cs30=>
 Cl k71 109 #[agg cs23,agg cs28] fun k73 r72=>Gt 3 r72 fun cs31=>
 Rt R k73 (tuple #[agg cs30,agg cs31])))) (Cl k12 109 #[agg cs0,agg cs10] fun k76 r75=>Gt 3 r75 fun cs14=>
 Cl k76 109 #[agg cs0,agg cs12] fun k78 r77=>Gt 3 r77 fun cs15=>
 Ad A6∧((0:Int)≤2∧(2:Int)<(l6:Nat))∧
 ∃n16,Sy.ReadAt k78.cell? A6 (Int.toNat 2*1+0) 1 (int .u64 n16)∧
 Cl k78 206 #[int .u64 n16,int .i64 n4] fun k80 r79=>Gt 3 r79 fun cs17=>
 Cl k80 81 #[agg cs2,agg cs17] fun k82 r81=>Gt 3 r81 fun cs18=>
 Cl k82 109 #[agg cs17,agg cs7] fun k84 r83=>Gt 3 r83 fun cs19=>
 Cl k84 81 #[agg cs2,agg cs19] fun k86 r85=>Gt 3 r85 fun cs20=>
 Cl k86 124 #[agg cs2] fun k88 r87=>Gi r87 fun n21=>
 Br (decide ((n21:Int)<0)) (Cl k88 109 #[agg cs14,agg cs20] fun k90 r89=>Gt 3 r89 fun cs22=>
 Cl k90 109 #[agg cs15,agg cs18] fun k92 r91=>Gt 3 r91 fun cs23=>
 Ad A6∧((0:Int)≤3∧(3:Int)<(l6:Nat))∧
 ∃n24,Sy.ReadAt k92.cell? A6 (Int.toNat 3*1+0) 1 (int .u64 n24)∧
 Cl k92 206 #[int .u64 n24,int .i64 n4] fun k94 r93=>Gt 3 r93 fun cs25=>
 Cl k94 81 #[agg cs3,agg cs25] fun k96 r95=>Gt 3 r95 fun cs26=>
 Cl k96 109 #[agg cs25,agg cs7] fun k98 r97=>Gt 3 r97 fun cs27=>
 Cl k98 81 #[agg cs3,agg cs27] fun k100 r99=>Gt 3 r99 fun cs28=>
 Cl k100 124 #[agg cs3] fun k102 r101=>Gi r101 fun n29=>
 Br (decide ((n29:Int)<0)) (Cl k102 109 #[agg cs22,agg cs28] fun k104 r103=>Gt 3 r103 fun cs30=>
 Cl k104 109 #[agg cs23,agg cs26] fun k106 r105=>Gt 3 r105 fun cs31=>
 Rt R k106 (tuple #[agg cs30,agg cs31])) (Cl k102 109 #[agg cs22,agg cs26] fun k109 r108=>Gt 3 r108 fun cs30=>
 Cl k109 109 #[agg cs23,agg cs28] fun k111 r110=>Gt 3 r110 fun cs31=>
 Rt R k111 (tuple #[agg cs30,agg cs31]))) (Cl k88 109 #[agg cs14,agg cs18] fun k114 r113=>Gt 3 r113 fun cs22=>
 Cl k114 109 #[agg cs15,agg cs20] fun k116 r115=>Gt 3 r115 fun cs23=>
 Ad A6∧((0:Int)≤3∧(3:Int)<(l6:Nat))∧
 ∃n24,Sy.ReadAt k116.cell? A6 (Int.toNat 3*1+0) 1 (int .u64 n24)∧
 Cl k116 206 #[int .u64 n24,int .i64 n4] fun k118 r117=>Gt 3 r117 fun cs25=>
 Cl k118 81 #[agg cs3,agg cs25] fun k120 r119=>Gt 3 r119 fun cs26=>
 Cl k120 109 #[agg cs25,agg cs7] fun k122 r121=>Gt 3 r121 fun cs27=>
 Cl k122 81 #[agg cs3,agg cs27] fun k124 r123=>Gt 3 r123 fun cs28=>
 Cl k124 124 #[agg cs3] fun k126 r125=>Gi r125 fun n29=>
 Br (decide ((n29:Int)<0)) (Cl k126 109 #[agg cs22,agg cs28] fun k128 r127=>Gt 3 r127 fun cs30=>
 Cl k128 109 #[agg cs23,agg cs26] fun k130 r129=>Gt 3 r129 fun cs31=>
 Rt R k130 (tuple #[agg cs30,agg cs31])) (Cl k126 109 #[agg cs22,agg cs26] fun k133 r132=>Gt 3 r132 fun cs30=>
 Cl k133 109 #[agg cs23,agg cs28] fun k135 r134=>Gt 3 r134 fun cs31=>
 Rt R k135 (tuple #[agg cs30,agg cs31]))))) :
  CallsG Tryz.prog 123 #[Rg cs0 cs1 cs2 cs3,int .i64 n4] k R:=
  qX { opq:=[34] } [.agg [.seg 0 3,.seg 1 3,.seg 2 3,.seg 3 3],.one (.var 4)] [agg cs0,agg cs1,agg cs2,agg cs3,int .i64 n4] [.seg 3,.seg 3,.seg 3,.seg 3,.int .i64] ⟨⟨cs0,rfl,hcs0⟩,⟨cs1,rfl,hcs1⟩,⟨cs2,rfl,hcs2⟩,⟨cs3,rfl,hcs3⟩,⟨_,rfl⟩,trivial⟩ h
theorem aMh (hcs0:Seg 12 cs0)
 (h:Cl k 122 #[agg cs0] fun k1 r0=>Gb r0 fun b1=>
 Br b1 (Rt R k1 (int .i64 0)) (∃I3:Nat→World→List Value→Prop,(∃m3,∀k3,Up k1 k3→I3 m3 k3 [int .i64 16])∧
 ∀m3 k3 vs3,Up k1 k3→I3 m3 k3 vs3→∃n2,some [int .i64 n2]=some vs3∧
 Cl k3 123 #[agg cs0,int .i64 n2] fun k5 r4=>∃cs3,Seg 3 cs3∧∃cs4,Seg 3 cs4∧some (tuple #[agg cs3,agg cs4])=some r4∧
 Cl k5 124 #[agg cs3] fun k7 r6=>Gi r6 fun n5=>
 Br (decide ((n5:Int) > 0)) (Rt R k7 (int .i64 1)) (Cl k7 124 #[agg cs4] fun k10 r9=>Gi r9 fun n6=>
 Br (decide ((n6:Int)<0)) (Rt R k10 (int .i64 (-1))) (∀k12,Up k10 k12→∃m,m<m3∧I3 m k12 [int .i64 (wrap .i64 (2*n2))])))) :
  CallsG Tryz.prog 38 #[agg cs0] k R:=
  qX { opq:=[34,68],loops:=[(0,[.tmp 3 false [.int .i64]])] } [.agg [.seg 0 12]] [agg cs0] [.seg 12] ⟨⟨cs0,rfl,hcs0⟩,trivial⟩ h
theorem aSq (hcs0:Seg 12 cs0) (hcs1:Seg 12 cs1)
 (h:Cl k 35 #[agg cs0,agg cs1] fun k1 r0=>Gt 12 r0 fun cs2=>
 Cl k1 38 #[agg cs2] fun k3 r2=>Gi r2 fun n3=>
 Rt R k3 (int .i64 n3)) :
  CallsG Tryz.prog 132 #[agg cs0,agg cs1] k R:=
  qX { opq:=[68] } [.agg [.seg 0 12],.agg [.seg 1 12]] [agg cs0,agg cs1] [.seg 12,.seg 12] ⟨⟨cs0,rfl,hcs0⟩,⟨cs1,rfl,hcs1⟩,trivial⟩ h
end Go.Proofs.YtjgnlflbgmnfaaaGreat

namespace Go.Proofs.YtjgnlflbgmnfaaaGreat.W32
open IntKind (wrap)
open Go.RowKit Num
open Sy (Up Sees CallsG Seg)
theorem bDx (x p:Nat):4*(p*x)≤(x+p)*(x+p):=by
 rcases Nat.le_total x p with h|h
 ·obtain⟨d,rfl⟩:=Nat.exists_eq_add_of_le h;have e:(x+(x+d))*(x+(x+d))=4*((x+d)*x)+d*d:=by grind
  omega
 ·obtain⟨d,rfl⟩:=Nat.exists_eq_add_of_le h;have e:(p+d+p)*(p+d+p)=4*(p*(p+d))+d*d:=by grind
  omega
theorem newton_lo {a x:Nat}(hx:0<x):a<((x+a/x) / 2+1)*((x+a/x) / 2+1):=by
 have hq:a<(a/x+1)*x:=by rw [qj];exact Nat.lt_mul_div_succ a hx
 generalize a/x=q at hq ⊢;generalize hy:(x+q) / 2=y;have h1:x+(q+1)≤2*(y+1):=oq
 have h2:=bDx x (q+1);have h3:=zd h1 h1;have h4:2*(y+1)*(2*(y+1))=4*((y+1)*(y+1)):=by grind
 omega
theorem newton_stop {a x:Nat}(hx:0<x) (h:x≤(x+a/x) / 2):x*x≤a:=by
 have hq:x≤a/x:=oq
 exact (ja hx).1 hq
section
variable {k k':World}{A A':Option Addr}{n c m n' c' m' a b l l':Nat}{cs cs':Array Value}{R:World→Value→Prop}{x y q:Rat}{K L:Nat}
theorem aJt {b:Nat}(hb:b≤1000000000000):wrap .i64 (Int.tdiv (wrap .i64 ((b:Nat)+1)) 2)=(((b+1) / 2:Nat):Int):=by
 have h1:wrap .i64 (((b:Nat):Int)+1)=((b+1:Nat):Int):=by rw [qy];omega
 rw [h1,Int.tdiv_eq_ediv_of_nonneg oq,qy];omega
theorem bCz (h:NatN k A n c a) (hn:n≤10000000000) (C:∀k' A c r,Up k k'→r*r≤a→a<(r+1)*(r+1)→NatN k' A (nw r) c r→R k' (.slice A (nw r) c)) :
 Cl k 251 #[.slice A n c] R:=by
 intro k0 u0;replace h:=h.up u0;replace C:=fun k' A c r u=>C k' A c r (u0.trans u);refine aPy ⟨rfl,fun h0=>fun k1 u1=>?_,fun h0=>?_⟩
 ·have hn0:n=0:=by have:=eq_of_beq h0;omega
  have ha:=h.zero.1 hn0;have:=C k1 none 0 0 u1 oq oq (by rw [nw_zero];exact NatN.none k1);rw [nw_zero]at this;exact this
 ·have hn0:n≠0:=fun e=>by rw [e]at h0;exact absurd h0 oz
  have ha:0<a:=ji fun e=>hn0 (h.zero.2 e);have hlt:a<2^(32*n):=by
   have:=h.1.lt;rw [kZ,←zh]at this;exact this
  have hbl:bl a≤32*n:=cI.2 hlt;refine sV h oq fun k2 u2=>⟨_,rfl,?_⟩;intro p k3 u3 hp;rw [aJt oq];refine gH (k:=k3) (s:=(bl a+1) / 2) (eJ hp) oz oq fun k5 A3 c3 u5 h3=>⟨A3,_,c3,rfl,?_⟩;have hx0:a<2^((bl a+1) / 2)*2^((bl a+1) / 2):=by
   rw [←oa];exact ol (eH a) (ot oz oq)
  have hX:nw (1*2^((bl a+1) / 2))≤n+1:=by
   refine aI ?_;rw [jv,kZ,←zh];exact ze oz oq
  generalize hXe:1*2^((bl a+1) / 2)=X at h3 hX;have hXX:2^((bl a+1) / 2)=X:=by rw [←hXe,jv]
  rw [hXX]at hx0;have hXp:0<X:=by rw [←hXX];exact oi oz
  clear hXe hXX;replace h:=((h.up u2).up u3).up u5;replace C:=fun k' A c r u=>C k' A c r (((u2.trans u3).trans u5).trans u);refine⟨fun m k' vs=>∃A x c,m=x∧vs=[.slice A (nw x) c]∧NatN k' A (nw x) c x∧0<x∧a<(x+1)*(x+1)∧x≤X,⟨X,fun k' u=>⟨A3,X,c3,rfl,rfl,h3.up u,hXp,kz hx0 (we oq oq),oy _⟩⟩,?_⟩;rintro m k6 vs u6 ⟨A4,x,c4,rfl,rfl,hx,hx0,hxa,hxX⟩;have hnx:=aK hxX;refine⟨A4,_,c4,rfl,?_⟩;refine iN (h.up u6) hx oq oq hx0 fun k8 A5 c5 A6 c6 u8 hq hr=>⟨A5,_,c5,A6,_,c6,rfl,?_⟩;have hnq:=aK (jc a m);have hna:=h.2;refine aTw (K:=n+1) (hx.1.up u8) hq.1 oq oq oq fun k10 A7 c7 u10 hs hsl=>⟨A7,_,c7,rfl,?_⟩;refine wI (s:=1) hs oq oq fun k12 A8 c8 u12 hl=>⟨A8,_,c8,rfl,?_⟩;have hny:=aK (jc (m+a/m) (2^1));refine jB hl (((hx.up u8).up u10).up u12) oq oq fun k14 u14=>⟨_,rfl,fun ho=>?_,fun ho=>?_⟩
  ·have ho:=aQg ho;intro k15 u15;have v:=(((u8.trans u10).trans u12).trans u14).trans u15;exact C k15 A4 c4 m (u6.trans v) (newton_stop hx0 ho) hxa (hx.up v)
  ·have ho:=aHp ho;intro k16 u16;have hlo:=newton_lo (a:=a) hx0;refine⟨_,ho,A8,_,c8,rfl,rfl,(hl.up u14).up u16,?_,hlo,oq⟩;refine ji fun e=>?_;have e:(m+a/m) / 2=0:=e;rw [e]at hlo;omega
end
end Go.Proofs.YtjgnlflbgmnfaaaGreat.W32

namespace Go.Proofs.YtjgnlflbgmnfaaaGreat
open Go.RowKit
open Value (agg slice int bool tuple)
open Sy (Up Sees CallsG Seg execFn_use)
set_option maxRecDepth 100000
variable {k:World}{R:World→Value→Prop}{cs0 cs1 cs2 cs3:Array Value}
theorem aZy (hcs0:Seg 9 cs0) (hcs1:Seg 9 cs1) (hcs2:Seg 9 cs2) (hcs3:Seg 9 cs3)
 (h:Cl k 30 #[agg cs0,agg cs2] fun k1 r0=>Gt 9 r0 fun cs4=>
 Cl k1 30 #[agg cs1,agg cs3] fun k3 r2=>Gt 9 r2 fun cs5=>
 Cl k3 34 #[agg cs4,agg cs5] fun k5 r4=>Gt 9 r4 fun cs6=>
 Cl k5 30 #[agg cs0,agg cs3] fun k7 r6=>Gt 9 r6 fun cs7=>
 Cl k7 30 #[agg cs1,agg cs2] fun k9 r8=>Gt 9 r8 fun cs8=>
 Cl k9 110 #[agg cs7,agg cs8] fun k11 r10=>Gt 9 r10 fun cs9=>
 Rt R k11 (agg (cs6.toList++(cs9.toList++([]))).toArray)) :
  CallsG Tryz.prog 128 #[agg (cs0.toList++(cs1.toList++([]))).toArray,agg (cs2.toList++(cs3.toList++([]))).toArray] k R:=
  qX { opq:=[63] } [.agg [.seg 0 9,.seg 1 9],.agg [.seg 2 9,.seg 3 9]] [agg cs0,agg cs1,agg cs2,agg cs3] [.seg 9,.seg 9,.seg 9,.seg 9] ⟨⟨cs0,rfl,hcs0⟩,⟨cs1,rfl,hcs1⟩,⟨cs2,rfl,hcs2⟩,⟨cs3,rfl,hcs3⟩,trivial⟩ h
theorem aYg (hcs0:Seg 9 cs0) (hcs1:Seg 9 cs1)
 (h:Rt R k (agg (cs0.toList++(cs1.toList++([]))).toArray)) :
 CallsG Tryz.prog 127 #[agg cs0,agg cs1] k R:=
 qX { opq:=[63] } [.agg [.seg 0 9],.agg [.seg 1 9]] [agg cs0,agg cs1] [.seg 9,.seg 9] ⟨⟨cs0,rfl,hcs0⟩,⟨cs1,rfl,hcs1⟩,trivial⟩ h
end Go.Proofs.YtjgnlflbgmnfaaaGreat

namespace Go.Proofs.YtjgnlflbgmnfaaaGreat
open Go.RowKit Num Plain
open Sy (Up Sees CallsG Seg)
def cat2 (c0 c1:Array Value):Array Value:=(c0.toList++(c1.toList++([]))).toArray
def WaveV (k:World) (cs:Array Value) (w:W4) (K:Nat):Prop:=∃c0 c1:Array Value,cs=cat2 c0 c1∧SurdV k c0 w.re K∧SurdV k c1 w.im K
section
variable {k k':World}{cs cs' c0 c1:Array Value}{R:World→Value→Prop}{v v':Q4}{x y:W4}{K L:Nat}
theorem WaveV.up (h:WaveV k cs x K) (u:Up k k'):WaveV k' cs x K:=by
 obtain⟨c0,c1,e,h0,h1⟩:=h;exact⟨c0,c1,e,h0.up u,h1.up u⟩
theorem WaveV.mono (h:WaveV k cs x K) (hL:K≤L):WaveV k cs x L:=by
 obtain⟨c0,c1,e,h0,h1⟩:=h;exact⟨c0,c1,e,h0.mono hL,h1.mono hL⟩
theorem bBh (hx:WaveV k cs x K) (hy:WaveV k cs' y K) (hK1:1≤K) (hK:K≤33554431) (C:∀k' ds,Up k k'→WaveV k' ds (x.mul y) (4*K+9)→R k' (.agg ds)) :
 Cl k 128 #[.agg cs,.agg cs'] R:=by
 intro k0 u0;obtain⟨a,b,rfl,a0,b0⟩:=hx.up u0;obtain⟨c,d,rfl,c0,d0⟩:=hy.up u0;refine aZy a0.seg b0.seg c0.seg d0.seg ?_;refine xO a0 c0 hK1 oq fun k1 e1 u1 h1=>⟨e1,h1.seg,rfl,?_⟩;refine xO (b0.up u1) (d0.up u1) hK1 oq fun k2 e2 u2 h2=>⟨e2,h2.seg,rfl,?_⟩;refine xP (h1.up u2) h2 oq oq fun k3 e3 u3 h3=>⟨e3,h3.seg,rfl,?_⟩;have u123:=(u1.trans u2).trans u3;refine xO (a0.up u123) (d0.up u123) hK1 oq fun k4 e4 u4 h4=>⟨e4,h4.seg,rfl,?_⟩;refine xO (b0.up (u123.trans u4)) (c0.up (u123.trans u4)) hK1 oq fun k5 e5 u5 h5=>⟨e5,h5.seg,rfl,?_⟩;refine xN (h4.up u5) h5 oq oq fun k6 e6 u6 h6=>⟨e6,h6.seg,rfl,fun k7 u7=>?_⟩;exact C k7 _ (((((u0.trans u123).trans u4).trans u5).trans u6).trans u7) ⟨e3,e6,rfl,((((h3.up u4).up u5).up u6).up u7).mono oq,(h6.up u7).mono oq⟩
theorem bCu (hx:SurdV k cs v K) (hy:SurdV k cs' v' K) (C:∀k' ds,Up k k'→WaveV k' ds ⟨v,v'⟩ K→R k' (.agg ds)) :
 Cl k 127 #[.agg cs,.agg cs'] R:=
 fun _ u0=>aYg hx.seg hy.seg fun k1 u1=>C k1 _ (u0.trans u1) ⟨cs,cs',rfl,(hx.up u0).up u1,(hy.up u0).up u1⟩
end
end Go.Proofs.YtjgnlflbgmnfaaaGreat

namespace Go.Proofs.YtjgnlflbgmnfaaaGreat.W32
open Go.RowKit Num
open Sy (Up Sees CallsG Seg)
def cat4 (c0 c1 c2 c3:Array Value):Array Value:=(c0.toList++(c1.toList++(c2.toList++(c3.toList++([]))))).toArray
def SQ (k:World) (cs:Array Value) (v:Q4) (K:Nat):Prop:=∃c0 c1 c2 c3:Array Value,cs=cat4 c0 c1 c2 c3∧QV k c0 v.a K∧QV k c1 v.b K∧QV k c2 v.c K∧QV k c3 v.d K
section
variable {k k':World}{cs cs' c0 c1 c2 c3:Array Value}{R:World→Value→Prop}{x y q q':Rat}{v v':Q4}{K L:Nat}
theorem QV.cast (h:QV k cs q K) (e:q=q'):QV k cs q' K:=e▸h
theorem SQ.up (h:SQ k cs v K) (u:Up k k'):SQ k' cs v K:=by
 obtain⟨c0,c1,c2,c3,e,h0,h1,h2,h3⟩:=h;exact⟨c0,c1,c2,c3,e,h0.up u,h1.up u,h2.up u,h3.up u⟩
theorem SQ.mono (h:SQ k cs v K) (hL:K≤L):SQ k cs v L:=by
 obtain⟨c0,c1,c2,c3,e,h0,h1,h2,h3⟩:=h;exact⟨c0,c1,c2,c3,e,h0.mono hL,h1.mono hL,h2.mono hL,h3.mono hL⟩
theorem aTg (h0:Seg 3 c0) (h1:Seg 3 c1) (h2:Seg 3 c2) (h3:Seg 3 c3):Seg 12 (cat4 c0 c1 c2 c3):=by
 obtain⟨a0,b0⟩:=h0;obtain⟨a1,b1⟩:=h1;obtain⟨a2,b2⟩:=h2;obtain⟨a3,b3⟩:=h3;refine⟨by simp [cat4,a0,a1,a2,a3],fun u hu=>?_⟩;simp only [cat4,List.append_nil,List.mem_append]at hu;rcases hu with hu|hu|hu|hu
 ·exact b0 u hu
 ·exact b1 u hu
 ·exact b2 u hu
 ·exact b3 u hu
theorem SQ.seg (h:SQ k cs v K):Seg 12 cs:=by
 obtain⟨c0,c1,c2,c3,rfl,h0,h1,h2,h3⟩:=h;exact aTg h0.seg h1.seg h2.seg h3.seg
theorem aZv:((2:Int):Rat)=2:=rfl
theorem pL:((0:Int):Rat)=0:=rfl
theorem aTa (hx:SQ k cs v K) (hy:SQ k cs' v' L) (hK:K+L≤10000000000) (C:∀k' ds,Up k k'→SQ k' ds (v.add v') (K+L+1)→R k' (.agg ds)) :
 Cl k 112 #[.agg cs,.agg cs'] R:=by
 obtain⟨c0,c1,c2,c3,rfl,x0,x1,x2,x3⟩:=hx;obtain⟨e0,e1,e2,e3,rfl,y0,y1,y2,y3⟩:=hy;intro k0 u0;replace x0:=x0.up u0;replace x1:=x1.up u0;replace x2:=x2.up u0;replace x3:=x3.up u0;replace y0:=y0.up u0;replace y1:=y1.up u0;replace y2:=y2.up u0;replace y3:=y3.up u0;replace C:=fun k' ds u=>C k' ds (u0.trans u);refine aZg x0.seg x1.seg x2.seg x3.seg y0.seg y1.seg y2.seg y3.seg ?_;refine dE x0 y0 hK ?_;intro k1 d0 u1 z0;refine⟨d0,z0.seg,rfl,?_⟩;replace x1:=x1.up u1;replace x2:=x2.up u1;replace x3:=x3.up u1;replace y1:=y1.up u1;replace y2:=y2.up u1;replace y3:=y3.up u1;replace C:=fun k' ds u=>C k' ds (u1.trans u);refine dE x1 y1 hK ?_;intro k2 d1 u2 z1;refine⟨d1,z1.seg,rfl,?_⟩;replace x2:=x2.up u2;replace x3:=x3.up u2;replace y2:=y2.up u2;replace y3:=y3.up u2;replace z0:=z0.up u2;replace C:=fun k' ds u=>C k' ds (u2.trans u);refine dE x2 y2 hK ?_;intro k3 d2 u3 z2;refine⟨d2,z2.seg,rfl,?_⟩;replace x3:=x3.up u3;replace y3:=y3.up u3;replace z0:=z0.up u3;replace z1:=z1.up u3;replace C:=fun k' ds u=>C k' ds (u3.trans u);refine dE x3 y3 hK ?_;intro k4 d3 u4 z3;refine⟨d3,z3.seg,rfl,?_⟩;replace z0:=z0.up u4;replace z1:=z1.up u4;replace z2:=z2.up u4;replace C:=fun k' ds u=>C k' ds (u4.trans u);intro k5 u5;replace z0:=z0.up u5;replace z1:=z1.up u5;replace z2:=z2.up u5;replace z3:=z3.up u5;exact C _ _ u5 ⟨d0,d1,d2,d3,rfl,z0,z1,z2,z3⟩
theorem gO (hx:SQ k cs v K) (hK:K≤10000000000) (C:∀k' ds,Up k k'→SQ k' ds v.neg K→R k' (.agg ds)) :
 Cl k 113 #[.agg cs] R:=by
 obtain⟨c0,c1,c2,c3,rfl,x0,x1,x2,x3⟩:=hx;intro k0 u0;replace x0:=x0.up u0;replace x1:=x1.up u0;replace x2:=x2.up u0;replace x3:=x3.up u0;replace C:=fun k' ds u=>C k' ds (u0.trans u);refine aZi x0.seg x1.seg x2.seg x3.seg ?_;refine aHm x0 hK ?_;intro k1 d0 u1 z0;refine⟨d0,z0.seg,rfl,?_⟩;replace x1:=x1.up u1;replace x2:=x2.up u1;replace x3:=x3.up u1;replace C:=fun k' ds u=>C k' ds (u1.trans u);refine aHm x1 hK ?_;intro k2 d1 u2 z1;refine⟨d1,z1.seg,rfl,?_⟩;replace x2:=x2.up u2;replace x3:=x3.up u2;replace z0:=z0.up u2;replace C:=fun k' ds u=>C k' ds (u2.trans u);refine aHm x2 hK ?_;intro k3 d2 u3 z2;refine⟨d2,z2.seg,rfl,?_⟩;replace x3:=x3.up u3;replace z0:=z0.up u3;replace z1:=z1.up u3;replace C:=fun k' ds u=>C k' ds (u3.trans u);refine aHm x3 hK ?_;intro k4 d3 u4 z3;refine⟨d3,z3.seg,rfl,?_⟩;replace z0:=z0.up u4;replace z1:=z1.up u4;replace z2:=z2.up u4;replace C:=fun k' ds u=>C k' ds (u4.trans u);intro k5 u5;replace z0:=z0.up u5;replace z1:=z1.up u5;replace z2:=z2.up u5;replace z3:=z3.up u5;exact C _ _ u5 ⟨d0,d1,d2,d3,rfl,z0,z1,z2,z3⟩
theorem aTu (hx:SQ k cs v K) (hy:SQ k cs' v' L) (hK:K+L≤10000000000) (C:∀k' ds,Up k k'→SQ k' ds (v.sub v') (K+L+1)→R k' (.agg ds)) :
 Cl k 35 #[.agg cs,.agg cs'] R:=by
 intro k0 u0;exact aZj hx.seg hy.seg (gO (hy.up u0) oq fun k1 d1 u1 h1=>⟨d1,h1.seg,rfl,aTa ((hx.up u0).up u1) h1 hK fun k3 d3 u3 h3=>⟨d3,h3.seg,rfl,fun k4 u4=>C k4 d3 (((u0.trans u1).trans u3).trans u4) (h3.up u4)⟩⟩)
theorem bCx (hx:QV k cs q K) (hK:2≤K) (C:∀k' ds,Up k k'→SQ k' ds (Q4.real q) K→R k' (.agg ds)) :
 Cl k 28 #[.agg cs] R:=by
 intro k0 u0;refine aSy hx.seg ?_;refine cQ oz oz fun k1 d1 u1 h1=>⟨d1,h1.seg,rfl,?_⟩;refine cQ oz oz fun k2 d2 u2 h2=>⟨d2,h2.seg,rfl,?_⟩;refine cQ oz oz fun k3 d3 u3 h3=>⟨d3,h3.seg,rfl,fun k4 u4=>?_⟩;exact C k4 _ ((((u0.trans u1).trans u2).trans u3).trans u4) ⟨cs,d1,d2,d3,rfl,((((hx.up u0).up u1).up u2).up u3).up u4,(((h1.up u2).up u3).up u4).mono hK,((h2.up u3).up u4).mono hK,(h3.up u4).mono hK⟩
set_option maxHeartbeats 4000000 in
theorem zL (hx:SQ k cs v K) (hy:SQ k cs' v' L) (hK:4*(K+L)+22≤10000000000) (C:∀k' ds,Up k k'→SQ k' ds (v.mul v') (4*(K+L)+22)→R k' (.agg ds)) :
 Cl k 32 #[.agg cs,.agg cs'] R:=by
 obtain⟨c0,c1,c2,c3,rfl,x0,x1,x2,x3⟩:=hx;obtain⟨e0,e1,e2,e3,rfl,y0,y1,y2,y3⟩:=hy;intro k0 u0;replace x0:=x0.up u0;replace x1:=x1.up u0;replace x2:=x2.up u0;replace x3:=x3.up u0;replace y0:=y0.up u0;replace y1:=y1.up u0;replace y2:=y2.up u0;replace y3:=y3.up u0;replace C:=fun k' ds u=>C k' ds (u0.trans u);refine aZh x0.seg x1.seg x2.seg x3.seg y0.seg y1.seg y2.seg y3.seg ?_;refine cQ oz oz ?_;intro k1 w0 u1 hw0;refine⟨w0,hw0.seg,rfl,?_⟩;replace x0:=x0.up u1;replace x1:=x1.up u1;replace x2:=x2.up u1;replace x3:=x3.up u1;replace y0:=y0.up u1;replace y1:=y1.up u1;replace y2:=y2.up u1;replace y3:=y3.up u1;replace C:=fun k' ds u=>C k' ds (u1.trans u);refine bCx hw0 oz ?_;rintro k2 _ u2 ⟨o0,o1,o2,o3,rfl,out0,out1,out2,out3⟩;refine⟨o0,out0.seg,o1,out1.seg,o2,out2.seg,o3,out3.seg,rfl,?_⟩;replace x0:=x0.up u2;replace x1:=x1.up u2;replace x2:=x2.up u2;replace x3:=x3.up u2;replace y0:=y0.up u2;replace y1:=y1.up u2;replace y2:=y2.up u2;replace y3:=y3.up u2;replace C:=fun k' ds u=>C k' ds (u2.trans u);clear hw0;refine cO x0 y0 oq ?_;intro k3 a00 u3 p00;refine⟨a00,p00.seg,rfl,?_⟩;replace x0:=x0.up u3;replace x1:=x1.up u3;replace x2:=x2.up u3;replace x3:=x3.up u3;replace y0:=y0.up u3;replace y1:=y1.up u3;replace y2:=y2.up u3;replace y3:=y3.up u3;replace out0:=out0.up u3;replace out1:=out1.up u3;replace out2:=out2.up u3;replace out3:=out3.up u3;replace C:=fun k' ds u=>C k' ds (u3.trans u);refine dE out0 p00 oq ?_;intro k4 s00 u4 o00;refine⟨s00,o00.seg,rfl,?_⟩;replace x0:=x0.up u4;replace x1:=x1.up u4;replace x2:=x2.up u4;replace x3:=x3.up u4;replace y0:=y0.up u4;replace y1:=y1.up u4;replace y2:=y2.up u4;replace y3:=y3.up u4;replace out1:=out1.up u4;replace out2:=out2.up u4;replace out3:=out3.up u4;replace C:=fun k' ds u=>C k' ds (u4.trans u);clear out0 p00;refine cO x0 y1 oq ?_;intro k5 a01 u5 p01;refine⟨a01,p01.seg,rfl,?_⟩;replace x0:=x0.up u5;replace x1:=x1.up u5;replace x2:=x2.up u5;replace x3:=x3.up u5;replace y0:=y0.up u5;replace y1:=y1.up u5;replace y2:=y2.up u5;replace y3:=y3.up u5;replace out1:=out1.up u5;replace out2:=out2.up u5;replace out3:=out3.up u5;replace o00:=o00.up u5;replace C:=fun k' ds u=>C k' ds (u5.trans u);refine dE out1 p01 oq ?_;intro k6 s01 u6 o01;refine⟨s01,o01.seg,rfl,?_⟩;replace x0:=x0.up u6;replace x1:=x1.up u6;replace x2:=x2.up u6;replace x3:=x3.up u6;replace y0:=y0.up u6;replace y1:=y1.up u6;replace y2:=y2.up u6;replace y3:=y3.up u6;replace out2:=out2.up u6;replace out3:=out3.up u6;replace o00:=o00.up u6;replace C:=fun k' ds u=>C k' ds (u6.trans u);clear out1 p01;refine cO x0 y2 oq ?_;intro k7 a02 u7 p02;refine⟨a02,p02.seg,rfl,?_⟩;replace x0:=x0.up u7;replace x1:=x1.up u7;replace x2:=x2.up u7;replace x3:=x3.up u7;replace y0:=y0.up u7;replace y1:=y1.up u7;replace y2:=y2.up u7;replace y3:=y3.up u7;replace out2:=out2.up u7;replace out3:=out3.up u7;replace o00:=o00.up u7;replace o01:=o01.up u7;replace C:=fun k' ds u=>C k' ds (u7.trans u);refine dE out2 p02 oq ?_
 intro k8 s02 u8 o02;refine⟨s02,o02.seg,rfl,?_⟩;replace x0:=x0.up u8;replace x1:=x1.up u8;replace x2:=x2.up u8;replace x3:=x3.up u8;replace y0:=y0.up u8;replace y1:=y1.up u8;replace y2:=y2.up u8;replace y3:=y3.up u8;replace out3:=out3.up u8;replace o00:=o00.up u8;replace o01:=o01.up u8;replace C:=fun k' ds u=>C k' ds (u8.trans u);clear out2 p02;refine cO x0 y3 oq ?_;intro k9 a03 u9 p03;refine⟨a03,p03.seg,rfl,?_⟩;replace x1:=x1.up u9;replace x2:=x2.up u9;replace x3:=x3.up u9;replace y0:=y0.up u9;replace y1:=y1.up u9;replace y2:=y2.up u9;replace y3:=y3.up u9;replace out3:=out3.up u9;replace o00:=o00.up u9;replace o01:=o01.up u9;replace o02:=o02.up u9;replace C:=fun k' ds u=>C k' ds (u9.trans u);refine dE out3 p03 oq ?_;intro k10 s03 u10 o03;refine⟨s03,o03.seg,rfl,?_⟩;replace x1:=x1.up u10;replace x2:=x2.up u10;replace x3:=x3.up u10;replace y0:=y0.up u10;replace y1:=y1.up u10;replace y2:=y2.up u10;replace y3:=y3.up u10;replace o00:=o00.up u10;replace o01:=o01.up u10;replace o02:=o02.up u10;replace C:=fun k' ds u=>C k' ds (u10.trans u);clear out3 p03;refine cO x1 y0 oq ?_;intro k11 a10 u11 p10;refine⟨a10,p10.seg,rfl,?_⟩;replace x1:=x1.up u11;replace x2:=x2.up u11;replace x3:=x3.up u11;replace y0:=y0.up u11;replace y1:=y1.up u11;replace y2:=y2.up u11;replace y3:=y3.up u11;replace o00:=o00.up u11;replace o01:=o01.up u11;replace o02:=o02.up u11;replace o03:=o03.up u11;replace C:=fun k' ds u=>C k' ds (u11.trans u);refine dE o01 p10 oq ?_;intro k12 s10 u12 o10;refine⟨s10,o10.seg,rfl,?_⟩;replace x1:=x1.up u12;replace x2:=x2.up u12;replace x3:=x3.up u12;replace y0:=y0.up u12;replace y1:=y1.up u12;replace y2:=y2.up u12;replace y3:=y3.up u12;replace o00:=o00.up u12;replace o02:=o02.up u12;replace o03:=o03.up u12;replace C:=fun k' ds u=>C k' ds (u12.trans u);clear o01 p10;refine cO x1 y1 oq ?_;intro k13 a11 u13 p11;refine⟨a11,p11.seg,rfl,?_⟩;replace x1:=x1.up u13;replace x2:=x2.up u13;replace x3:=x3.up u13;replace y0:=y0.up u13;replace y1:=y1.up u13;replace y2:=y2.up u13;replace y3:=y3.up u13;replace o00:=o00.up u13;replace o02:=o02.up u13;replace o03:=o03.up u13;replace o10:=o10.up u13;replace C:=fun k' ds u=>C k' ds (u13.trans u);refine cQ oz oz ?_;intro k14 w11 u14 hw11;refine⟨w11,hw11.seg,rfl,?_⟩;replace x1:=x1.up u14;replace x2:=x2.up u14;replace x3:=x3.up u14;replace y0:=y0.up u14;replace y1:=y1.up u14;replace y2:=y2.up u14;replace y3:=y3.up u14;replace o00:=o00.up u14;replace o02:=o02.up u14;replace o03:=o03.up u14;replace o10:=o10.up u14;replace p11:=p11.up u14;replace C:=fun k' ds u=>C k' ds (u14.trans u);refine cO p11 hw11 oq ?_;intro k15 b112 u15 r112;refine⟨b112,r112.seg,rfl,?_⟩;replace x1:=x1.up u15;replace x2:=x2.up u15;replace x3:=x3.up u15;replace y0:=y0.up u15;replace y1:=y1.up u15;replace y2:=y2.up u15;replace y3:=y3.up u15;replace o00:=o00.up u15;replace o02:=o02.up u15;replace o03:=o03.up u15;replace o10:=o10.up u15;replace C:=fun k' ds u=>C k' ds (u15.trans u)
 clear p11 hw11;refine dE o00 r112 oq ?_;intro k16 s11 u16 o11;refine⟨s11,o11.seg,rfl,?_⟩;replace x1:=x1.up u16;replace x2:=x2.up u16;replace x3:=x3.up u16;replace y0:=y0.up u16;replace y1:=y1.up u16;replace y2:=y2.up u16;replace y3:=y3.up u16;replace o02:=o02.up u16;replace o03:=o03.up u16;replace o10:=o10.up u16;replace C:=fun k' ds u=>C k' ds (u16.trans u);clear o00 r112;refine cO x1 y2 oq ?_;intro k17 a12 u17 p12;refine⟨a12,p12.seg,rfl,?_⟩;replace x1:=x1.up u17;replace x2:=x2.up u17;replace x3:=x3.up u17;replace y0:=y0.up u17;replace y1:=y1.up u17;replace y2:=y2.up u17;replace y3:=y3.up u17;replace o02:=o02.up u17;replace o03:=o03.up u17;replace o10:=o10.up u17;replace o11:=o11.up u17;replace C:=fun k' ds u=>C k' ds (u17.trans u);refine dE o03 p12 oq ?_;intro k18 s12 u18 o12;refine⟨s12,o12.seg,rfl,?_⟩;replace x1:=x1.up u18;replace x2:=x2.up u18;replace x3:=x3.up u18;replace y0:=y0.up u18;replace y1:=y1.up u18;replace y2:=y2.up u18;replace y3:=y3.up u18;replace o02:=o02.up u18;replace o10:=o10.up u18;replace o11:=o11.up u18;replace C:=fun k' ds u=>C k' ds (u18.trans u);clear o03 p12;refine cO x1 y3 oq ?_;intro k19 a13 u19 p13;refine⟨a13,p13.seg,rfl,?_⟩;replace x2:=x2.up u19;replace x3:=x3.up u19;replace y0:=y0.up u19;replace y1:=y1.up u19;replace y2:=y2.up u19;replace y3:=y3.up u19;replace o02:=o02.up u19;replace o10:=o10.up u19;replace o11:=o11.up u19;replace o12:=o12.up u19;replace C:=fun k' ds u=>C k' ds (u19.trans u);refine cQ oz oz ?_;intro k20 w13 u20 hw13;refine⟨w13,hw13.seg,rfl,?_⟩;replace x2:=x2.up u20;replace x3:=x3.up u20;replace y0:=y0.up u20;replace y1:=y1.up u20;replace y2:=y2.up u20;replace y3:=y3.up u20;replace o02:=o02.up u20;replace o10:=o10.up u20;replace o11:=o11.up u20;replace o12:=o12.up u20;replace p13:=p13.up u20;replace C:=fun k' ds u=>C k' ds (u20.trans u);refine cO p13 hw13 oq ?_;intro k21 b132 u21 r132;refine⟨b132,r132.seg,rfl,?_⟩;replace x2:=x2.up u21;replace x3:=x3.up u21;replace y0:=y0.up u21;replace y1:=y1.up u21;replace y2:=y2.up u21;replace y3:=y3.up u21;replace o02:=o02.up u21;replace o10:=o10.up u21;replace o11:=o11.up u21;replace o12:=o12.up u21;replace C:=fun k' ds u=>C k' ds (u21.trans u);clear p13 hw13;refine dE o02 r132 oq ?_;intro k22 s13 u22 o13;refine⟨s13,o13.seg,rfl,?_⟩;replace x2:=x2.up u22;replace x3:=x3.up u22;replace y0:=y0.up u22;replace y1:=y1.up u22;replace y2:=y2.up u22;replace y3:=y3.up u22;replace o10:=o10.up u22;replace o11:=o11.up u22;replace o12:=o12.up u22;replace C:=fun k' ds u=>C k' ds (u22.trans u);clear o02 r132;refine cO x2 y0 oq ?_;intro k23 a20 u23 p20;refine⟨a20,p20.seg,rfl,?_⟩;replace x2:=x2.up u23;replace x3:=x3.up u23;replace y0:=y0.up u23;replace y1:=y1.up u23;replace y2:=y2.up u23;replace y3:=y3.up u23;replace o10:=o10.up u23;replace o11:=o11.up u23;replace o12:=o12.up u23;replace o13:=o13.up u23;replace C:=fun k' ds u=>C k' ds (u23.trans u);refine dE o13 p20 oq ?_
 intro k24 s20 u24 o20;refine⟨s20,o20.seg,rfl,?_⟩;replace x2:=x2.up u24;replace x3:=x3.up u24;replace y0:=y0.up u24;replace y1:=y1.up u24;replace y2:=y2.up u24;replace y3:=y3.up u24;replace o10:=o10.up u24;replace o11:=o11.up u24;replace o12:=o12.up u24;replace C:=fun k' ds u=>C k' ds (u24.trans u);clear o13 p20;refine cO x2 y1 oq ?_;intro k25 a21 u25 p21;refine⟨a21,p21.seg,rfl,?_⟩;replace x2:=x2.up u25;replace x3:=x3.up u25;replace y0:=y0.up u25;replace y1:=y1.up u25;replace y2:=y2.up u25;replace y3:=y3.up u25;replace o10:=o10.up u25;replace o11:=o11.up u25;replace o12:=o12.up u25;replace o20:=o20.up u25;replace C:=fun k' ds u=>C k' ds (u25.trans u);refine dE o12 p21 oq ?_;intro k26 s21 u26 o21;refine⟨s21,o21.seg,rfl,?_⟩;replace x2:=x2.up u26;replace x3:=x3.up u26;replace y0:=y0.up u26;replace y1:=y1.up u26;replace y2:=y2.up u26;replace y3:=y3.up u26;replace o10:=o10.up u26;replace o11:=o11.up u26;replace o20:=o20.up u26;replace C:=fun k' ds u=>C k' ds (u26.trans u);clear o12 p21;refine cO x2 y2 oq ?_;intro k27 a22 u27 p22;refine⟨a22,p22.seg,rfl,?_⟩;replace x2:=x2.up u27;replace x3:=x3.up u27;replace y0:=y0.up u27;replace y1:=y1.up u27;replace y2:=y2.up u27;replace y3:=y3.up u27;replace o10:=o10.up u27;replace o11:=o11.up u27;replace o20:=o20.up u27;replace o21:=o21.up u27;replace C:=fun k' ds u=>C k' ds (u27.trans u);refine cQ oz oz ?_;intro k28 w22 u28 hw22;refine⟨w22,hw22.seg,rfl,?_⟩;replace x2:=x2.up u28;replace x3:=x3.up u28;replace y0:=y0.up u28;replace y1:=y1.up u28;replace y2:=y2.up u28;replace y3:=y3.up u28;replace o10:=o10.up u28;replace o11:=o11.up u28;replace o20:=o20.up u28;replace o21:=o21.up u28;replace p22:=p22.up u28;replace C:=fun k' ds u=>C k' ds (u28.trans u);refine cO p22 hw22 oq ?_;intro k29 b223 u29 r223;refine⟨b223,r223.seg,rfl,?_⟩;replace x2:=x2.up u29;replace x3:=x3.up u29;replace y0:=y0.up u29;replace y1:=y1.up u29;replace y2:=y2.up u29;replace y3:=y3.up u29;replace o10:=o10.up u29;replace o11:=o11.up u29;replace o20:=o20.up u29;replace o21:=o21.up u29;replace C:=fun k' ds u=>C k' ds (u29.trans u);clear p22 hw22;refine dE o11 r223 oq ?_;intro k30 s22 u30 o22;refine⟨s22,o22.seg,rfl,?_⟩;replace x2:=x2.up u30;replace x3:=x3.up u30;replace y0:=y0.up u30;replace y1:=y1.up u30;replace y2:=y2.up u30;replace y3:=y3.up u30;replace o10:=o10.up u30;replace o20:=o20.up u30;replace o21:=o21.up u30;replace C:=fun k' ds u=>C k' ds (u30.trans u);clear o11 r223;refine cO x2 y3 oq ?_;intro k31 a23 u31 p23;refine⟨a23,p23.seg,rfl,?_⟩;replace x3:=x3.up u31;replace y0:=y0.up u31;replace y1:=y1.up u31;replace y2:=y2.up u31;replace y3:=y3.up u31;replace o10:=o10.up u31;replace o20:=o20.up u31;replace o21:=o21.up u31;replace o22:=o22.up u31;replace C:=fun k' ds u=>C k' ds (u31.trans u);refine cQ oz oz ?_;intro k32 w23 u32 hw23;refine⟨w23,hw23.seg,rfl,?_⟩;replace x3:=x3.up u32;replace y0:=y0.up u32;replace y1:=y1.up u32;replace y2:=y2.up u32
 replace y3:=y3.up u32;replace o10:=o10.up u32;replace o20:=o20.up u32;replace o21:=o21.up u32;replace o22:=o22.up u32;replace p23:=p23.up u32;replace C:=fun k' ds u=>C k' ds (u32.trans u);refine cO p23 hw23 oq ?_;intro k33 b233 u33 r233;refine⟨b233,r233.seg,rfl,?_⟩;replace x3:=x3.up u33;replace y0:=y0.up u33;replace y1:=y1.up u33;replace y2:=y2.up u33;replace y3:=y3.up u33;replace o10:=o10.up u33;replace o20:=o20.up u33;replace o21:=o21.up u33;replace o22:=o22.up u33;replace C:=fun k' ds u=>C k' ds (u33.trans u);clear p23 hw23;refine dE o10 r233 oq ?_;intro k34 s23 u34 o23;refine⟨s23,o23.seg,rfl,?_⟩;replace x3:=x3.up u34;replace y0:=y0.up u34;replace y1:=y1.up u34;replace y2:=y2.up u34;replace y3:=y3.up u34;replace o20:=o20.up u34;replace o21:=o21.up u34;replace o22:=o22.up u34;replace C:=fun k' ds u=>C k' ds (u34.trans u);clear o10 r233;refine cO x3 y0 oq ?_;intro k35 a30 u35 p30;refine⟨a30,p30.seg,rfl,?_⟩;replace x3:=x3.up u35;replace y1:=y1.up u35;replace y2:=y2.up u35;replace y3:=y3.up u35;replace o20:=o20.up u35;replace o21:=o21.up u35;replace o22:=o22.up u35;replace o23:=o23.up u35;replace C:=fun k' ds u=>C k' ds (u35.trans u);refine dE o21 p30 oq ?_;intro k36 s30 u36 o30;refine⟨s30,o30.seg,rfl,?_⟩;replace x3:=x3.up u36;replace y1:=y1.up u36;replace y2:=y2.up u36;replace y3:=y3.up u36;replace o20:=o20.up u36;replace o22:=o22.up u36;replace o23:=o23.up u36;replace C:=fun k' ds u=>C k' ds (u36.trans u);clear o21 p30;refine cO x3 y1 oq ?_;intro k37 a31 u37 p31;refine⟨a31,p31.seg,rfl,?_⟩;replace x3:=x3.up u37;replace y2:=y2.up u37;replace y3:=y3.up u37;replace o20:=o20.up u37;replace o22:=o22.up u37;replace o23:=o23.up u37;replace o30:=o30.up u37;replace C:=fun k' ds u=>C k' ds (u37.trans u);refine cQ oz oz ?_;intro k38 w31 u38 hw31;refine⟨w31,hw31.seg,rfl,?_⟩;replace x3:=x3.up u38;replace y2:=y2.up u38;replace y3:=y3.up u38;replace o20:=o20.up u38;replace o22:=o22.up u38;replace o23:=o23.up u38;replace o30:=o30.up u38;replace p31:=p31.up u38;replace C:=fun k' ds u=>C k' ds (u38.trans u);refine cO p31 hw31 oq ?_;intro k39 b312 u39 r312;refine⟨b312,r312.seg,rfl,?_⟩;replace x3:=x3.up u39;replace y2:=y2.up u39;replace y3:=y3.up u39;replace o20:=o20.up u39;replace o22:=o22.up u39;replace o23:=o23.up u39;replace o30:=o30.up u39;replace C:=fun k' ds u=>C k' ds (u39.trans u);clear p31 hw31;refine dE o20 r312 oq ?_;intro k40 s31 u40 o31;refine⟨s31,o31.seg,rfl,?_⟩;replace x3:=x3.up u40;replace y2:=y2.up u40;replace y3:=y3.up u40;replace o22:=o22.up u40;replace o23:=o23.up u40;replace o30:=o30.up u40;replace C:=fun k' ds u=>C k' ds (u40.trans u);clear o20 r312;refine cO x3 y2 oq ?_;intro k41 a32 u41 p32;refine⟨a32,p32.seg,rfl,?_⟩;replace x3:=x3.up u41;replace y3:=y3.up u41;replace o22:=o22.up u41;replace o23:=o23.up u41;replace o30:=o30.up u41;replace o31:=o31.up u41;replace C:=fun k' ds u=>C k' ds (u41.trans u);refine cQ oz oz ?_
 intro k42 w32 u42 hw32;refine⟨w32,hw32.seg,rfl,?_⟩;replace x3:=x3.up u42;replace y3:=y3.up u42;replace o22:=o22.up u42;replace o23:=o23.up u42;replace o30:=o30.up u42;replace o31:=o31.up u42;replace p32:=p32.up u42;replace C:=fun k' ds u=>C k' ds (u42.trans u);refine cO p32 hw32 oq ?_;intro k43 b323 u43 r323;refine⟨b323,r323.seg,rfl,?_⟩;replace x3:=x3.up u43;replace y3:=y3.up u43;replace o22:=o22.up u43;replace o23:=o23.up u43;replace o30:=o30.up u43;replace o31:=o31.up u43;replace C:=fun k' ds u=>C k' ds (u43.trans u);clear p32 hw32;refine dE o23 r323 oq ?_;intro k44 s32 u44 o32;refine⟨s32,o32.seg,rfl,?_⟩;replace x3:=x3.up u44;replace y3:=y3.up u44;replace o22:=o22.up u44;replace o30:=o30.up u44;replace o31:=o31.up u44;replace C:=fun k' ds u=>C k' ds (u44.trans u);clear o23 r323;refine cO x3 y3 oq ?_;intro k45 a33 u45 p33;refine⟨a33,p33.seg,rfl,?_⟩;replace o22:=o22.up u45;replace o30:=o30.up u45;replace o31:=o31.up u45;replace o32:=o32.up u45;replace C:=fun k' ds u=>C k' ds (u45.trans u);refine cQ oz oz ?_;intro k46 w33 u46 hw33;refine⟨w33,hw33.seg,rfl,?_⟩;replace o22:=o22.up u46;replace o30:=o30.up u46;replace o31:=o31.up u46;replace o32:=o32.up u46;replace p33:=p33.up u46;replace C:=fun k' ds u=>C k' ds (u46.trans u);refine cO p33 hw33 oq ?_;intro k47 b332 u47 r332;refine⟨b332,r332.seg,rfl,?_⟩;replace o22:=o22.up u47;replace o30:=o30.up u47;replace o31:=o31.up u47;replace o32:=o32.up u47;replace hw33:=hw33.up u47;replace C:=fun k' ds u=>C k' ds (u47.trans u);clear p33 hw33;refine cQ oz oz ?_;intro k48 w33 u48 hw33;refine⟨w33,hw33.seg,rfl,?_⟩;replace o22:=o22.up u48;replace o30:=o30.up u48;replace o31:=o31.up u48;replace o32:=o32.up u48;replace r332:=r332.up u48;replace C:=fun k' ds u=>C k' ds (u48.trans u);refine cO r332 hw33 oq ?_;intro k49 b333 u49 r333;refine⟨b333,r333.seg,rfl,?_⟩;replace o22:=o22.up u49;replace o30:=o30.up u49;replace o31:=o31.up u49;replace o32:=o32.up u49;replace C:=fun k' ds u=>C k' ds (u49.trans u);clear r332 hw33;refine dE o22 r333 oq ?_;intro k50 s33 u50 o33;refine⟨s33,o33.seg,rfl,?_⟩;replace o30:=o30.up u50;replace o31:=o31.up u50;replace o32:=o32.up u50;replace C:=fun k' ds u=>C k' ds (u50.trans u);clear o22 r333;intro k51 u51;replace o30:=o30.up u51;replace o31:=o31.up u51;replace o32:=o32.up u51;replace o33:=o33.up u51;exact C _ _ u51 ⟨_,_,_,_,rfl,(o33.mono oq).cast (by simp only [Q4.mul,Q4.real,pL];grind),(o32.mono oq).cast (by simp only [Q4.mul,Q4.real,pL];grind),(o31.mono oq).cast (by simp only [Q4.mul,Q4.real,pL,aZv];grind),(o30.mono oq).cast (by simp only [Q4.mul,Q4.real,pL];grind)⟩
end
end Go.Proofs.YtjgnlflbgmnfaaaGreat.W32

namespace Go.Proofs.YtjgnlflbgmnfaaaGreat
open Go.RowKit
open Value (agg slice int bool tuple)
open Sy (Up Sees CallsG Seg execFn_use)
set_option maxRecDepth 100000
variable {k:World}{R:World→Value→Prop}{cs0 cs1 cs2 cs3:Array Value}
theorem aMi (hcs0:Seg 3 cs0) (hcs1:Seg 3 cs1) (hcs2:Seg 3 cs2) (hcs3:Seg 3 cs3)
 (h:∃I0:Nat→World→List Value→Prop,(∃m0,∀k0,Up k k0→I0 m0 k0 [Value.string ⟨#[]⟩,int .i64 0])∧
 ∀m0 k0 vs0,Up k k0→I0 m0 k0 vs0→∃s4,∃n5,some [Value.string s4,int .i64 n5]=some vs0∧
 Br ((n5:Int) == 0) (Cl k0 172 #[agg cs0] fun k2 r1=>Gb r1 fun b6=>
 Br b6 (∀k3,Up k2 k3→∃m,m<m0∧I0 m k3 [Value.string s4,int .i64 1]) (Br (!(ByteArray.toList s4 == ByteArray.toList ⟨#[]⟩)) (Cl k2 124 #[agg cs0] fun k5 r4=>Gi r4 fun n7=>
 Br (decide ((n7:Int) > 0)) ((decide (((ByteArray.size s4+ByteArray.size ⟨#[43]⟩:Nat):Int)≤9223372036854775807))=true∧
 (Cl k5 102 #[agg cs0] fun k7 r6=>∃s8,some (Value.string s8)=some r6∧
 (decide (((ByteArray.size (s4++⟨#[43]⟩)+ByteArray.size s8:Nat):Int)≤9223372036854775807))=true∧
 ((decide (((ByteArray.size ((s4++⟨#[43]⟩)++s8)+ByteArray.size ⟨#[]⟩:Nat):Int)≤9223372036854775807))=true∧
 (∀k8,Up k7 k8→∃m,m<m0∧I0 m k8 [Value.string (((s4++⟨#[43]⟩)++s8)++⟨#[]⟩),int .i64 1])))) (Cl k5 102 #[agg cs0] fun k10 r9=>∃s8,some (Value.string s8)=some r9∧
 (decide (((ByteArray.size s4+ByteArray.size s8:Nat):Int)≤9223372036854775807))=true∧
 ((decide (((ByteArray.size (s4++s8)+ByteArray.size ⟨#[]⟩:Nat):Int)≤9223372036854775807))=true∧
 (∀k11,Up k10 k11→∃m,m<m0∧I0 m k11 [Value.string ((s4++s8)++⟨#[]⟩),int .i64 1])))) (Cl k2 102 #[agg cs0] fun k13 r12=>∃s7,some (Value.string s7)=some r12∧
 (decide (((ByteArray.size s4+ByteArray.size s7:Nat):Int)≤9223372036854775807))=true∧
 ((decide (((ByteArray.size (s4++s7)+ByteArray.size ⟨#[]⟩:Nat):Int)≤9223372036854775807))=true∧
 (∀k14,Up k13 k14→∃m,m<m0∧I0 m k14 [Value.string ((s4++s7)++⟨#[]⟩),int .i64 1]))))) (Br ((n5:Int) == 1) (Cl k0 172 #[agg cs1] fun k16 r15=>Gb r15 fun b6=>
 Br b6 (∀k17,Up k16 k17→∃m,m<m0∧I0 m k17 [Value.string s4,int .i64 2]) (Br (!(ByteArray.toList s4 == ByteArray.toList ⟨#[]⟩)) (Cl k16 124 #[agg cs1] fun k19 r18=>Gi r18 fun n7=>
 Br (decide ((n7:Int) > 0)) ((decide (((ByteArray.size s4+ByteArray.size ⟨#[43]⟩:Nat):Int)≤9223372036854775807))=true∧
 (Cl k19 102 #[agg cs1] fun k21 r20=>∃s8,some (Value.string s8)=some r20∧
 (decide (((ByteArray.size (s4++⟨#[43]⟩)+ByteArray.size s8:Nat):Int)≤9223372036854775807))=true∧
 ((decide (((ByteArray.size ((s4++⟨#[43]⟩)++s8)+ByteArray.size ⟨#[114,50]⟩:Nat):Int)≤9223372036854775807))=true∧
 (∀k22,Up k21 k22→∃m,m<m0∧I0 m k22 [Value.string (((s4++⟨#[43]⟩)++s8)++⟨#[114,50]⟩),int .i64 2])))) (Cl k19 102 #[agg cs1] fun k24 r23=>∃s8,some (Value.string s8)=some r23∧
 (decide (((ByteArray.size s4+ByteArray.size s8:Nat):Int)≤9223372036854775807))=true∧
 ((decide (((ByteArray.size (s4++s8)+ByteArray.size ⟨#[114,50]⟩:Nat):Int)≤9223372036854775807))=true∧
 (∀k25,Up k24 k25→∃m,m<m0∧I0 m k25 [Value.string ((s4++s8)++⟨#[114,50]⟩),int .i64 2])))) (Cl k16 102 #[agg cs1] fun k27 r26=>∃s7,some (Value.string s7)=some r26∧
 (decide (((ByteArray.size s4+ByteArray.size s7:Nat):Int)≤9223372036854775807))=true∧
 ((decide (((ByteArray.size (s4++s7)+ByteArray.size ⟨#[114,50]⟩:Nat):Int)≤9223372036854775807))=true∧
 (∀k28,Up k27 k28→∃m,m<m0∧I0 m k28 [Value.string ((s4++s7)++⟨#[114,50]⟩),int .i64 2]))))) (Br ((n5:Int) == 2) (Cl k0 172 #[agg cs2] fun k30 r29=>Gb r29 fun b6=>
 Br b6 (∀k31,Up k30 k31→∃m,m<m0∧I0 m k31 [Value.string s4,int .i64 3]) (Br (!(ByteArray.toList s4 == ByteArray.toList ⟨#[]⟩)) (Cl k30 124 #[agg cs2] fun k33 r32=>Gi r32 fun n7=>
 Br (decide ((n7:Int) > 0)) ((decide (((ByteArray.size s4+ByteArray.size ⟨#[43]⟩:Nat):Int)≤9223372036854775807))=true∧
 (Cl k33 102 #[agg cs2] fun k35 r34=>∃s8,some (Value.string s8)=some r34∧
 (decide (((ByteArray.size (s4++⟨#[43]⟩)+ByteArray.size s8:Nat):Int)≤9223372036854775807))=true∧
 ((decide (((ByteArray.size ((s4++⟨#[43]⟩)++s8)+ByteArray.size ⟨#[114,51]⟩:Nat):Int)≤9223372036854775807))=true∧
 (∀k36,Up k35 k36→∃m,m<m0∧I0 m k36 [Value.string (((s4++⟨#[43]⟩)++s8)++⟨#[114,51]⟩),int .i64 3])))) (Cl k33 102 #[agg cs2] fun k38 r37=>∃s8,some (Value.string s8)=some r37∧
 (decide (((ByteArray.size s4+ByteArray.size s8:Nat):Int)≤9223372036854775807))=true∧
 ((decide (((ByteArray.size (s4++s8)+ByteArray.size ⟨#[114,51]⟩:Nat):Int)≤9223372036854775807))=true∧
 (∀k39,Up k38 k39→∃m,m<m0∧I0 m k39 [Value.string ((s4++s8)++⟨#[114,51]⟩),int .i64 3])))) (Cl k30 102 #[agg cs2] fun k41 r40=>∃s7,some (Value.string s7)=some r40∧
 (decide (((ByteArray.size s4+ByteArray.size s7:Nat):Int)≤9223372036854775807))=true∧
 ((decide (((ByteArray.size (s4++s7)+ByteArray.size ⟨#[114,51]⟩:Nat):Int)≤9223372036854775807))=true∧
 (∀k42,Up k41 k42→∃m,m<m0∧I0 m k42 [Value.string ((s4++s7)++⟨#[114,51]⟩),int .i64 3]))))) (Br ((n5:Int) == 3) (Cl k0 172 #[agg cs3] fun k44 r43=>Gb r43 fun b6=>
 Br b6 (∀k45,Up k44 k45→∃m,m<m0∧I0 m k45 [Value.string s4,int .i64 4]) (Br (!(ByteArray.toList s4 == ByteArray.toList ⟨#[]⟩)) (Cl k44 124 #[agg cs3] fun k47 r46=>Gi r46 fun n7=>
 Br (decide ((n7:Int) > 0)) ((decide (((ByteArray.size s4+ByteArray.size ⟨#[43]⟩:Nat):Int)≤9223372036854775807))=true∧
 (Cl k47 102 #[agg cs3] fun k49 r48=>∃s8,some (Value.string s8)=some r48∧
 (decide (((ByteArray.size (s4++⟨#[43]⟩)+ByteArray.size s8:Nat):Int)≤9223372036854775807))=true∧
 ((decide (((ByteArray.size ((s4++⟨#[43]⟩)++s8)+ByteArray.size ⟨#[114,54]⟩:Nat):Int)≤9223372036854775807))=true∧
 (∀k50,Up k49 k50→∃m,m<m0∧I0 m k50 [Value.string (((s4++⟨#[43]⟩)++s8)++⟨#[114,54]⟩),int .i64 4])))) (Cl k47 102 #[agg cs3] fun k52 r51=>∃s8,some (Value.string s8)=some r51∧
 (decide (((ByteArray.size s4+ByteArray.size s8:Nat):Int)≤9223372036854775807))=true∧
 ((decide (((ByteArray.size (s4++s8)+ByteArray.size ⟨#[114,54]⟩:Nat):Int)≤9223372036854775807))=true∧
 (∀k53,Up k52 k53→∃m,m<m0∧I0 m k53 [Value.string ((s4++s8)++⟨#[114,54]⟩),int .i64 4])))) (Cl k44 102 #[agg cs3] fun k55 r54=>∃s7,some (Value.string s7)=some r54∧
 (decide (((ByteArray.size s4+ByteArray.size s7:Nat):Int)≤9223372036854775807))=true∧
 ((decide (((ByteArray.size (s4++s7)+ByteArray.size ⟨#[114,54]⟩:Nat):Int)≤9223372036854775807))=true∧
 (∀k56,Up k55 k56→∃m,m<m0∧I0 m k56 [Value.string ((s4++s7)++⟨#[114,54]⟩),int .i64 4]))))) (Br ((n5:Int) == 4) (Br (ByteArray.toList s4 == ByteArray.toList ⟨#[]⟩) (Rt R k0 (Value.string ⟨#[48]⟩)) (Rt R k0 (Value.string s4))) (False /- split -/)))))) :
   CallsG Tryz.prog 114 #[Rg cs0 cs1 cs2 cs3] k R:=
  qX { opq:=[34],loops:=[(0,[.tmp 3 false [.str],.tmp 5 false [.int .i64]])],splits:=[(0,5,[0,1,2,3,4])] } [.agg [.seg 0 3,.seg 1 3,.seg 2 3,.seg 3 3]] [agg cs0,agg cs1,agg cs2,agg cs3] [.seg 3,.seg 3,.seg 3,.seg 3] ⟨⟨cs0,rfl,hcs0⟩,⟨cs1,rfl,hcs1⟩,⟨cs2,rfl,hcs2⟩,⟨cs3,rfl,hcs3⟩,trivial⟩ h
end Go.Proofs.YtjgnlflbgmnfaaaGreat

namespace Go.Proofs.YtjgnlflbgmnfaaaGreat.W32
open Go.RowKit Num
open Sy (Up Sees CallsG Seg)
section
variable {k k':World}{cs cs' c0 c1 c2 c3:Array Value}{R:World→Value→Prop}{x y q q':Rat}{v v':Q4}{K L:Nat}
theorem mT (h:QV k cs q K):(aE q).length≤20*K+4:=by
 obtain⟨b,A,l,c,A',l',c',rfl,h,e1,e2⟩:=h;have h1:=mE h.n;have h2:=mE h.d;unfold aE;rw [og,og];have h3:(if q.num<0 then [45] else ([]:List UInt8)).length≤1:=by split <;> simp
 by_cases h4:q.den=1
 ·rw [od h4];simp only [ob];omega
 ·rw [oh h4];simp only [om];omega
theorem aLi (h0:QV k c0 v.a K) (h1:QV k c1 v.b K) (h2:QV k c2 v.c K) (h3:QV k c3 v.d K) (j:Nat):(body v j).length≤80*K+26:=by
 have e0:=mT h0;have e1:=mT h1;have e2:=mT h2;have e3:=mT h3;have f1:=dI [] v.a [];have f2:=dI (aF [] v.a []) v.b [114,50];have f3:=dI (aF (aF [] v.a []) v.b [114,50]) v.c [114,51];have f4:=dI (aF (aF (aF [] v.a []) v.b [114,50]) v.c [114,51]) v.d [114,54];simp only [om,ob]at f1 f2 f3 f4
 match j with
 | 0=>simp [body]
 | 1=>simp only [body];omega
 | 2=>simp only [body];omega
 | 3=>simp only [body];omega
 | n+4=>simp only [body];omega
theorem aZp (hx:SQ k cs v K) (hK:K≤10000000000) (C:∀k',Up k k'→R k' (.string (str (eB v)))) :
 Cl k 114 #[.agg cs] R:=by
 intro k0 u0;obtain⟨c0,c1,c2,c3,rfl,q0,q1,q2,q3⟩:=hx.up u0;replace C:=fun k' u=>C k' (u0.trans u);refine aMi q0.seg q1.seg q2.seg q3.seg ?_;have hlen:=aLi q0 q1 q2 q3;refine⟨fun m k' vs=>∃j,j≤4∧m=4-j∧vs=[.string (str (body v j)),.int .i64 (j:Nat)],⟨4,fun k' _=>⟨0,oq,rfl,rfl⟩⟩,?_⟩;rintro m k2 vs u2 ⟨j,hj,rfl,rfl⟩;refine⟨str (body v j),(j:Nat),rfl,?_⟩;replace q0:=q0.up u2;replace q1:=q1.up u2;replace q2:=q2.up u2;replace q3:=q3.up u2;replace C:=fun k' u=>C k' (u2.trans u);clear u0 u2;refine⟨fun hj0=>?_,fun hj0=>?_⟩
 ·have e:j=0:=by have:=eq_of_beq hj0;omega
  subst e;clear C hx;refine iU q0 ?_;intro k3 u3;refine⟨_,rfl,fun hz=>?_,fun hz=>?_⟩
  ·intro k4 u4;refine⟨3-0,oq,0+1,oq,oq,?_⟩;have hz:v.a=0:=ow hz;have e:body v (0+1)=body v 0:=by simp only [body];conv=>lhs;rw [aF,od hz]
   rw [e];rfl
  ·have hz:¬ v.a=0:=ov hz;refine⟨fun hs=>?_,fun hs=>?_⟩
   ·have hs:body v 0≠[]:=by
     intro h;rw [h,jK]at hs;cases hs
    refine lW (q0.up u3) ?_;intro k4 u4;refine⟨_,rfl,fun hp=>?_,fun hp=>?_⟩
    ·have hp:0<(v.a).num.sign:=by simpa using hp
     refine⟨fits (by rw [aB];have:=hlen 0;show _+1≤_;omega),?_⟩;refine gP ((q0.up u3).up u4) oq ?_;intro k5 u5;have e:body v (0+1)=(body v 0++[43])++(aE v.a++[]):=by
      simp only [body];conv=>lhs;rw [aF,oh hz,od ⟨hs,hp⟩]
     have hl:=hlen (0+1);rw [e]at hl;simp only [og,om,ob]at hl;refine⟨_,rfl,?_,?_,?_⟩
     ·refine fits ?_;show (str (body v 0)++str [43]).size+(str (aE v.a)).size≤_;rw [aC,aB,aB];(try simp only [og,om,ob]);omega
     ·refine fits ?_;show ((str (body v 0)++str [43])++str (aE v.a)).size+(str []).size≤_;rw [aC,aC,aB,aB];(try simp only [og,om,ob]);omega
     ·intro k7 u7;refine⟨3-0,oq,0+1,oq,oq,?_⟩;rw [e,←je,←aC,←aC,←aC];rfl
    ·have hp:¬ 0<(v.a).num.sign:=by simpa using hp
     refine gP ((q0.up u3).up u4) oq ?_;intro k5 u5;have e:body v (0+1)=body v 0++(aE v.a++[]):=by
      simp only [body];conv=>lhs;rw [aF,oh hz,oh (fun h=>hp h.2)]
     have hl:=hlen (0+1);rw [e]at hl;simp only [og,ob]at hl;refine⟨_,rfl,?_,?_,?_⟩
     ·refine fits ?_;show (str (body v 0)).size+(str (aE v.a)).size≤_;rw [aB,aB];(try simp only [og,om,ob]);omega
     ·refine fits ?_;show (str (body v 0)++str (aE v.a)).size+(str []).size≤_;rw [aC,aB,aB];(try simp only [og,ob]);omega
     ·intro k7 u7;refine⟨3-0,oq,0+1,oq,oq,?_⟩;rw [e,←je,←aC,←aC];rfl
   ·have hs:¬ body v 0≠[]:=by
     intro h;cases hq:((str (body v 0)).toList == (⟨#[]⟩:ByteArray).toList) with
     | false=>rw [hq]at hs;cases hs
     | true=>exact h (gC (toList_inj.1 hq))
    refine gP (q0.up u3) oq ?_;intro k5 u5;have e:body v (0+1)=body v 0++(aE v.a++[]):=by
     simp only [body];conv=>lhs;rw [aF,oh hz,oh (fun h=>hs h.1)]
    have hl:=hlen (0+1);rw [e]at hl;simp only [og,ob]at hl;refine⟨_,rfl,?_,?_,?_⟩
    ·refine fits ?_;show (str (body v 0)).size+(str (aE v.a)).size≤_;rw [aB,aB];(try simp only [og,om,ob]);omega
    ·refine fits ?_;show (str (body v 0)++str (aE v.a)).size+(str []).size≤_;rw [aC,aB,aB];(try simp only [og,ob]);omega
    ·intro k7 u7;refine⟨3-0,oq,0+1,oq,oq,?_⟩;rw [e,←je,←aC,←aC];rfl
 refine⟨fun hj1=>?_,fun hj1=>?_⟩
 ·have e:j=1:=by have:=eq_of_beq hj1;omega
  subst e;clear C hx;refine iU q1 ?_;intro k3 u3;refine⟨_,rfl,fun hz=>?_,fun hz=>?_⟩
  ·intro k4 u4;refine⟨3-1,oq,1+1,oq,oq,?_⟩;have hz:v.b=0:=ow hz;have e:body v (1+1)=body v 1:=by simp only [body];conv=>lhs;rw [aF,od hz]
   rw [e];rfl
  ·have hz:¬ v.b=0:=ov hz;refine⟨fun hs=>?_,fun hs=>?_⟩
   ·have hs:body v 1≠[]:=by
     intro h;rw [h,jK]at hs;cases hs
    refine lW (q1.up u3) ?_;intro k4 u4;refine⟨_,rfl,fun hp=>?_,fun hp=>?_⟩
    ·have hp:0<(v.b).num.sign:=by simpa using hp
     refine⟨fits (by rw [aB];have:=hlen 1;show _+1≤_;omega),?_⟩;refine gP ((q1.up u3).up u4) oq ?_;intro k5 u5;have e:body v (1+1)=(body v 1++[43])++(aE v.b++[114,50]):=by
      simp only [body];conv=>lhs;rw [aF,oh hz,od ⟨hs,hp⟩]
     have hl:=hlen (1+1);rw [e]at hl;simp only [og,om,ob]at hl;refine⟨_,rfl,?_,?_,?_⟩
     ·refine fits ?_;show (str (body v 1)++str [43]).size+(str (aE v.b)).size≤_;rw [aC,aB,aB];(try simp only [og,om,ob]);omega
     ·refine fits ?_;show ((str (body v 1)++str [43])++str (aE v.b)).size+(str [114,50]).size≤_;rw [aC,aC,aB,aB];(try simp only [og,om,ob]);omega
     ·intro k7 u7;refine⟨3-1,oq,1+1,oq,oq,?_⟩;rw [e,←je,←aC,←aC,←aC];rfl
    ·have hp:¬ 0<(v.b).num.sign:=by simpa using hp
     refine gP ((q1.up u3).up u4) oq ?_;intro k5 u5;have e:body v (1+1)=body v 1++(aE v.b++[114,50]):=by
      simp only [body];conv=>lhs;rw [aF,oh hz,oh (fun h=>hp h.2)]
     have hl:=hlen (1+1);rw [e]at hl;simp only [og,om,ob]at hl;refine⟨_,rfl,?_,?_,?_⟩
     ·refine fits ?_;show (str (body v 1)).size+(str (aE v.b)).size≤_;rw [aB,aB];(try simp only [og,om,ob]);omega
     ·refine fits ?_;show (str (body v 1)++str (aE v.b)).size+(str [114,50]).size≤_;rw [aC,aB,aB];(try simp only [og,om,ob]);omega
     ·intro k7 u7;refine⟨3-1,oq,1+1,oq,oq,?_⟩;rw [e,←je,←aC,←aC];rfl
   ·have hs:¬ body v 1≠[]:=by
     intro h;cases hq:((str (body v 1)).toList == (⟨#[]⟩:ByteArray).toList) with
     | false=>rw [hq]at hs;cases hs
     | true=>exact h (gC (toList_inj.1 hq))
    refine gP (q1.up u3) oq ?_;intro k5 u5;have e:body v (1+1)=body v 1++(aE v.b++[114,50]):=by
     simp only [body];conv=>lhs;rw [aF,oh hz,oh (fun h=>hs h.1)]
    have hl:=hlen (1+1);rw [e]at hl;simp only [og,om,ob]at hl;refine⟨_,rfl,?_,?_,?_⟩
    ·refine fits ?_;show (str (body v 1)).size+(str (aE v.b)).size≤_;rw [aB,aB];(try simp only [og,om,ob]);omega
    ·refine fits ?_;show (str (body v 1)++str (aE v.b)).size+(str [114,50]).size≤_;rw [aC,aB,aB];(try simp only [og,om,ob]);omega
    ·intro k7 u7;refine⟨3-1,oq,1+1,oq,oq,?_⟩;rw [e,←je,←aC,←aC];rfl
 refine⟨fun hj2=>?_,fun hj2=>?_⟩
 ·have e:j=2:=by have:=eq_of_beq hj2;omega
  subst e;clear C hx;refine iU q2 ?_;intro k3 u3;refine⟨_,rfl,fun hz=>?_,fun hz=>?_⟩
  ·intro k4 u4;refine⟨3-2,oq,2+1,oq,oq,?_⟩;have hz:v.c=0:=ow hz;have e:body v (2+1)=body v 2:=by simp only [body];conv=>lhs;rw [aF,od hz]
   rw [e];rfl
  ·have hz:¬ v.c=0:=ov hz;refine⟨fun hs=>?_,fun hs=>?_⟩
   ·have hs:body v 2≠[]:=by
     intro h;rw [h,jK]at hs;cases hs
    refine lW (q2.up u3) ?_;intro k4 u4;refine⟨_,rfl,fun hp=>?_,fun hp=>?_⟩
    ·have hp:0<(v.c).num.sign:=by simpa using hp
     refine⟨fits (by rw [aB];have:=hlen 2;show _+1≤_;omega),?_⟩;refine gP ((q2.up u3).up u4) oq ?_;intro k5 u5;have e:body v (2+1)=(body v 2++[43])++(aE v.c++[114,51]):=by
      simp only [body];conv=>lhs;rw [aF,oh hz,od ⟨hs,hp⟩]
     have hl:=hlen (2+1);rw [e]at hl;simp only [og,om,ob]at hl;refine⟨_,rfl,?_,?_,?_⟩
     ·refine fits ?_;show (str (body v 2)++str [43]).size+(str (aE v.c)).size≤_;rw [aC,aB,aB];(try simp only [og,om,ob]);omega
     ·refine fits ?_;show ((str (body v 2)++str [43])++str (aE v.c)).size+(str [114,51]).size≤_;rw [aC,aC,aB,aB];(try simp only [og,om,ob]);omega
     ·intro k7 u7;refine⟨3-2,oq,2+1,oq,oq,?_⟩;rw [e,←je,←aC,←aC,←aC];rfl
    ·have hp:¬ 0<(v.c).num.sign:=by simpa using hp
     refine gP ((q2.up u3).up u4) oq ?_;intro k5 u5;have e:body v (2+1)=body v 2++(aE v.c++[114,51]):=by
      simp only [body];conv=>lhs;rw [aF,oh hz,oh (fun h=>hp h.2)]
     have hl:=hlen (2+1);rw [e]at hl;simp only [og,om,ob]at hl;refine⟨_,rfl,?_,?_,?_⟩
     ·refine fits ?_;show (str (body v 2)).size+(str (aE v.c)).size≤_;rw [aB,aB];(try simp only [og,om,ob]);omega
     ·refine fits ?_;show (str (body v 2)++str (aE v.c)).size+(str [114,51]).size≤_;rw [aC,aB,aB];(try simp only [og,om,ob]);omega
     ·intro k7 u7;refine⟨3-2,oq,2+1,oq,oq,?_⟩;rw [e,←je,←aC,←aC];rfl
   ·have hs:¬ body v 2≠[]:=by
     intro h;cases hq:((str (body v 2)).toList == (⟨#[]⟩:ByteArray).toList) with
     | false=>rw [hq]at hs;cases hs
     | true=>exact h (gC (toList_inj.1 hq))
    refine gP (q2.up u3) oq ?_;intro k5 u5;have e:body v (2+1)=body v 2++(aE v.c++[114,51]):=by
     simp only [body];conv=>lhs;rw [aF,oh hz,oh (fun h=>hs h.1)]
    have hl:=hlen (2+1);rw [e]at hl;simp only [og,om,ob]at hl;refine⟨_,rfl,?_,?_,?_⟩
    ·refine fits ?_;show (str (body v 2)).size+(str (aE v.c)).size≤_;rw [aB,aB];(try simp only [og,om,ob]);omega
    ·refine fits ?_;show (str (body v 2)++str (aE v.c)).size+(str [114,51]).size≤_;rw [aC,aB,aB];(try simp only [og,om,ob]);omega
    ·intro k7 u7;refine⟨3-2,oq,2+1,oq,oq,?_⟩;rw [e,←je,←aC,←aC];rfl
 refine⟨fun hj3=>?_,fun hj3=>?_⟩
 ·have e:j=3:=by have:=eq_of_beq hj3;omega
  subst e;clear C hx;refine iU q3 ?_;intro k3 u3;refine⟨_,rfl,fun hz=>?_,fun hz=>?_⟩
  ·intro k4 u4;refine⟨3-3,oq,3+1,oq,oq,?_⟩;have hz:v.d=0:=ow hz;have e:body v (3+1)=body v 3:=by simp only [body];conv=>lhs;rw [aF,od hz]
   rw [e];rfl
  ·have hz:¬ v.d=0:=ov hz;refine⟨fun hs=>?_,fun hs=>?_⟩
   ·have hs:body v 3≠[]:=by
     intro h;rw [h,jK]at hs;cases hs
    refine lW (q3.up u3) ?_;intro k4 u4;refine⟨_,rfl,fun hp=>?_,fun hp=>?_⟩
    ·have hp:0<(v.d).num.sign:=by simpa using hp
     refine⟨fits (by rw [aB];have:=hlen 3;show _+1≤_;omega),?_⟩;refine gP ((q3.up u3).up u4) oq ?_;intro k5 u5;have e:body v (3+1)=(body v 3++[43])++(aE v.d++[114,54]):=by
      simp only [body];conv=>lhs;rw [aF,oh hz,od ⟨hs,hp⟩]
     have hl:=hlen (3+1);rw [e]at hl;simp only [og,om,ob]at hl;refine⟨_,rfl,?_,?_,?_⟩
     ·refine fits ?_;show (str (body v 3)++str [43]).size+(str (aE v.d)).size≤_;rw [aC,aB,aB];(try simp only [og,om,ob]);omega
     ·refine fits ?_;show ((str (body v 3)++str [43])++str (aE v.d)).size+(str [114,54]).size≤_;rw [aC,aC,aB,aB];(try simp only [og,om,ob]);omega
     ·intro k7 u7;refine⟨3-3,oq,3+1,oq,oq,?_⟩;rw [e,←je,←aC,←aC,←aC];rfl
    ·have hp:¬ 0<(v.d).num.sign:=by simpa using hp
     refine gP ((q3.up u3).up u4) oq ?_;intro k5 u5;have e:body v (3+1)=body v 3++(aE v.d++[114,54]):=by
      simp only [body];conv=>lhs;rw [aF,oh hz,oh (fun h=>hp h.2)]
     have hl:=hlen (3+1);rw [e]at hl;simp only [og,om,ob]at hl;refine⟨_,rfl,?_,?_,?_⟩
     ·refine fits ?_;show (str (body v 3)).size+(str (aE v.d)).size≤_;rw [aB,aB];(try simp only [og,om,ob]);omega
     ·refine fits ?_;show (str (body v 3)++str (aE v.d)).size+(str [114,54]).size≤_;rw [aC,aB,aB];(try simp only [og,om,ob]);omega
     ·intro k7 u7;refine⟨3-3,oq,3+1,oq,oq,?_⟩;rw [e,←je,←aC,←aC];rfl
   ·have hs:¬ body v 3≠[]:=by
     intro h;cases hq:((str (body v 3)).toList == (⟨#[]⟩:ByteArray).toList) with
     | false=>rw [hq]at hs;cases hs
     | true=>exact h (gC (toList_inj.1 hq))
    refine gP (q3.up u3) oq ?_;intro k5 u5;have e:body v (3+1)=body v 3++(aE v.d++[114,54]):=by
     simp only [body];conv=>lhs;rw [aF,oh hz,oh (fun h=>hs h.1)]
    have hl:=hlen (3+1);rw [e]at hl;simp only [og,om,ob]at hl;refine⟨_,rfl,?_,?_,?_⟩
    ·refine fits ?_;show (str (body v 3)).size+(str (aE v.d)).size≤_;rw [aB,aB];(try simp only [og,om,ob]);omega
    ·refine fits ?_;show (str (body v 3)++str (aE v.d)).size+(str [114,54]).size≤_;rw [aC,aB,aB];(try simp only [og,om,ob]);omega
    ·intro k7 u7;refine⟨3-3,oq,3+1,oq,oq,?_⟩;rw [e,←je,←aC,←aC];rfl
 refine⟨fun hj4=>?_,fun hj4=>?_⟩
 ·have e:j=4:=by have:=eq_of_beq hj4;omega
  subst e;refine⟨fun hs=>?_,fun hs=>?_⟩
  ·have hs:body v 4=[]:=gC (toList_inj.1 hs);intro k3 u3;have:=C k3 u3;unfold eB at this
   rwa [od hs]at this
  ·have hs:¬ body v 4=[]:=by
    intro h;rw [h,jK]at hs;cases hs
   intro k3 u3;have:=C k3 u3;unfold eB at this
   rwa [oh hs]at this
 ·exfalso;simp only [beq_eq_false_iff_ne,ne_eq]at hj0 hj1 hj2 hj3 hj4;omega
end
section
variable {k k':World}{cs cs' c0 c1 c2 c3:Array Value}{R:World→Value→Prop}{x y q q':Rat}{v v':Q4}{K L:Nat}
theorem aZs (hx:SQ k cs v K)  (C:∀k',Up k k'→R k' (.bool (decide (v=Q4.zero)))) :
 Cl k 122 #[.agg cs] R:=by
 intro k0 u0;replace C:=fun k' u=>C k' (u0.trans u);obtain⟨c0,c1,c2,c3,rfl,x0,x1,x2,x3⟩:=hx.up u0;refine aSz x0.seg x1.seg x2.seg x3.seg ?_;refine iU x0 fun k1 u1=>⟨_,rfl,fun h0=>?_,fun h0=>fun k11 u11=>?_⟩
 ·refine iU (x1.up u1) fun k3 u3=>⟨_,rfl,fun h1=>?_,fun h1=>fun k10 u10=>?_⟩
  ·refine iU (x2.up (u1.trans u3)) fun k5 u5=>⟨_,rfl,fun h2=>?_,fun h2=>fun k9 u9=>?_⟩
   ·refine iU (x3.up ((u1.trans u3).trans u5)) fun k7 u7=>⟨_,rfl,fun k8 u8=>?_⟩;have e:decide (v=Q4.zero)=decide (v.d=0):=by rw [Q4.zero_iff,h0,h1,h2];rfl
    have:=C k8 ((((u1.trans u3).trans u5).trans u7).trans u8);rw [e]at this;exact this
   ·have e:decide (v=Q4.zero)=false:=by rw [Q4.zero_iff,h0,h1,h2];rfl
    have:=C k9 (((u1.trans u3).trans u5).trans u9);rw [e]at this;exact this
  ·have e:decide (v=Q4.zero)=false:=by rw [Q4.zero_iff,h0,h1];rfl
   have:=C k10 ((u1.trans u3).trans u10);rw [e]at this;exact this
 ·have e:decide (v=Q4.zero)=false:=by rw [Q4.zero_iff,h0];rfl
  have:=C k11 (u1.trans u11);rw [e]at this;exact this
theorem aIj {n0 n1 n2 n3 n4 n5 n6 n7:Int}(h0:In64 n0) (h1:In64 n1) (h2:In64 n2) (h3:In64 n3) (h4:In64 n4) (h5:In64 n5) (h6:In64 n6) (h7:In64 n7) (C:∀k' ds,Up k k'→SQ k' ds ⟨ofQ n0 n1,ofQ n2 n3,ofQ n4 n5,ofQ n6 n7⟩ 2→R k' (.agg ds)) :
 Cl k 33 #[.agg #[.int .i64 n0,.int .i64 n1,.int .i64 n2,.int .i64 n3,.int .i64 n4,.int .i64 n5,.int .i64 n6,.int .i64 n7]] R:=by
 intro k0 u0;refine aFq (aYf h0 h1 fun k1 d1 u1 q1=>⟨d1,q1.seg,rfl,?_⟩);refine aYf h2 h3 fun k3 d3 u3 q3=>⟨d3,q3.seg,rfl,?_⟩;refine aYf h4 h5 fun k5 d5 u5 q5=>⟨d5,q5.seg,rfl,?_⟩;refine aYf h6 h7 fun k7 d7 u7 q7=>⟨d7,q7.seg,rfl,fun k8 u8=>?_⟩;exact C k8 _ (((((u0.trans u1).trans u3).trans u5).trans u7).trans u8) ⟨d1,d3,d5,d7,rfl,(((q1.up u3).up u5).up u7).up u8,((q3.up u5).up u7).up u8,(q5.up u7).up u8,q7.up u8⟩
end
def WQ (k:World) (cs:Array Value) (w:W4) (K:Nat):Prop:=∃c0 c1:Array Value,cs=cat2 c0 c1∧SQ k c0 w.re K∧SQ k c1 w.im K
section
variable {k k':World}{cs cs' c0 c1:Array Value}{R:World→Value→Prop}{v v':Q4}{x y:W4}{q:Rat}{K L:Nat}
theorem WQ.up (h:WQ k cs x K) (u:Up k k'):WQ k' cs x K:=by
 obtain⟨c0,c1,e,h0,h1⟩:=h;exact⟨c0,c1,e,h0.up u,h1.up u⟩
theorem WQ.mono (h:WQ k cs x K) (hL:K≤L):WQ k cs x L:=by
 obtain⟨c0,c1,e,h0,h1⟩:=h;exact⟨c0,c1,e,h0.mono hL,h1.mono hL⟩
theorem bDm (hx:WQ k cs x K) (hy:WQ k cs' y L) (hK:8*(K+L)+45≤10000000000) (C:∀k' ds,Up k k'→WQ k' ds (x.mul y) (8*(K+L)+45)→R k' (.agg ds)) :
 Cl k 130 #[.agg cs,.agg cs'] R:=by
 intro k0 u0;obtain⟨a,b,rfl,a0,b0⟩:=hx.up u0;obtain⟨c,d,rfl,c0,d0⟩:=hy.up u0;refine aSw a0.seg b0.seg c0.seg d0.seg ?_;refine zL a0 c0 oq fun k1 e1 u1 h1=>⟨e1,h1.seg,rfl,?_⟩;refine zL (b0.up u1) (d0.up u1) oq fun k2 e2 u2 h2=>⟨e2,h2.seg,rfl,?_⟩;refine aTu (h1.up u2) h2 oq fun k3 e3 u3 h3=>⟨e3,h3.seg,rfl,?_⟩;have u123:=(u1.trans u2).trans u3;refine zL (a0.up u123) (d0.up u123) oq fun k4 e4 u4 h4=>⟨e4,h4.seg,rfl,?_⟩;refine zL (b0.up (u123.trans u4)) (c0.up (u123.trans u4)) oq fun k5 e5 u5 h5=>⟨e5,h5.seg,rfl,?_⟩;refine aTa (h4.up u5) h5 oq fun k6 e6 u6 h6=>⟨e6,h6.seg,rfl,fun k7 u7=>?_⟩;exact C k7 _ (((((u0.trans u123).trans u4).trans u5).trans u6).trans u7) ⟨e3,e6,rfl,((((h3.up u4).up u5).up u6).up u7).mono oq,(h6.up u7).mono oq⟩
theorem aNf {n0 n1 n2 n3 n4 n5 n6 n7 n8 n9 n10 n11 n12 n13 n14 n15:Int}(h0:In64 n0) (h1:In64 n1) (h2:In64 n2) (h3:In64 n3) (h4:In64 n4) (h5:In64 n5) (h6:In64 n6) (h7:In64 n7) (h8:In64 n8) (h9:In64 n9) (h10:In64 n10) (h11:In64 n11) (h12:In64 n12) (h13:In64 n13) (h14:In64 n14) (h15:In64 n15) (C:∀k' ds,Up k k'→WQ k' ds ⟨⟨ofQ n0 n1,ofQ n2 n3,ofQ n4 n5,ofQ n6 n7⟩,⟨ofQ n8 n9,ofQ n10 n11,ofQ n12 n13,ofQ n14 n15⟩⟩ 2→R k' (.agg ds)) :
 Cl k 43 #[.agg #[.int .i64 n0,.int .i64 n1,.int .i64 n2,.int .i64 n3,.int .i64 n4,.int .i64 n5,.int .i64 n6,.int .i64 n7,.int .i64 n8,.int .i64 n9,.int .i64 n10,.int .i64 n11,.int .i64 n12,.int .i64 n13,.int .i64 n14,.int .i64 n15]] R:=by
 intro k0 u0;refine aGj (aIj h0 h1 h2 h3 h4 h5 h6 h7 fun k1 d1 u1 q1=>⟨d1,q1.seg,rfl,?_⟩);refine aIj h8 h9 h10 h11 h12 h13 h14 h15 fun k3 d3 u3 q3=>⟨d3,q3.seg,rfl,fun k4 u4=>?_⟩;exact C k4 _ (((u0.trans u1).trans u3).trans u4) ⟨d1,d3,rfl,(q1.up u3).up u4,q3.up u4⟩
end
end Go.Proofs.YtjgnlflbgmnfaaaGreat.W32

namespace Go.Proofs.YtjgnlflbgmnfaaaGreat
open Go.RowKit
open Value (agg slice int bool tuple)
open Sy (Up Sees CallsG Seg execFn_use)
set_option maxRecDepth 100000
variable {k:World}{R:World→Value→Prop}{cs0 cs1:Array Value}{n0 n1 n2 n3 n4 n5 n6 n7 n8 n9 n10 n11 n12 n13 n14 n15:Int}
theorem aIr (hcs0:Seg 9 cs0) (hcs1:Seg 12 cs1)
 (h:Cl k 78 #[agg cs0] fun k1 r0=>∃s2,some (Value.string s2)=some r0∧
 Cl k1 114 #[agg cs1] fun k3 r2=>∃s3,some (Value.string s3)=some r2∧
 Rt R k3 (bool (ByteArray.toList s2 == ByteArray.toList s3))) :
  CallsG Tryz.prog 36 #[agg cs0,agg cs1] k R:=
  qX { opq:=[63,68] } [.agg [.seg 0 9],.agg [.seg 1 12]] [agg cs0,agg cs1] [.seg 9,.seg 12] ⟨⟨cs0,rfl,hcs0⟩,⟨cs1,rfl,hcs1⟩,trivial⟩ h
theorem aIs 
 (h:Cl k 52 #[agg #[int .i64 n0,int .i64 n1]] fun k1 r0=>Gt 3 r0 fun cs8=>
 Cl k1 52 #[agg #[int .i64 n2,int .i64 n3]] fun k3 r2=>Gt 3 r2 fun cs9=>
 Cl k3 52 #[agg #[int .i64 n4,int .i64 n5]] fun k5 r4=>Gt 3 r4 fun cs10=>
 Cl k5 52 #[agg #[int .i64 n6,int .i64 n7]] fun k7 r6=>Gt 3 r6 fun cs11=>
 Cl k7 26 #[Rg cs8 cs9 cs10 cs11] fun k9 r8=>Gt 9 r8 fun cs12=>
 Rt R k9 (agg cs12)) :
  CallsG Tryz.prog 31 #[agg #[int .i64 n0,int .i64 n1,int .i64 n2,int .i64 n3,int .i64 n4,int .i64 n5,int .i64 n6,int .i64 n7]] k R:=
  qY { opq:=[31,63] } h
theorem aIt 
 (h:Cl k 31 #[agg #[int .i64 n0,int .i64 n1,int .i64 n2,int .i64 n3,int .i64 n4,int .i64 n5,int .i64 n6,int .i64 n7]] fun k1 r0=>Gt 9 r0 fun cs16=>
 Cl k1 31 #[agg #[int .i64 n8,int .i64 n9,int .i64 n10,int .i64 n11,int .i64 n12,int .i64 n13,int .i64 n14,int .i64 n15]] fun k3 r2=>Gt 9 r2 fun cs17=>
 Cl k3 127 #[agg cs16,agg cs17] fun k5 r4=>∃cs18,Seg 9 cs18∧∃cs19,Seg 9 cs19∧some (agg (cs18.toList++(cs19.toList++([]))).toArray)=some r4∧
 Rt R k5 (agg (cs18.toList++(cs19.toList++([]))).toArray)) :
  CallsG Tryz.prog 42 #[agg #[int .i64 n0,int .i64 n1,int .i64 n2,int .i64 n3,int .i64 n4,int .i64 n5,int .i64 n6,int .i64 n7,int .i64 n8,int .i64 n9,int .i64 n10,int .i64 n11,int .i64 n12,int .i64 n13,int .i64 n14,int .i64 n15]] k R:=
  qY { opq:=[63] } h
theorem aTt 
 (h:Br (decide (((if (decide ((n0:Int)<n1))=true then n1 else n0):Int) > 1099511627776)) (Rt R k (bool false)) (Br (decide (((if (decide ((n1:Int)<n0))=true then n1 else n0):Int)<(-1099511627776))) (Rt R k (bool false)) (Br (decide (((if (decide ((n2:Int)<n3))=true then n3 else n2):Int) > 1099511627776)) (Rt R k (bool false)) (Br (decide (((if (decide ((n3:Int)<n2))=true then n3 else n2):Int)<(-1099511627776))) (Rt R k (bool false)) (Br (decide (((if (decide ((n4:Int)<n5))=true then n5 else n4):Int) > 1099511627776)) (Rt R k (bool false)) (Br (decide (((if (decide ((n5:Int)<n4))=true then n5 else n4):Int)<(-1099511627776))) (Rt R k (bool false)) (Br (decide (((if (decide ((n6:Int)<n7))=true then n7 else n6):Int) > 1099511627776)) (Rt R k (bool false)) (Br (decide (((if (decide ((n7:Int)<n6))=true then n7 else n6):Int)<(-1099511627776))) (Rt R k (bool false)) (Rt R k (bool true)))))))))) :
 CallsG Tryz.prog 25 #[agg #[int .i64 n0,int .i64 n1,int .i64 n2,int .i64 n3,int .i64 n4,int .i64 n5,int .i64 n6,int .i64 n7]] k R:=
 qY { opq:=[] } h
theorem zK 
 (h:Cl k 25 #[agg #[int .i64 n0,int .i64 n1,int .i64 n2,int .i64 n3,int .i64 n4,int .i64 n5,int .i64 n6,int .i64 n7]] fun k1 r0=>Gb r0 fun b16=>
 Br b16 (Cl k1 25 #[agg #[int .i64 n8,int .i64 n9,int .i64 n10,int .i64 n11,int .i64 n12,int .i64 n13,int .i64 n14,int .i64 n15]] fun k3 r2=>Gb r2 fun b17=>
 Rt R k3 (bool b17)) (Rt R k1 (bool false))) :
  CallsG Tryz.prog 41 #[agg #[int .i64 n0,int .i64 n1,int .i64 n2,int .i64 n3,int .i64 n4,int .i64 n5,int .i64 n6,int .i64 n7,int .i64 n8,int .i64 n9,int .i64 n10,int .i64 n11,int .i64 n12,int .i64 n13,int .i64 n14,int .i64 n15]] k R:=
  qY { opq:=[] } h
end Go.Proofs.YtjgnlflbgmnfaaaGreat

namespace Go.Proofs.YtjgnlflbgmnfaaaGreat
open Go.RowKit Num Plain W32
open Sy (Up Sees CallsG Seg)
section
variable {k k':World}{R:World→Value→Prop}{x q:Rat}{K L:Nat}{cs cs':Array Value}{v:Q4}{w:W4}
theorem aAg {n0 n1 n2 n3 n4 n5 n6 n7:Int}(h0:In64 n0) (h1:In64 n1) (h2:In64 n2) (h3:In64 n3) (h4:In64 n4) (h5:In64 n5) (h6:In64 n6) (h7:In64 n7) (C:∀k' ds,Up k k'→SurdV k' ds ⟨ofQ n0 n1,ofQ n2 n3,ofQ n4 n5,ofQ n6 n7⟩ 6→R k' (.agg ds)) :
 Cl k 31 #[.agg #[.int .i64 n0,.int .i64 n1,.int .i64 n2,.int .i64 n3,.int .i64 n4,.int .i64 n5,.int .i64 n6,.int .i64 n7]] R:=by
 intro k0 u0;replace C:=fun k' ds u=>C k' ds (u0.trans u);refine aIs ?_;refine aVl h0 h1 ?_;intro k1 c1 u1 q1;refine⟨c1,q1.seg,rfl,?_⟩;refine aVl h2 h3 ?_;intro k2 c2 u2 q2;refine⟨c2,q2.seg,rfl,?_⟩;refine aVl h4 h5 ?_;intro k3 c3 u3 q3;refine⟨c3,q3.seg,rfl,?_⟩;refine aVl h6 h7 ?_;intro k4 c4 u4 q4;refine⟨c4,q4.seg,rfl,?_⟩;refine aNj (((q1.up u2).up u3).up u4) ((q2.up u3).up u4) (q3.up u4) q4 oq oq ?_;intro k5 c5 u5 h5;refine⟨c5,h5.seg,rfl,?_⟩;intro k6 u6;exact C k6 c5 (((((u1.trans u2).trans u3).trans u4).trans u5).trans u6) (h5.up u6)
theorem aIh {n0 n1 n2 n3 n4 n5 n6 n7:Int}(C:∀k' b,Up k k'→R k' (.bool b)) :
 Cl k 25 #[.agg #[.int .i64 n0,.int .i64 n1,.int .i64 n2,.int .i64 n3,.int .i64 n4,.int .i64 n5,.int .i64 n6,.int .i64 n7]] R:=by
 intro k0 u0;replace C:=fun k' b u=>C k' b (u0.trans u);refine aTt ?_;refine⟨fun _ k1 u1=>C k1 _ u1,fun _=>?_⟩;refine⟨fun _ k1 u1=>C k1 _ u1,fun _=>?_⟩;refine⟨fun _ k1 u1=>C k1 _ u1,fun _=>?_⟩;refine⟨fun _ k1 u1=>C k1 _ u1,fun _=>?_⟩;refine⟨fun _ k1 u1=>C k1 _ u1,fun _=>?_⟩;refine⟨fun _ k1 u1=>C k1 _ u1,fun _=>?_⟩;refine⟨fun _ k1 u1=>C k1 _ u1,fun _=>?_⟩;refine⟨fun _ k1 u1=>C k1 _ u1,fun _=>?_⟩;exact fun k1 u1=>C k1 _ u1
theorem aCz {n0 n1 n2 n3 n4 n5 n6 n7 n8 n9 n10 n11 n12 n13 n14 n15:Int}(C:∀k' b,Up k k'→R k' (.bool b)) :
 Cl k 41 #[.agg #[.int .i64 n0,.int .i64 n1,.int .i64 n2,.int .i64 n3,.int .i64 n4,.int .i64 n5,.int .i64 n6,.int .i64 n7,.int .i64 n8,.int .i64 n9,.int .i64 n10,.int .i64 n11,.int .i64 n12,.int .i64 n13,.int .i64 n14,.int .i64 n15]] R:=by
 intro k0 u0;refine zK (aIh fun k1 b1 u1=>⟨_,rfl,fun _=>?_,fun _ k2 u2=>C k2 _ ((u0.trans u1).trans u2)⟩);exact aIh fun k3 b3 u3=>⟨_,rfl,fun k4 u4=>C k4 _ (((u0.trans u1).trans u3).trans u4)⟩
theorem aPd (hx:SurdV k cs v K) (hK1:1≤K) (hK:K≤268435456) (h:SQ k cs' v L) (hL:L≤10000000000) (C:∀k',Up k k'→R k' (.bool true)) :
 Cl k 36 #[.agg cs,.agg cs'] R:=by
 intro k0 u0;refine aIr hx.seg h.seg (aGn (hx.up u0) hK1 hK fun k1 u1=>⟨_,rfl,aZp ((h.up u0).up u1) hL fun k3 u3=>⟨_,rfl,fun k4 u4=>?_⟩⟩);have:=C k4 (((u0.trans u1).trans u3).trans u4);rw [show (ByteArray.toList (str (eB v)) == ByteArray.toList (str (eB v)))=true from beq_self_eq_true _];exact this
theorem aNl {n0 n1 n2 n3 n4 n5 n6 n7 n8 n9 n10 n11 n12 n13 n14 n15:Int}(h0:In64 n0) (h1:In64 n1) (h2:In64 n2) (h3:In64 n3) (h4:In64 n4) (h5:In64 n5) (h6:In64 n6) (h7:In64 n7) (h8:In64 n8) (h9:In64 n9) (h10:In64 n10) (h11:In64 n11) (h12:In64 n12) (h13:In64 n13) (h14:In64 n14) (h15:In64 n15) (C:∀k' ds,Up k k'→WaveV k' ds ⟨⟨ofQ n0 n1,ofQ n2 n3,ofQ n4 n5,ofQ n6 n7⟩,⟨ofQ n8 n9,ofQ n10 n11,ofQ n12 n13,ofQ n14 n15⟩⟩ 6→R k' (.agg ds)) :
 Cl k 42 #[.agg #[.int .i64 n0,.int .i64 n1,.int .i64 n2,.int .i64 n3,.int .i64 n4,.int .i64 n5,.int .i64 n6,.int .i64 n7,.int .i64 n8,.int .i64 n9,.int .i64 n10,.int .i64 n11,.int .i64 n12,.int .i64 n13,.int .i64 n14,.int .i64 n15]] R:=by
 intro k0 u0;refine aIt (aAg h0 h1 h2 h3 h4 h5 h6 h7 fun k1 d1 u1 q1=>⟨d1,q1.seg,rfl,?_⟩);refine aAg h8 h9 h10 h11 h12 h13 h14 h15 fun k3 d3 u3 q3=>⟨d3,q3.seg,rfl,?_⟩;refine bCu (q1.up u3) q3 fun k5 d5 u5 q5=>?_;have q5':=q5;obtain⟨a,b,rfl,a0,b0⟩:=q5';exact⟨a,a0.seg,b,b0.seg,rfl,fun k6 u6=>C k6 _ ((((u0.trans u1).trans u3).trans u5).trans u6) (q5.up u6)⟩
end
end Go.Proofs.YtjgnlflbgmnfaaaGreat

namespace Go.Proofs.YtjgnlflbgmnfaaaGreat.W32
open IntKind (wrap)
open Go.RowKit Num Plain
open Sy (Up Sees CallsG Seg)
section
variable {k k':World}{A A':Option Addr}{n c m n' c' m' a b l l':Nat}{cs cs' c0 c1:Array Value}{R:World→Value→Prop}{x y q p r lo hi:Rat}{K L M:Nat}{v v':Q4}
theorem wT (s:Nat):nw (1*2^s)≤s/32+1:=by
 refine aI ?_;rw [jv,kZ,←zh];exact ze oz oq
def aEf (n kk:Nat) (q:Rat):Prop:=∃r:Nat,q=(r:Rat) / ((2^kk:Nat):Rat)∧r*r≤n*2^(2*kk)∧n*2^(2*kk)<(r+1)*(r+1)
theorem aYy {n kk:Nat}(hn:n≤6) (hk:kk≤1000000000) (C:∀k' ds q,Up k k'→aEf n kk q→QV k' ds q (kk/32+2)→R k' (.agg ds)) :
 Cl k 206 #[.int .u64 (n:Int),.int .i64 (kk:Int)] R:=by
 intro k0 u0;have w1:wrap .i64 (2*(kk:Int))=((2*kk:Nat):Int):=by rw [qy];omega
 refine aSp (aBv (x:=n) oq fun k1 A1 c1 u1 h1=>⟨A1,_,c1,rfl,?_⟩);have hn1:nw n≤1:=aI (by rw [kZ];omega);rw [w1];refine gH h1 oq oq fun k3 A3 c3 u3 h3=>⟨A3,_,c3,rfl,?_⟩;have hb:n*2^(2*kk)<2^(2*kk+3):=by
  rw [oa,qj];exact Nat.mul_lt_mul_of_pos_left oq (oi oz)
 have hn3:nw (n*2^(2*kk))≤kk/16+2:=by
  refine aI (ol hb ?_);rw [kZ,←zh];exact ot oz oq
 refine bCz h3 oq fun k5 A5 c5 r u5 r1 r2 h5=>⟨A5,_,c5,rfl,?_⟩;intro p k6 u6 hp;refine gH (k:=k6) (s:=kk) (eJ hp) oz oq fun k8 A8 c8 u8 h8=>⟨A8,_,c8,rfl,?_⟩;have hr:r<2^(kk+2):=by
  refine xz fun hle=>?_;have h:=zd hle hle;rw [←oa]at h;have h2:2^(2*kk+3)≤2^(kk+2+(kk+2)):=ot oz oq;omega
 have hnr:nw r≤kk/32+2:=by
  refine aI (ol hr ?_);rw [kZ,←zh];exact ot oz oq
 have hnp:=wT kk;refine fG (K:=kk/32+2) ((h5.up u6).up u8) h8 (by rw [jv];exact oi oz) hnr oq oq (q:=(r:Rat) / ((2^kk:Nat):Rat)) ?_ fun k10 b A l c A' l' c' u10 hQ f1 f2=>⟨_,(QV.mk1 hQ f1 f2).seg,rfl,fun k11 u11=>C k11 _ _ (((((((u0.trans u1).trans u3).trans u5).trans u6).trans u8).trans u10).trans u11) ⟨r,rfl,r1,r2⟩ (QV.mk1 (hQ.up u11) f1 f2)⟩;rw [jv,jm];rfl
theorem aYi {kk:Nat}(hk1:0<kk) (hk:kk≤1000000000) (C:∀k' ds,Up k k'→QV k' ds (1/((2^kk:Nat):Rat)) (kk/32+2)→R k' (.agg ds)) :
 Cl k 174 #[.int .i64 (-(kk:Int))] R:=by
 intro k0 u0;have w1:wrap .i64 (0 - -(kk:Int))=(kk:Int):=by rw [qy];omega
 refine aMf ⟨fun _=>?_,fun h=>absurd (ov h) oq⟩;intro p k1 u1 hp;rw [w1];refine gH (k:=k1) (s:=kk) (eJ hp) oz oq fun k2 A2 c2 u2 h2=>⟨A2,_,c2,rfl,?_⟩;intro p3 k3 u3 hp3;have hnp:=wT kk;refine fG (k:=k3) (K:=kk/32+2) (eJ hp3) (h2.up u3) (by rw [jv];exact oi oz) oq oq oq (q:=1/((2^kk:Nat):Rat)) ?_ fun k10 b A l c A' l' c' u10 hQ f1 f2=>⟨_,(QV.mk1 hQ f1 f2).seg,rfl,fun k11 u11=>C k11 _ (((((u0.trans u1).trans u2).trans u3).trans u10).trans u11) (QV.mk1 (hQ.up u11) f1 f2)⟩;rw [jv,jm];rfl
theorem sR {w:Q4}{n kk:Nat}(hw:C.sg w.toQ=1) (hs:w.mul w=Q4.real ((n:Nat):Rat)) (h:aEf n kk q):Apx w q (q+1/((2^kk:Nat):Rat)):=by
 obtain⟨r,rfl,h1,h2⟩:=h;have hP:(0:Rat)<((2^kk:Nat):Rat):=jo.2 (oi oz);have e1:2^(2*kk)=2^kk*2^kk:=by rw [←oa];congr 1;omega
 rw [e1]at h1 h2;have h1:=zy.2 h1;have h2:=zy.2 (kj h2);rw [qa,qa,qa]at h1;rw [qa,qa,qa,Rat.natCast_add,show ((1:Nat):Rat)=1 from rfl]at h2;have hr:(0:Rat)≤(r:Rat):=yr;generalize ((2^kk:Nat):Rat)=P at *
 generalize (r:Rat)=r at *
 generalize (n:Rat)=n at *
 have hi:(0:Rat)<P⁻¹:=Rat.inv_pos.2 hP;have hPi:P*P⁻¹=1:=Rat.mul_inv_cancel _ (by grind);rw [xh,xh,yk];generalize P⁻¹=i at *
 have hii:0≤i*i:=vm (wz hi hi);have h3:=jh h1 hii;have h4:=jh h2 hii;have e2:n*(P*P)*(i*i)=n:=by
  have:n*(P*P)*(i*i)=n*((P*i)*(P*i)):=by grind
  rw [this,hPi];grind
 rw [e2]at h3 h4;refine⟨aHv hw hs (Rat.mul_nonneg hr (vm hi)) ?_,zG hw hs ?_ ?_⟩
 ·grind
 ·have:=Rat.mul_nonneg hr (vm hi)
  grind
 ·grind
theorem rneg {q:Rat}:q.num<0↔q<0:=by rw [←Int.not_le,xe,Rat.not_le]
theorem rpos {q:Rat}:0<q.num↔0<q:=by
 constructor
 ·intro h;have h1:0≤q:=xe.1 oq;rcases Rat.le_iff_lt_or_eq.1 h1 with h2|h2
  ·exact h2
  ·rw [←h2]at h;exact absurd h oz
 ·exact iZ
theorem aFw {q:Rat}:q.num.sign<0↔q<0:=by
 rw [←rneg];rcases Int.lt_trichotomy q.num 0 with h|h|h
 ·rw [vw h];exact⟨fun _=>h,fun _=>oz⟩
 ·rw [h];exact Iff.rfl
 ·rw [zr h];exact⟨fun h=>absurd h oz,fun h=>oq⟩
theorem aTm {q:Rat}:q.num.sign > 0↔0<q:=by
 rw [←rpos];rcases Int.lt_trichotomy q.num 0 with h|h|h
 ·rw [vw h];exact⟨fun h=>absurd h oz,fun h=>oq⟩
 ·rw [h];exact Iff.rfl
 ·rw [zr h];exact⟨fun _=>h,fun _=>oz⟩
theorem aHl (p:Rat):(decide (p.num.sign<0))=decide (p<0):=decide_eq_decide.2 aFw
theorem bstep {Q:World→Array Value→Array Value→Prop}{B:Option Addr}{l6 i n kk:Nat}{cx c7:Array Value}(hA:∃b o,B=some ⟨b,o,none⟩) (hi6:i<l6) (hrd:∀k',Up k k'→Sy.ReadAt k'.cell? B (Int.toNat (i:Int)*1+0) 1 (Value.int .u64 (n:Int)))
 (hn:n≤6) (hk:kk≤1000000000) (hx:QV k cx p K) (h7:QV k c7 (1/((2^kk:Nat):Rat)) (kk/32+2)) (h0:QV k c0 lo L) (h1:QV k c1 hi L) (hL:L≤1000000000) (hK:K≤1000000000)
 (C:∀k' d0 d1 r,Up k k'→aEf n kk r→QV k' d0 (lo+loT p r (r+1/((2^kk:Nat):Rat))) (L+K+kk/16+6)→QV k' d1 (hi+hiT p r (r+1/((2^kk:Nat):Rat))) (L+K+kk/16+6)→Q k' d0 d1) :
 (∃b o,B=some ⟨b,o,none⟩)∧((0:Int)≤(i:Int)∧(i:Int)<(l6:Nat))∧
 ∃n8,Sy.ReadAt k.cell? B (Int.toNat (i:Int)*1+0) 1 (Value.int .u64 n8)∧
 Cl k 206 #[Value.int .u64 n8,Value.int .i64 (kk:Int)] fun k4 r3=>Gt 3 r3 fun cs9=>
 Cl k4 81 #[Value.agg cx,Value.agg cs9] fun k6 r5=>Gt 3 r5 fun cs10=>
 Cl k6 109 #[Value.agg cs9,Value.agg c7] fun k8 r7=>Gt 3 r7 fun cs11=>
 Cl k8 81 #[Value.agg cx,Value.agg cs11] fun k10 r9=>Gt 3 r9 fun cs12=>
 Cl k10 124 #[Value.agg cx] fun k12 r11=>∃n13,some (Value.int .i64 n13)=some r11∧
 ((decide ((n13:Int)<0))=true→
 (Cl k12 109 #[Value.agg c0,Value.agg cs12] fun k14 r13=>Gt 3 r13 fun cs14=>
 Cl k14 109 #[Value.agg c1,Value.agg cs10] fun k16 r15=>Gt 3 r15 fun cs15=>Q k16 cs14 cs15))∧
 ((decide ((n13:Int)<0))=false→
 (Cl k12 109 #[Value.agg c0,Value.agg cs10] fun k76 r75=>Gt 3 r75 fun cs14=>
 Cl k76 109 #[Value.agg c1,Value.agg cs12] fun k78 r77=>Gt 3 r77 fun cs15=>Q k78 cs14 cs15)):=by
  refine⟨hA,⟨oq,oq⟩,(n:Int),hrd k (Up.refl k),?_⟩;refine aYy hn hk fun k1 d1 r u1 hr q1=>⟨d1,q1.seg,rfl,?_⟩;refine cO (hx.up u1) q1 oq fun k2 d2 u2 q2=>⟨d2,q2.seg,rfl,?_⟩;refine dE (q1.up u2) ((h7.up u1).up u2) oq fun k3 d3 u3 q3=>⟨d3,q3.seg,rfl,?_⟩;refine cO (((hx.up u1).up u2).up u3) q3 oq fun k4 d4 u4 q4=>⟨d4,q4.seg,rfl,?_⟩;have u14:=((u1.trans u2).trans u3).trans u4;refine lW (hx.up u14) fun k5 u5=>⟨_,rfl,fun h=>?_,fun h=>?_⟩
  ·rw [aHl]at h;have hp:=ow h;refine dE ((h0.up u14).up u5) (q4.up u5) oq fun k6 d6 u6 q6=>⟨d6,q6.seg,rfl,?_⟩;refine dE (((h1.up u14).up u5).up u6) ((((q2.up u3).up u4).up u5).up u6) oq fun k7 d7 u7 q7=>⟨d7,q7.seg,rfl,?_⟩;refine C k7 d6 d7 r (((u14.trans u5).trans u6).trans u7) hr (((q6.up u7).cast ?_).mono oq) ((q7.cast ?_).mono oq)
   ·unfold loT;rw [od hp]
   ·unfold hiT;rw [od hp]
  ·rw [aHl]at h;have hp:=ov h;refine dE ((h0.up u14).up u5) (((q2.up u3).up u4).up u5) oq fun k6 d6 u6 q6=>⟨d6,q6.seg,rfl,?_⟩;refine dE (((h1.up u14).up u5).up u6) ((q4.up u5).up u6) oq fun k7 d7 u7 q7=>⟨d7,q7.seg,rfl,?_⟩;refine C k7 d6 d7 r (((u14.trans u5).trans u6).trans u7) hr (((q6.up u7).cast ?_).mono oq) ((q7.cast ?_).mono oq)
   ·unfold loT;rw [oh hp]
   ·unfold hiT;rw [oh hp]
theorem read64 {k:World}{p i n:Nat}(h:Sy.Blk k p 45 #[Value.int .u64 1,Value.int .u64 2,Value.int .u64 3,Value.int .u64 6]) (hv:(#[Value.int .u64 1,Value.int .u64 2,Value.int .u64 3,Value.int .u64 6]:Array Value)[i]?=some (Value.int .u64 (n:Int))) :
 ∀k',Up k k'→Sy.ReadAt k'.cell? (some ⟨p,0,none⟩) (Int.toNat (i:Int)*1+0) 1 (Value.int .u64 (n:Int)):=fun k' u=>by
 refine uG rfl (p:=i) ?_ oq;unfold Sy.cellAt;simp only [jy,(h.up u).cell,hv];rfl
theorem aAr {kk:Nat}(hx:SQ k cs v K) (hk1:0<kk) (hk:kk≤1000000000) (hK:K≤100000000)
 (C:∀k' d0 d1 r2 r3 r6,Up k k'→Apx w2 r2 (r2+1/((2^kk:Nat):Rat))→Apx w3 r3 (r3+1/((2^kk:Nat):Rat))→Apx w6 r6 (r6+1/((2^kk:Nat):Rat))→
   QV k' d0 (loB v r2 (r2+1/((2^kk:Nat):Rat)) r3 (r3+1/((2^kk:Nat):Rat)) r6 (r6+1/((2^kk:Nat):Rat))) (4*K+3*(kk/16)+18)→
   QV k' d1 (hiB v r2 (r2+1/((2^kk:Nat):Rat)) r3 (r3+1/((2^kk:Nat):Rat)) r6 (r6+1/((2^kk:Nat):Rat))) (4*K+3*(kk/16)+18)→R k' (.tuple #[.agg d0,.agg d1])) :
 Cl k 123 #[.agg cs,.int .i64 (kk:Int)] R:=by
 intro k0 u0;obtain⟨c0,c1,c2,c3,rfl,h0,h1,h2,h3⟩:=hx.up u0;replace C:=fun k' d0 d1 r2 r3 r6 u=>C k' d0 d1 r2 r3 r6 (u0.trans u);refine aFh h0.seg h1.seg h2.seg h3.seg fun p5 k1 u1 hb=>⟨_,_,_,rfl,?_⟩;rw [show wrap .i64 (0-(kk:Int))=-(kk:Int) by rw [qy];omega];refine aYi hk1 hk fun k2 d2 u2 q2=>⟨d2,q2.seg,rfl,?_⟩;have v2:=u1.trans u2;replace C:=fun k' d0 d1 r2 r3 r6 u=>C k' d0 d1 r2 r3 r6 (v2.trans u);replace hb:=hb.up u2;replace h0:=h0.up v2;replace h1:=h1.up v2;replace h2:=h2.up v2;replace h3:=h3.up v2;clear u0 u1 u2 v2 hx;refine bstep (i:=1) (n:=2) ⟨_,_,rfl⟩ oz (read64 hb rfl) oz hk h1 q2 h0 h0 oq oq fun k4 e0 e1 r2 u4 a2 f0 f1=>?_;refine bstep (i:=2) (n:=3) ⟨_,_,rfl⟩ oz (read64 (hb.up u4) rfl) oz hk (h2.up u4) (q2.up u4) f0 f1 oq oq fun k5 e2 e3 r3 u5 a3 f2 f3=>?_;refine bstep (i:=3) (n:=6) ⟨_,_,rfl⟩ oz (read64 ((hb.up u4).up u5) rfl) oz hk ((h3.up u4).up u5) ((q2.up u4).up u5) f2 f3 oq oq fun k6 e4 e5 r6 u6 a6 f4 f5=>fun k7 u7=>?_;exact C k7 e4 e5 r2 r3 r6 (((u4.trans u5).trans u6).trans u7) (sR aGg aUf a2) (sR aGh aUg a3) (sR aGi aUh a6) ((f4.up u7).mono oq) ((f5.up u7).mono oq)
theorem QV.parts (h:QV k cs q K):q.num.natAbs≤2^(32*K)∧q.den≤2^(32*K):=by
 obtain⟨b,A,l,c,A',l',c',rfl,hQ,h1,h2⟩:=h;have e1:=hQ.n.1.lt;have e2:=hQ.d.1.lt;rw [kZ,←zh]at e1 e2;exact⟨qt (kj e1) (ot oz oq),qt (kj e2) (ot oz oq)⟩
theorem SQ.parts (h:SQ k cs v K):Parts4 v (2^(32*K)):=by
 obtain⟨c0,c1,c2,c3,rfl,h0,h1,h2,h3⟩:=h;exact⟨h0.parts,h1.parts,h2.parts,h3.parts⟩
theorem aZo (hx:SQ k cs v K) (hK:K≤100000) (C:∀k',Up k k'→R k' (.int .i64 (C.sg v.toQ))) :
 Cl k 38 #[.agg cs] R:=by
 intro k0 u0;replace hx:=hx.up u0;replace C:=fun k' u=>C k' (u0.trans u);clear u0;refine aMh hx.seg (aZs hx fun k1 u1=>⟨_,rfl,fun h=>fun k2 u2=>?_,fun h=>?_⟩)
 ·have h:=ow h;have:=C k2 (u1.trans u2)
  rwa [h,toQ_zero,Plain.C.sg_zero]at this
 ·have hne:=ov h;replace hx:=hx.up u1;replace C:=fun k' u=>C k' (u1.trans u);clear u1 h;refine⟨fun m k' vs=>∃kk:Nat,16≤kk∧kk≤1280*K+22+16∧m=1280*K+38-kk∧vs=[.int .i64 (kk:Int)],⟨1280*K+22,fun k' _=>⟨16,oq,oq,oq,rfl⟩⟩,?_⟩;rintro m k3 vs u3 ⟨kk,hk1,hk2,rfl,rfl⟩;refine⟨_,rfl,?_⟩;refine aAr (hx.up u3) oq oq oq fun k5 d0 d1 r2 r3 r6 u5 a2 a3 a6 q0 q1=>⟨d0,q0.seg,d1,q1.seg,rfl,?_⟩;have hlo:=vQ v a2 a3 a6;have hhi:=vP v a2 a3 a6;have hgap:=sW v (r2:=r2) (r3:=r3) (r6:=r6) (1/((2^kk:Nat):Rat));generalize loB v r2 _ r3 _ r6 _=lo at *
  generalize hiB v r2 _ r3 _ r6 _=hi at *
  refine lW q0 fun k6 u6=>⟨_,rfl,fun h=>fun k7 u7=>?_,fun h=>?_⟩
  ·have h:=ow h;have hp:0<lo:=aTm.1 h;have:=C k7 (((u3.trans u5).trans u6).trans u7)
   rwa [aTk hlo hp]at this
  ·have h:=ov h;have hp:lo≤0:=Rat.not_lt.1 fun h'=>h (aTm.2 h');refine lW (q1.up u6) fun k8 u8=>⟨_,rfl,fun h=>fun k9 u9=>?_,fun h=>fun k9 u9=>?_⟩
   ·have h:=ow h;have hq:hi<0:=aFw.1 h;have:=C k9 ((((u3.trans u5).trans u6).trans u8).trans u9)
    rwa [aTj hhi hq]at this
   ·have h:=ov h;have hq:0≤hi:=Rat.not_lt.1 fun h'=>h (aFw.2 h');have hb:=aAq hne hx.parts hlo hhi hgap hp hq;refine⟨1280*K+38-2*kk,oq,2*kk,oq,oq,rfl,?_⟩;rw [show wrap .i64 (2*(kk:Int))=((2*kk:Nat):Int) by rw [qy];omega]
theorem bDe (hx:SQ k cs v K) (hy:SQ k cs' v' L) (hK:K+L+1≤100000) (C:∀k',Up k k'→R k' (.int .i64 (C.sg (v.sub v').toQ))) :
 Cl k 132 #[.agg cs,.agg cs'] R:=by
 intro k0 u0;refine aSq hx.seg hy.seg (aTu (hx.up u0) (hy.up u0) oq fun k1 d1 u1 h1=>⟨d1,h1.seg,rfl,?_⟩);exact aZo h1 hK fun k3 u3=>⟨_,rfl,fun k4 u4=>C k4 (((u0.trans u1).trans u3).trans u4)⟩
end
end Go.Proofs.YtjgnlflbgmnfaaaGreat.W32

namespace Go.Proofs.YtjgnlflbgmnfaaaGreat
open IntKind (wrap)
open Go.RowKit
open Value (agg slice int bool tuple)
open Sy (Up Sees CallsG Seg execFn_use)
set_option maxRecDepth 100000
variable {k:World}{R:World→Value→Prop}{b0 b2 b4 b6:Bool}{A1 A3 A5 A7 A8:Option Addr}{c1 c3 c5 c7 c8 l1 l3 l5 l7 l8:Nat}
theorem zZ 
 (h:Tt∧(Tt∧(Tt∧(Br (decide (((wrap .i64 ((wrap .i64 ((l3:Nat)+(l5:Nat)))+(l7:Nat))):Int) > 0)) (Rt R k (tuple #[agg #[bool false,slice none 0 0,slice none 0 0],bool false])) (Rt R k (tuple #[agg #[bool b0,slice A1 l1 c1,slice A8 l8 c8],bool true])))))) :
 CallsG Tryz.prog 207 #[agg #[bool b0,slice A1 l1 c1,bool b2,slice A3 l3 c3,bool b4,slice A5 l5 c5,bool b6,slice A7 l7 c7,slice A8 l8 c8]] k R:=
 qY { opq:=[] } h
end Go.Proofs.YtjgnlflbgmnfaaaGreat

namespace Go.Proofs.YtjgnlflbgmnfaaaGreat
open Go.RowKit
open Value (agg slice int bool tuple)
open Sy (Up Sees CallsG Seg execFn_use)
set_option maxRecDepth 100000
variable {k:World}{R:World→Value→Prop}
end Go.Proofs.YtjgnlflbgmnfaaaGreat

namespace Go.Proofs.YtjgnlflbgmnfaaaGreat
open IntKind (wrap)
open Go.RowKit Num Plain W32
open Sy (Up Sees CallsG Seg)
section
variable {k k':World}{R:World→Value→Prop}{x q:Rat}{K L:Nat}{cs cs':Array Value}{v:Q4}{w:W4}
theorem RatV.nilz (K:Nat):RatV k #[.bool false,.slice none 0 0,.slice none 0 0] 0 K:=⟨_,_,_,_,_,_,_,rfl,⟨⟨rfl,LimR.nil⟩,LimR.nil⟩,zx _,zx _⟩
def irr (v:Q4):Bool:=decide (v.b=0) && (decide (v.c=0) && decide (v.d=0))
theorem aDm (hx:SurdV k cs v K) (hK:K≤268435456) (C:∀k' ds,Up k k'→RatV k' ds (if irr v then v.a else 0) K→R k' (.tuple #[.agg ds,.bool (irr v)])) :
 Cl k 207 #[.agg cs] R:=by
 intro k0 u0;obtain⟨c0,c1,c2,c3,D,d,e,x0,x1,x2,x3,m,rfl,hm,hg,rfl,⟨b0,A0,n0,e0,rfl,i0,l0⟩,⟨b1,A1,n1,e1,rfl,i1,l1⟩,⟨b2,A2,n2,e2,rfl,i2,l2⟩,⟨b3,A3,n3,e3,rfl,i3,l3⟩,lx,hd⟩:=hx;have hcs:mk9 #[.bool b0,.slice A0 n0 e0] #[.bool b1,.slice A1 n1 e1] #[.bool b2,.slice A2 n2 e2] #[.bool b3,.slice A3 n3 e3] (.slice D d e)=#[.bool b0,.slice A0 n0 e0,.bool b1,.slice A1 n1 e1,.bool b2,.slice A2 n2 e2,.bool b3,.slice A3 n3 e3,.slice D d e]:=rfl;rw [hcs];have q1:=i1.lim.zero_iff;have q2:=i2.lim.zero_iff;have q3:=i3.lim.zero_iff;have ee:wrap .i64 (wrap .i64 ((n1:Nat)+(n2:Nat))+(n3:Nat))=((n1+n2+n3:Nat):Int):=by
  rw [iT (x:=(n1:Nat)+(n2:Nat)) oq oq,iT (x:=(n1:Nat)+(n2:Nat)+(n3:Nat)) oq oq];omega
 have hirr:irr (mkQ x0 x1 x2 x3 m)=decide (x1=0∧x2=0∧x3=0):=by
  unfold irr mkQ;rw [vq];simp only [jx,decide_eq_true_eq,dF hm]
 refine zZ ⟨rfl,rfl,rfl,fun h=>fun k1 u1=>?_,fun h=>fun k1 u1=>?_⟩
 ·rw [ee]at h;have h:=ow h;have er:irr (mkQ x0 x1 x2 x3 m)=false:=by rw [hirr];exact decide_eq_false oq
  have:=C k1 _ (u0.trans u1) (by rw [er];exact RatV.nilz K)
  rwa [er]at this
 ·rw [ee]at h;have h:=ov h;have hz:x1=0∧x2=0∧x3=0:=oq
  have er:irr (mkQ x0 x1 x2 x3 m)=true:=by rw [hirr];exact decide_eq_true hz
  obtain⟨z1,z2,z3⟩:=hz;have hgm:Nat.Coprime x0.natAbs m:=by
   unfold gcd5 at hg;rw [z1,z2,z3]at hg;simp only [Int.natAbs_zero,wa]at hg;rw [Nat.coprime_comm];exact hg
  have hn:(mkRat x0 m).num=x0∧(mkRat x0 m).den=m:=by
   rw [←Rat.mk_eq_mkRat x0 m oq hgm];exact⟨rfl,rfl⟩
  have u:=u0.trans u1
  have:=C k1 #[.bool b0,.slice A0 n0 e0,.slice D d e] u (by
   rw [er,od rfl];show RatV k1 _ (mkRat x0 m) K
   exact⟨b0,A0,n0,e0,D,d,_,rfl,⟨by rw [hn.1];exact i0.up u,by rw [hn.2];exact lx.up u⟩,l0,hd⟩)
  rwa [er]at this
end
