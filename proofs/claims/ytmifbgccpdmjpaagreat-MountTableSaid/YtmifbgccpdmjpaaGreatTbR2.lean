/- Several texts in one. (Printed by prep.py.) -/
import Derived.Test.YtmifbgccpdmjpaaGreatTbLW
namespace Go.Proofs.YtmifbgccpdmjpaaGreat
open IntKind (wrap)
open Go.RowKit
open Value (agg slice int bool tuple)
open Sy (Up Sees CallsG Seg execFn_use)
set_option maxRecDepth 100000
variable {k:World}{R:World→Value→Prop}{A0:Option Addr}{c0 l0:Nat}{n0 n1 n4:Int}{cs0 cs1 cs2 cs3:Array Value}
theorem aNj 
 (h:Tt∧(Br (((l0:Nat):Int) == 0) (Rt R k (slice none 0 0)) (Cl k 370 #[slice A0 l0 c0] fun k2 r1=>Gi r1 fun n1=>
 ∀p2 k3,Up k2 k3→Sy.Blk k3 p2 356 #[int .u32 1]→
 Cl k3 267 #[slice (some ⟨p2,0,none⟩) 1 1,int .i64 (wrap .i64 (Int.tdiv (wrap .i64 (n1+1)) 2))] fun k5 r4=>∃A3 l3 c3,some (slice A3 l3 c3)=some r4∧
 ∃I6:Nat→World→List Value→Prop,(∃m6,∀k6,Up k5 k6→I6 m6 k6 [slice A3 l3 c3])∧
 ∀m6 k6 vs6,Up k5 k6→I6 m6 k6 vs6→∃A4 l4 c4,some [slice A4 l4 c4]=some vs6∧
 Cl k6 299 #[slice A0 l0 c0,slice A4 l4 c4] fun k8 r7=>∃A5 l5 c5,∃A6 l6 c6,some (tuple #[slice A5 l5 c5,slice A6 l6 c6])=some r7∧
 Cl k8 220 #[slice A4 l4 c4,slice A5 l5 c5] fun k10 r9=>∃A7 l7 c7,some (slice A7 l7 c7)=some r9∧
 Cl k10 371 #[slice A7 l7 c7,int .i64 1] fun k12 r11=>∃A8 l8 c8,some (slice A8 l8 c8)=some r11∧
 Cl k12 221 #[slice A8 l8 c8,slice A4 l4 c4] fun k14 r13=>Gi r13 fun n9=>
 Br (decide ((n9:Int) ≥ 0)) (Rt R k14 (slice A4 l4 c4)) (∀k16,Up k14 k16→∃m,m<m6∧I6 m k16 [slice A8 l8 c8])))) :
  CallsG Tryz.prog 401 #[slice A0 l0 c0] k R:=
  qY { opq:=[],loops:=[(0,[.tmp 3 false [.slice]])] } h
theorem aPs 
 (h:Cl k 190 #[int .u64 n0] fun k1 r0=>∃A2 l2 c2,some (slice A2 l2 c2)=some r0∧
 Cl k1 267 #[slice A2 l2 c2,int .i64 (wrap .i64 (2*n1))] fun k3 r2=>∃A3 l3 c3,some (slice A3 l3 c3)=some r2∧
 Cl k3 401 #[slice A3 l3 c3] fun k5 r4=>∃A4 l4 c4,some (slice A4 l4 c4)=some r4∧
 ∀p5 k6,Up k5 k6→Sy.Blk k6 p5 356 #[int .u32 1]→
 Cl k6 267 #[slice (some ⟨p5,0,none⟩) 1 1,int .i64 n1] fun k8 r7=>∃A6 l6 c6,some (slice A6 l6 c6)=some r7∧
 Cl k8 189 #[bool false,slice A4 l4 c4,slice A6 l6 c6] fun k10 r9=>Gt 3 r9 fun cs7=>
 Rt R k10 (agg cs7)) :
  CallsG Tryz.prog 369 #[int .u64 n0,int .i64 n1] k R:=
  qY { opq:=[49] } h
theorem aKa 
 (h:Br (decide ((n0:Int)<0)) (∀p1 k0,Up k k0→Sy.Blk k0 p1 356 #[int .u32 1]→
 Cl k0 267 #[slice (some ⟨p1,0,none⟩) 1 1,int .i64 (wrap .i64 (0-n0))] fun k2 r1=>∃A2 l2 c2,some (slice A2 l2 c2)=some r1∧
 ∀p3 k3,Up k2 k3→Sy.Blk k3 p3 356 #[int .u32 1]→
 Cl k3 189 #[bool false,slice (some ⟨p3,0,none⟩) 1 1,slice A2 l2 c2] fun k5 r4=>Gt 3 r4 fun cs4=>
 Rt R k5 (agg cs4)) (Cl k 352 #[int .i64 n0] fun k8 r7=>Gt 3 r7 fun cs1=>
 Rt R k8 (agg cs1))) :
  CallsG Tryz.prog 368 #[int .i64 n0] k R:=
  qY { opq:=[49] } h
theorem aDk (hcs0:Seg 3 cs0) (hcs1:Seg 3 cs1) (hcs2:Seg 3 cs2) (hcs3:Seg 3 cs3)
 (h:∀p5 k0,Up k k0→Sy.Blk k0 p5 355 #[int .u64 1,int .u64 2,int .u64 3,int .u64 6]→
 ∃A6 l6 c6,some (slice (some ⟨p5,0,none⟩) 4 4)=some (slice A6 l6 c6)∧
 Cl k0 368 #[int .i64 (wrap .i64 (0-n4))] fun k2 r1=>Gt 3 r1 fun cs7=>
 Ad A6∧((0:Int)≤1∧(1:Int)<(l6:Nat))∧
 ∃n8,Sy.ReadAt k2.cell? A6 (Int.toNat 1*1+0) 1 (int .u64 n8)∧
 Cl k2 369 #[int .u64 n8,int .i64 n4] fun k4 r3=>Gt 3 r3 fun cs9=>
 Cl k4 199 #[agg cs1,agg cs9] fun k6 r5=>Gt 3 r5 fun cs10=>
 Cl k6 109 #[agg cs9,agg cs7] fun k8 r7=>Gt 3 r7 fun cs11=>
 Cl k8 199 #[agg cs1,agg cs11] fun k10 r9=>Gt 3 r9 fun cs12=>
 Cl k10 185 #[agg cs1] fun k12 r11=>Gi r11 fun n13=>
 Br (decide ((n13:Int)<0)) (Cl k12 109 #[agg cs0,agg cs12] fun k14 r13=>Gt 3 r13 fun cs14=>
 Cl k14 109 #[agg cs0,agg cs10] fun k16 r15=>Gt 3 r15 fun cs15=>
 Ad A6∧((0:Int)≤2∧(2:Int)<(l6:Nat))∧
 ∃n16,Sy.ReadAt k16.cell? A6 (Int.toNat 2*1+0) 1 (int .u64 n16)∧
 Cl k16 369 #[int .u64 n16,int .i64 n4] fun k18 r17=>Gt 3 r17 fun cs17=>
 Cl k18 199 #[agg cs2,agg cs17] fun k20 r19=>Gt 3 r19 fun cs18=>
 Cl k20 109 #[agg cs17,agg cs7] fun k22 r21=>Gt 3 r21 fun cs19=>
 Cl k22 199 #[agg cs2,agg cs19] fun k24 r23=>Gt 3 r23 fun cs20=>
 Cl k24 185 #[agg cs2] fun k26 r25=>Gi r25 fun n21=>
 Br (decide ((n21:Int)<0)) (Cl k26 109 #[agg cs14,agg cs20] fun k28 r27=>Gt 3 r27 fun cs22=>
 Cl k28 109 #[agg cs15,agg cs18] fun k30 r29=>Gt 3 r29 fun cs23=>
 Ad A6∧((0:Int)≤3∧(3:Int)<(l6:Nat))∧
 ∃n24,Sy.ReadAt k30.cell? A6 (Int.toNat 3*1+0) 1 (int .u64 n24)∧
 Cl k30 369 #[int .u64 n24,int .i64 n4] fun k32 r31=>Gt 3 r31 fun cs25=>
 Cl k32 199 #[agg cs3,agg cs25] fun k34 r33=>Gt 3 r33 fun cs26=>
 Cl k34 109 #[agg cs25,agg cs7] fun k36 r35=>Gt 3 r35 fun cs27=>
 Cl k36 199 #[agg cs3,agg cs27] fun k38 r37=>Gt 3 r37 fun cs28=>
 Cl k38 185 #[agg cs3] fun k40 r39=>Gi r39 fun n29=>
 Br (decide ((n29:Int)<0)) (Cl k40 109 #[agg cs22,agg cs28] fun k42 r41=>Gt 3 r41 fun cs30=>
 Cl k42 109 #[agg cs23,agg cs26] fun k44 r43=>Gt 3 r43 fun cs31=>
 Rt R k44 (tuple #[agg cs30,agg cs31])) (Cl k40 109 #[agg cs22,agg cs26] fun k47 r46=>Gt 3 r46 fun cs30=>
 Cl k47 109 #[agg cs23,agg cs28] fun k49 r48=>Gt 3 r48 fun cs31=>
 Rt R k49 (tuple #[agg cs30,agg cs31]))) (Cl k26 109 #[agg cs14,agg cs18] fun k52 r51=>Gt 3 r51 fun cs22=>
 Cl k52 109 #[agg cs15,agg cs20] fun k54 r53=>Gt 3 r53 fun cs23=>
 Ad A6∧((0:Int)≤3∧(3:Int)<(l6:Nat))∧
 ∃n24,Sy.ReadAt k54.cell? A6 (Int.toNat 3*1+0) 1 (int .u64 n24)∧
 Cl k54 369 #[int .u64 n24,int .i64 n4] fun k56 r55=>Gt 3 r55 fun cs25=>
 Cl k56 199 #[agg cs3,agg cs25] fun k58 r57=>Gt 3 r57 fun cs26=>
 Cl k58 109 #[agg cs25,agg cs7] fun k60 r59=>Gt 3 r59 fun cs27=>
 Cl k60 199 #[agg cs3,agg cs27] fun k62 r61=>Gt 3 r61 fun cs28=>
 Cl k62 185 #[agg cs3] fun k64 r63=>Gi r63 fun n29=>
 Br (decide ((n29:Int)<0)) (Cl k64 109 #[agg cs22,agg cs28] fun k66 r65=>Gt 3 r65 fun cs30=>
 Cl k66 109 #[agg cs23,agg cs26] fun k68 r67=>Gt 3 r67 fun cs31=>
 Rt R k68 (tuple #[agg cs30,agg cs31])) (Cl k64 109 #[agg cs22,agg cs26] fun k71 r70=>Gt 3 r70 fun cs30=>
 Cl k71 109 #[agg cs23,agg cs28] fun k73 r72=>Gt 3 r72 fun cs31=>
 Rt R k73 (tuple #[agg cs30,agg cs31])))) (Cl k12 109 #[agg cs0,agg cs10] fun k76 r75=>Gt 3 r75 fun cs14=>
 Cl k76 109 #[agg cs0,agg cs12] fun k78 r77=>Gt 3 r77 fun cs15=>
 Ad A6∧((0:Int)≤2∧(2:Int)<(l6:Nat))∧
 ∃n16,Sy.ReadAt k78.cell? A6 (Int.toNat 2*1+0) 1 (int .u64 n16)∧
 Cl k78 369 #[int .u64 n16,int .i64 n4] fun k80 r79=>Gt 3 r79 fun cs17=>
 Cl k80 199 #[agg cs2,agg cs17] fun k82 r81=>Gt 3 r81 fun cs18=>
 Cl k82 109 #[agg cs17,agg cs7] fun k84 r83=>Gt 3 r83 fun cs19=>
 Cl k84 199 #[agg cs2,agg cs19] fun k86 r85=>Gt 3 r85 fun cs20=>
 Cl k86 185 #[agg cs2] fun k88 r87=>Gi r87 fun n21=>
 Br (decide ((n21:Int)<0)) (Cl k88 109 #[agg cs14,agg cs20] fun k90 r89=>Gt 3 r89 fun cs22=>
 Cl k90 109 #[agg cs15,agg cs18] fun k92 r91=>Gt 3 r91 fun cs23=>
 Ad A6∧((0:Int)≤3∧(3:Int)<(l6:Nat))∧
 ∃n24,Sy.ReadAt k92.cell? A6 (Int.toNat 3*1+0) 1 (int .u64 n24)∧
 Cl k92 369 #[int .u64 n24,int .i64 n4] fun k94 r93=>Gt 3 r93 fun cs25=>
 Cl k94 199 #[agg cs3,agg cs25] fun k96 r95=>Gt 3 r95 fun cs26=>
 Cl k96 109 #[agg cs25,agg cs7] fun k98 r97=>Gt 3 r97 fun cs27=>
 Cl k98 199 #[agg cs3,agg cs27] fun k100 r99=>Gt 3 r99 fun cs28=>
 Cl k100 185 #[agg cs3] fun k102 r101=>Gi r101 fun n29=>
 Br (decide ((n29:Int)<0)) (Cl k102 109 #[agg cs22,agg cs28] fun k104 r103=>Gt 3 r103 fun cs30=>
 Cl k104 109 #[agg cs23,agg cs26] fun k106 r105=>Gt 3 r105 fun cs31=>
 Rt R k106 (tuple #[agg cs30,agg cs31])) (Cl k102 109 #[agg cs22,agg cs26] fun k109 r108=>Gt 3 r108 fun cs30=>
 Cl k109 109 #[agg cs23,agg cs28] fun k111 r110=>Gt 3 r110 fun cs31=>
 Rt R k111 (tuple #[agg cs30,agg cs31]))) (Cl k88 109 #[agg cs14,agg cs18] fun k114 r113=>Gt 3 r113 fun cs22=>
 Cl k114 109 #[agg cs15,agg cs20] fun k116 r115=>Gt 3 r115 fun cs23=>
 Ad A6∧((0:Int)≤3∧(3:Int)<(l6:Nat))∧
 ∃n24,Sy.ReadAt k116.cell? A6 (Int.toNat 3*1+0) 1 (int .u64 n24)∧
 Cl k116 369 #[int .u64 n24,int .i64 n4] fun k118 r117=>Gt 3 r117 fun cs25=>
 Cl k118 199 #[agg cs3,agg cs25] fun k120 r119=>Gt 3 r119 fun cs26=>
 Cl k120 109 #[agg cs25,agg cs7] fun k122 r121=>Gt 3 r121 fun cs27=>
 Cl k122 199 #[agg cs3,agg cs27] fun k124 r123=>Gt 3 r123 fun cs28=>
 Cl k124 185 #[agg cs3] fun k126 r125=>Gi r125 fun n29=>
 Br (decide ((n29:Int)<0)) (Cl k126 109 #[agg cs22,agg cs28] fun k128 r127=>Gt 3 r127 fun cs30=>
 Cl k128 109 #[agg cs23,agg cs26] fun k130 r129=>Gt 3 r129 fun cs31=>
 Rt R k130 (tuple #[agg cs30,agg cs31])) (Cl k126 109 #[agg cs22,agg cs26] fun k133 r132=>Gt 3 r132 fun cs30=>
 Cl k133 109 #[agg cs23,agg cs28] fun k135 r134=>Gt 3 r134 fun cs31=>
 Rt R k135 (tuple #[agg cs30,agg cs31]))))) :
  CallsG Tryz.prog 296 #[Rg cs0 cs1 cs2 cs3,int .i64 n4] k R:=
  qX { opq:=[49] } [.agg [.seg 0 3,.seg 1 3,.seg 2 3,.seg 3 3],.one (.var 4)] [agg cs0,agg cs1,agg cs2,agg cs3,int .i64 n4] [.seg 3,.seg 3,.seg 3,.seg 3,.int .i64] ⟨⟨cs0,rfl,hcs0⟩,⟨cs1,rfl,hcs1⟩,⟨cs2,rfl,hcs2⟩,⟨cs3,rfl,hcs3⟩,⟨_,rfl⟩,trivial⟩ h
theorem aKb (hcs0:Seg 12 cs0)
 (h:Cl k 236 #[agg cs0] fun k1 r0=>Gb r0 fun b1=>
 Br b1 (Rt R k1 (int .i64 0)) (∃I3:Nat→World→List Value→Prop,(∃m3,∀k3,Up k1 k3→I3 m3 k3 [int .i64 16])∧
 ∀m3 k3 vs3,Up k1 k3→I3 m3 k3 vs3→∃n2,some [int .i64 n2]=some vs3∧
 Cl k3 296 #[agg cs0,int .i64 n2] fun k5 r4=>∃cs3,Seg 3 cs3∧∃cs4,Seg 3 cs4∧some (tuple #[agg cs3,agg cs4])=some r4∧
 Cl k5 185 #[agg cs3] fun k7 r6=>Gi r6 fun n5=>
 Br (decide ((n5:Int) > 0)) (Rt R k7 (int .i64 1)) (Cl k7 185 #[agg cs4] fun k10 r9=>Gi r9 fun n6=>
 Br (decide ((n6:Int)<0)) (Rt R k10 (int .i64 (-1))) (∀k12,Up k10 k12→∃m,m<m3∧I3 m k12 [int .i64 (wrap .i64 (2*n2))])))) :
  CallsG Tryz.prog 187 #[agg cs0] k R:=
  qX { opq:=[49,51],loops:=[(0,[.tmp 3 false [.int .i64]])] } [.agg [.seg 0 12]] [agg cs0] [.seg 12] ⟨⟨cs0,rfl,hcs0⟩,trivial⟩ h
theorem aPt (hcs0:Seg 12 cs0) (hcs1:Seg 12 cs1)
 (h:Cl k 188 #[agg cs0,agg cs1] fun k1 r0=>Gt 12 r0 fun cs2=>
 Cl k1 187 #[agg cs2] fun k3 r2=>Gi r2 fun n3=>
 Rt R k3 (int .i64 n3)) :
  CallsG Tryz.prog 77 #[agg cs0,agg cs1] k R:=
  qX { opq:=[51] } [.agg [.seg 0 12],.agg [.seg 1 12]] [agg cs0,agg cs1] [.seg 12,.seg 12] ⟨⟨cs0,rfl,hcs0⟩,⟨cs1,rfl,hcs1⟩,trivial⟩ h
end Go.Proofs.YtmifbgccpdmjpaaGreat

namespace Go.Proofs.YtmifbgccpdmjpaaGreat.W32
open IntKind (wrap)
open Go.RowKit Num
open Sy (Up Sees CallsG Seg)
theorem bAw (x p:Nat):4*(p*x)≤(x+p)*(x+p):=by
 rcases Nat.le_total x p with h|h
 ·obtain⟨d,rfl⟩:=Nat.exists_eq_add_of_le h;have e:(x+(x+d))*(x+(x+d))=4*((x+d)*x)+d*d:=by grind
  omega
 ·obtain⟨d,rfl⟩:=Nat.exists_eq_add_of_le h;have e:(p+d+p)*(p+d+p)=4*(p*(p+d))+d*d:=by grind
  omega
theorem aIk {a x:Nat}(hx:0<x):a<((x+a/x) / 2+1)*((x+a/x) / 2+1):=by
 have hq:a<(a/x+1)*x:=by rw [qx];exact Nat.lt_mul_div_succ a hx
 generalize a/x=q at hq ⊢;generalize hy:(x+q) / 2=y;have h1:x+(q+1)≤2*(y+1):=oq
 have h2:=bAw x (q+1);have h3:=zl h1 h1;have h4:2*(y+1)*(2*(y+1))=4*((y+1)*(y+1)):=by grind
 omega
theorem aAn {a x:Nat}(hx:0<x) (h:x≤(x+a/x) / 2):x*x≤a:=by
 have hq:x≤a/x:=oq
 exact (zv hx).1 hq
section
variable {k k':World}{A A':Option Addr}{n c m n' c' m' a b l l':Nat}{cs cs':Array Value}{R:World→Value→Prop}{x y q:Rat}{K L:Nat}
theorem aHr {b:Nat}(hb:b≤1000000000000):wrap .i64 (Int.tdiv (wrap .i64 ((b:Nat)+1)) 2)=(((b+1) / 2:Nat):Int):=by
 have h1:wrap .i64 (((b:Nat):Int)+1)=((b+1:Nat):Int):=by rw [je];omega
 rw [h1,Int.tdiv_eq_ediv_of_nonneg oq,je];omega
theorem aZp (h:NatN k A n c a) (hn:n≤10000000000) (C:∀k' A c r,Up k k'→r*r≤a→a<(r+1)*(r+1)→NatN k' A (nw r) c r→R k' (.slice A (nw r) c)) :
 Cl k 401 #[.slice A n c] R:=by
 intro k0 u0;replace h:=h.up u0;replace C:=fun k' A c r u=>C k' A c r (u0.trans u);refine aNj ⟨rfl,fun h0=>fun k1 u1=>?_,fun h0=>?_⟩
 ·have hn0:n=0:=by have:=eq_of_beq h0;omega
  have ha:=h.zero.1 hn0;have:=C k1 none 0 0 u1 oq oq (by rw [nw_zero];exact NatN.none k1);rw [nw_zero]at this;exact this
 ·have hn0:n≠0:=fun e=>by rw [e]at h0;exact absurd h0 oz
  have ha:0<a:=jr fun e=>hn0 (h.zero.2 e);have hlt:a<2^(32*n):=by
   have:=h.1.lt;rw [lZ,←vd]at this;exact this
  have hbl:bl a≤32*n:=iO.2 hlt;refine aLh h oq fun k2 u2=>⟨_,rfl,?_⟩;intro p k3 u3 hp;rw [aHr oq];refine iX (k:=k3) (s:=(bl a+1) / 2) (mV hp) oz oq fun k5 A3 c3 u5 h3=>⟨A3,_,c3,rfl,?_⟩;have hx0:a<2^((bl a+1) / 2)*2^((bl a+1) / 2):=by
   rw [←ju];exact qu (kO a) (qh oz oq)
  have hX:nw (1*2^((bl a+1) / 2))≤n+1:=by
   refine aQ ?_;rw [zy,lZ,←vd];exact Nat.pow_lt_pow_right oz oq
  generalize hXe:1*2^((bl a+1) / 2)=X at h3 hX;have hXX:2^((bl a+1) / 2)=X:=by rw [←hXe,zy]
  rw [hXX]at hx0;have hXp:0<X:=by rw [←hXX];exact oc oz
  clear hXe hXX;replace h:=((h.up u2).up u3).up u5;replace C:=fun k' A c r u=>C k' A c r (((u2.trans u3).trans u5).trans u);refine⟨fun m k' vs=>∃A x c,m=x∧vs=[.slice A (nw x) c]∧NatN k' A (nw x) c x∧0<x∧a<(x+1)*(x+1)∧x≤X,⟨X,fun k' u=>⟨A3,X,c3,rfl,rfl,h3.up u,hXp,yq hx0 (yi oq oq),oy _⟩⟩,?_⟩;rintro m k6 vs u6 ⟨A4,x,c4,rfl,rfl,hx,hx0,hxa,hxX⟩;have hnx:=bC hxX;refine⟨A4,_,c4,rfl,?_⟩;refine jJ (h.up u6) hx oq oq hx0 fun k8 A5 c5 A6 c6 u8 hq hr=>⟨A5,_,c5,A6,_,c6,rfl,?_⟩;have hnq:=bC (zg a m);have hna:=h.2;refine aXj (K:=n+1) (hx.1.up u8) hq.1 oq oq oq fun k10 A7 c7 u10 hs hsl=>⟨A7,_,c7,rfl,?_⟩;refine vH (s:=1) hs oq oq fun k12 A8 c8 u12 hl=>⟨A8,_,c8,rfl,?_⟩;have hny:=bC (zg (m+a/m) (2^1));refine jI hl (((hx.up u8).up u10).up u12) oq oq fun k14 u14=>⟨_,rfl,fun ho=>?_,fun ho=>?_⟩
  ·have ho:=aNn ho;intro k15 u15;have v:=(((u8.trans u10).trans u12).trans u14).trans u15;exact C k15 A4 c4 m (u6.trans v) (aAn hx0 ho) hxa (hx.up v)
  ·have ho:=aFy ho;intro k16 u16;have hlo:=aIk (a:=a) hx0;refine⟨_,ho,A8,_,c8,rfl,rfl,(hl.up u14).up u16,?_,hlo,oq⟩;refine jr fun e=>?_;have e:(m+a/m) / 2=0:=e;rw [e]at hlo;omega
end
end Go.Proofs.YtmifbgccpdmjpaaGreat.W32

namespace Go.Proofs.YtmifbgccpdmjpaaGreat
open Num Plain
def nn (x:Q4):Prop:=0≤C.sg x.toQ
theorem iK {x y:Q4}(hx:nn x) (hy:nn y):nn (x.add y):=by
 unfold nn at *
 rw [oM];rcases C.aS x.toQ with ⟨e,h⟩|⟨e,h⟩|⟨e,h⟩
 ·rw [h,show (0:Q23)+y.toQ=y.toQ by generalize y.toQ=q;refine Q23.ext' (Q2.ext' ?_ ?_) (Q2.ext' ?_ ?_) <;> (simp only [Q23.add_re,Q23.add_im,Q23.zero_re,Q23.zero_im,Q2.add_re,Q2.add_im,Q2.zero_re,Q2.zero_im];grind)];exact hy
 ·rcases C.aS y.toQ with ⟨e',h'⟩|⟨e',h'⟩|⟨e',h'⟩
  ·rw [h',show x.toQ+(0:Q23)=x.toQ by generalize x.toQ=q;refine Q23.ext' (Q2.ext' ?_ ?_) (Q2.ext' ?_ ?_) <;> (simp only [Q23.add_re,Q23.add_im,Q23.zero_re,Q23.zero_im,Q2.add_re,Q2.add_im,Q2.zero_re,Q2.zero_im];grind)];exact hx
  ·rw [C.eS (C.add h h')];decide
  ·omega
 ·omega
theorem tG {x y:Q4}(hx:C.sg x.toQ=1) (hy:nn y):C.sg (x.add y).toQ=1:=by
 unfold nn at hy;rw [oM];rcases C.aS x.toQ with ⟨e,h⟩|⟨e,h⟩|⟨e,h⟩
 ·omega
 ·rcases C.aS y.toQ with ⟨e',h'⟩|⟨e',h'⟩|⟨e',h'⟩
  ·rw [h',show x.toQ+(0:Q23)=x.toQ by generalize x.toQ=q;refine Q23.ext' (Q2.ext' ?_ ?_) (Q2.ext' ?_ ?_) <;> (simp only [Q23.add_re,Q23.add_im,Q23.zero_re,Q23.zero_im,Q2.add_re,Q2.add_im,Q2.zero_re,Q2.zero_im];grind)];exact hx
  ·exact C.eS (C.add h h')
  ·omega
 ·omega
theorem aZy {s t:Int}(hs:s=0∨s=1∨s=-1) (ht:t=0∨t=1∨t=-1) (h:0≤s) (h':0≤t):0≤s*t:=by
 rcases hs with rfl|rfl|rfl <;> rcases ht with rfl|rfl|rfl <;> simp_all
theorem kU {x y:Q4}(hx:nn x) (hy:nn y):nn (x.mul y):=by
 unfold nn at *
 rw [eO,C.xW];exact aZy (C.lB _) (C.lB _) hx hy
theorem vQ {x y:Q4}(h:nn (x.mul y)) (hy:C.sg y.toQ=1):nn x:=by
 unfold nn at *
 rw [eO,C.xW,hy,Int.mul_one]at h;exact h
def sg2G (a b:Rat):Int:=cQ a.num.sign b.num.sign (a*a-2*(b*b)).num.sign
theorem rU (a b:Rat):B.sg (⟨a,b⟩:Q2)=sg2G a b:=by rw [←aQm,tU,tU,tU];rfl
def sgG (v:Q4):Int:=cQ (sg2G v.a v.b) (sg2G v.c v.d) (sg2G (v.a*v.a+2*(v.b*v.b)-3*(v.c*v.c+2*(v.d*v.d))) (v.a*v.b+v.b*v.a-3*(v.c*v.d+v.d*v.c)))
theorem aDx (v:Q4):C.sg v.toQ=sgG v:=by
 unfold Q4.toQ e4;rw [←xX,rU,rU];have e:(⟨v.a,v.b⟩:Q2)*⟨v.a,v.b⟩-3*((⟨v.c,v.d⟩:Q2)*⟨v.c,v.d⟩)=⟨v.a*v.a+2*(v.b*v.b)-3*(v.c*v.c+2*(v.d*v.d)),v.a*v.b+v.b*v.a-3*(v.c*v.d+v.d*v.c)⟩:=by
  refine Q2.ext' ?_ ?_ <;> simp only [Q2.sub_re,Q2.sub_im,Q2.mul_re,Q2.mul_im,Q2.three_re,Q2.three_im] <;> grind
 rw [e,rU];rfl
def w2:Q4:=⟨0,1,0,0⟩
def w3:Q4:=⟨0,0,1,0⟩
def w6:Q4:=⟨0,0,0,1⟩
theorem aRh:C.sg w2.toQ=1:=by rw [aDx];decide +kernel
theorem aRi:C.sg w3.toQ=1:=by rw [aDx];decide +kernel
theorem aRj:C.sg w6.toQ=1:=by rw [aDx];decide +kernel
theorem aXk:w2.mul w2=Q4.real 2:=by decide +kernel
theorem aXl:w3.mul w3=Q4.real 3:=by decide +kernel
theorem aXm:w6.mul w6=Q4.real 6:=by decide +kernel
theorem xQ (q:Rat):C.sg (Q4.real q).toQ=q.num.sign:=by
 unfold Q4.real Q4.toQ e4;have h0:B.sg (⟨0,0⟩:Q2)=0:=B.sg_zero;rw [←xX,h0,rU];show cQ (sg2G q 0) 0 _=_;have h1:sg2G q 0=q.num.sign:=by
  unfold sg2G cQ;rw [show (0:Rat).num.sign=0 from rfl];split <;> rename_i h
  ·rfl
  ·rw [od rfl]
 rw [h1];unfold cQ;split <;> rename_i h
 ·rfl
 ·rw [od rfl]
theorem eE {q:Rat}(h:0≤q):nn (Q4.real q):=by
 unfold nn;rw [xQ];have:=yd.2 h;rcases Int.lt_or_eq_of_le this with h|h
 ·rw [vj h];decide
 ·rw [←h];decide
theorem aGd {q:Rat}(h:nn (Q4.real q)):0≤q:=by
 unfold nn at h;rw [xQ]at h;exact yd.1 (Int.sign_nonneg_iff.1 h)
theorem tJ {q:Rat}(h:0<q):C.sg (Q4.real q).toQ=1:=by
 rw [xQ];exact vj (nY h)
theorem bDh (w:Q4) (r n:Rat) (h:w.mul w=Q4.real n):(w.sub (Q4.real r)).mul (w.add (Q4.real r))=Q4.real (n-r*r):=by
 have e:(w.sub (Q4.real r)).mul (w.add (Q4.real r))=(w.mul w).sub (Q4.real (r*r)):=by
  obtain⟨a,b,c,d⟩:=w;refine Q4.ext' ?_ ?_ ?_ ?_ <;> simp only [Q4.mul,Q4.sub,Q4.add,Q4.neg,Q4.real] <;> grind
 rw [e,h];refine Q4.ext' ?_ ?_ ?_ ?_ <;> simp only [Q4.sub,Q4.add,Q4.neg,Q4.real] <;> grind
theorem bCf (w:Q4) (r n:Rat) (h:w.mul w=Q4.real n):((Q4.real r).sub w).mul (w.add (Q4.real r))=Q4.real (r*r-n):=by
 have e:((Q4.real r).sub w).mul (w.add (Q4.real r))=(Q4.real (r*r)).sub (w.mul w):=by
  obtain⟨a,b,c,d⟩:=w;refine Q4.ext' ?_ ?_ ?_ ?_ <;> simp only [Q4.mul,Q4.sub,Q4.add,Q4.neg,Q4.real] <;> grind
 rw [e,h];refine Q4.ext' ?_ ?_ ?_ ?_ <;> simp only [Q4.sub,Q4.add,Q4.neg,Q4.real] <;> grind
section
variable {w x:Q4}{n r s p:Rat}
theorem aVm (hw:C.sg w.toQ=1) (hs:w.mul w=Q4.real n) (h0:0≤r) (h:r*r≤n):nn (w.sub (Q4.real r)):=by
 refine vQ ?_ (tG hw (eE h0));rw [bDh w r n hs];exact eE (by grind)
theorem aGe (hw:C.sg w.toQ=1) (hs:w.mul w=Q4.real n) (h0:0≤s) (h:n≤s*s):nn ((Q4.real s).sub w):=by
 refine vQ ?_ (tG hw (eE h0));rw [bCf w s n hs];exact eE (by grind)
def loT (p r s:Rat):Rat:=if p<0 then p*s else p*r
def hiT (p r s:Rat):Rat:=if p<0 then p*r else p*s
def oS (p:Rat):Rat:=if p<0 then -p else p
theorem aMf (p r e:Rat):hiT p r (r+e)-loT p r (r+e)=oS p*e:=by unfold hiT loT oS;split <;> grind
theorem cZ {x y:Q4}(h:nn x) (e:x=y):nn y:=e▸h
theorem yF (h1:nn (w.sub (Q4.real r))) (h2:nn ((Q4.real s).sub w)):nn (((Q4.real p).mul w).sub (Q4.real (loT p r s))):=by
 unfold loT;split <;> rename_i hp
 ·refine cZ (kU (eE (q:=-p) (by grind)) h2) ?_;refine Q4.ext' ?_ ?_ ?_ ?_ <;> simp only [Q4.mul,Q4.sub,Q4.add,Q4.neg,Q4.real] <;> grind
 ·refine cZ (kU (eE (q:=p) (by grind)) h1) ?_;refine Q4.ext' ?_ ?_ ?_ ?_ <;> simp only [Q4.mul,Q4.sub,Q4.add,Q4.neg,Q4.real] <;> grind
theorem yE (h1:nn (w.sub (Q4.real r))) (h2:nn ((Q4.real s).sub w)):nn ((Q4.real (hiT p r s)).sub ((Q4.real p).mul w)):=by
 unfold hiT;split <;> rename_i hp
 ·refine cZ (kU (eE (q:=-p) (by grind)) h1) ?_;refine Q4.ext' ?_ ?_ ?_ ?_ <;> simp only [Q4.mul,Q4.sub,Q4.add,Q4.neg,Q4.real] <;> grind
 ·refine cZ (kU (eE (q:=p) (by grind)) h2) ?_;refine Q4.ext' ?_ ?_ ?_ ?_ <;> simp only [Q4.mul,Q4.sub,Q4.add,Q4.neg,Q4.real] <;> grind
structure Apx (w:Q4) (r s:Rat):Prop where
 lo:nn (w.sub (Q4.real r))
 hi:nn ((Q4.real s).sub w)
def loB (x:Q4) (r2 s2 r3 s3 r6 s6:Rat):Rat:=x.a+loT x.b r2 s2+loT x.c r3 s3+loT x.d r6 s6
def hiB (x:Q4) (r2 s2 r3 s3 r6 s6:Rat):Rat:=x.a+hiT x.b r2 s2+hiT x.c r3 s3+hiT x.d r6 s6
variable {r2 s2 r3 s3 r6 s6:Rat}
theorem aUy (x:Q4) (l m n:Rat):((((Q4.real x.b).mul w2).sub (Q4.real l)).add (((Q4.real x.c).mul w3).sub (Q4.real m))).add (((Q4.real x.d).mul w6).sub (Q4.real n))=x.sub (Q4.real (x.a+l+m+n)):=by
 refine Q4.ext' ?_ ?_ ?_ ?_ <;> simp only [Q4.mul,Q4.sub,Q4.add,Q4.neg,Q4.real,w2,w3,w6] <;> grind
theorem aNs (x:Q4) (l m n:Rat):(((Q4.real l).sub ((Q4.real x.b).mul w2)).add ((Q4.real m).sub ((Q4.real x.c).mul w3))).add ((Q4.real n).sub ((Q4.real x.d).mul w6))=(Q4.real (x.a+l+m+n)).sub x:=by
 refine Q4.ext' ?_ ?_ ?_ ?_ <;> simp only [Q4.mul,Q4.sub,Q4.add,Q4.neg,Q4.real,w2,w3,w6] <;> grind
theorem aHa (x:Q4) (h2:Apx w2 r2 s2) (h3:Apx w3 r3 s3) (h6:Apx w6 r6 s6):nn (x.sub (Q4.real (loB x r2 s2 r3 s3 r6 s6))):=
 cZ (iK (iK (yF h2.lo h2.hi) (yF h3.lo h3.hi)) (yF h6.lo h6.hi)) (aUy x _ _ _)
theorem aGz (x:Q4) (h2:Apx w2 r2 s2) (h3:Apx w3 r3 s3) (h6:Apx w6 r6 s6):nn ((Q4.real (hiB x r2 s2 r3 s3 r6 s6)).sub x):=
 cZ (iK (iK (yE h2.lo h2.hi) (yE h3.lo h3.hi)) (yE h6.lo h6.hi)) (aNs x _ _ _)
theorem aCd (x:Q4) (e:Rat):hiB x r2 (r2+e) r3 (r3+e) r6 (r6+e)-loB x r2 (r2+e) r3 (r3+e) r6 (r6+e)=(oS x.b+oS x.c+oS x.d)*e:=by
 have h1:=aMf x.b r2 e;have h2:=aMf x.c r3 e;have h3:=aMf x.d r6 e;unfold hiB loB
 grind
theorem aQl {lo:Rat}(h:nn (x.sub (Q4.real lo))) (hl:0<lo):C.sg x.toQ=1:=by
 have:=tG (tJ hl) h
 rwa [show (Q4.real lo).add (x.sub (Q4.real lo))=x by refine Q4.ext' ?_ ?_ ?_ ?_ <;> simp only [Q4.sub,Q4.add,Q4.neg,Q4.real] <;> grind]at this
theorem aQk {hi:Rat}(h:nn ((Q4.real hi).sub x)) (hl:hi<0):C.sg x.toQ=-1:=by
 have:=tG (tJ (q:=-hi) (by grind)) h;rw [show (Q4.real (-hi)).add ((Q4.real hi).sub x)=x.neg by refine Q4.ext' ?_ ?_ ?_ ?_ <;> simp only [Q4.sub,Q4.add,Q4.neg,Q4.real] <;> grind,aWj,C.aBm]at this;omega
end
def ab (u:Q4) (c:Rat):Prop:=nn ((Q4.real c).sub u)∧nn ((Q4.real c).add u)
theorem aFv {x:Q4}(h:nn ((Q4.real 2).mul x)):nn x:=by
 unfold nn at *
 rw [eO,C.xW,tJ oz,Int.one_mul]at h;exact h
section
variable {u v:Q4}{c d:Rat}
theorem oR (h:ab u c) (h':ab v d):ab (u.mul v) (c*d):=by
 constructor
 ·refine aFv (cZ (iK (kU h.1 h'.2) (kU h.2 h'.1)) ?_);refine Q4.ext' ?_ ?_ ?_ ?_ <;> simp only [Q4.mul,Q4.sub,Q4.add,Q4.neg,Q4.real] <;> grind
 ·refine aFv (cZ (iK (kU h.1 h'.1) (kU h.2 h'.2)) ?_);refine Q4.ext' ?_ ?_ ?_ ?_ <;> simp only [Q4.mul,Q4.sub,Q4.add,Q4.neg,Q4.real] <;> grind
theorem aCb (h:ab u c) (h':ab v d):ab (u.add v) (c+d):=by
 constructor
 ·refine cZ (iK h.1 h'.1) ?_;refine Q4.ext' ?_ ?_ ?_ ?_ <;> simp only [Q4.sub,Q4.add,Q4.neg,Q4.real] <;> grind
 ·refine cZ (iK h.2 h'.2) ?_;refine Q4.ext' ?_ ?_ ?_ ?_ <;> simp only [Q4.add,Q4.real] <;> grind
theorem rJ {q:Rat}(h1:-c≤q) (h2:q≤c):ab (Q4.real q) c:=by
 constructor
 ·refine cZ (eE (q:=c-q) (by grind)) ?_;refine Q4.ext' ?_ ?_ ?_ ?_ <;> simp only [Q4.sub,Q4.add,Q4.neg,Q4.real] <;> grind
 ·refine cZ (eE (q:=c+q) (by grind)) ?_;refine Q4.ext' ?_ ?_ ?_ ?_ <;> simp only [Q4.add,Q4.real] <;> grind
theorem aVl {q:Rat}(h:ab (Q4.real q) c):-c≤q∧q≤c:=by
 have h1:=aGd (cZ (y:=Q4.real (c-q)) h.1 (by refine Q4.ext' ?_ ?_ ?_ ?_ <;> simp only [Q4.sub,Q4.add,Q4.neg,Q4.real] <;> grind));have h2:=aGd (cZ (y:=Q4.real (c+q)) h.2 (by refine Q4.ext' ?_ ?_ ?_ ?_ <;> simp only [Q4.add,Q4.real] <;> grind));constructor <;> grind
theorem wK {w:Q4}{n:Rat}(hw:C.sg w.toQ=1) (hs:w.mul w=Q4.real n) (h0:0≤c) (h:n≤c*c):ab w c:=by
 refine⟨aGe hw hs h0 h,?_⟩;have:=tG hw (eE h0);unfold nn;rw [show (Q4.real c).add w=w.add (Q4.real c) by refine Q4.ext' ?_ ?_ ?_ ?_ <;> simp only [Q4.add,Q4.real] <;> grind,this];decide
theorem aWq (x:Q4):(((Q4.real x.a).add ((Q4.real x.b).mul w2)).add ((Q4.real x.c).mul w3)).add ((Q4.real x.d).mul w6)=x:=by
 refine Q4.ext' ?_ ?_ ?_ ?_ <;> simp only [Q4.mul,Q4.add,Q4.real,w2,w3,w6] <;> grind
theorem rZ {x:Q4}{M:Rat}(a1:-M≤x.a) (a2:x.a≤M) (b1:-M≤x.b) (b2:x.b≤M) (c1:-M≤x.c) (c2:x.c≤M) (d1:-M≤x.d) (d2:x.d≤M):ab x (8*M):=by
 have h:=aCb (aCb (aCb (rJ a1 a2) (oR (rJ b1 b2) (wK aRh aXk (c:=2) oz (by decide +kernel)))) (oR (rJ c1 c2) (wK aRi aXl (c:=2) oz (by decide +kernel)))) (oR (rJ d1 d2) (wK aRj aXm (c:=3) oz (by decide +kernel)));rw [aWq,show M+M*2+M*2+M*3=8*M by grind]at h;exact h
theorem aXv {x:Q4}{M:Rat}(a1:-M≤x.a) (a2:x.a≤M) (b1:-M≤x.b) (b2:x.b≤M) (c1:-M≤x.c) (c2:x.c≤M) (d1:-M≤x.d) (d2:x.d≤M):ab x.cnj (8*M*(8*M)*(8*M)):=by
 unfold Q4.cnj;refine oR (oR (rZ ?_ ?_ ?_ ?_ ?_ ?_ ?_ ?_) (rZ ?_ ?_ ?_ ?_ ?_ ?_ ?_ ?_)) (rZ ?_ ?_ ?_ ?_ ?_ ?_ ?_ ?_) <;> simp only [Q4.t1,Q4.t2] <;> grind
end
def isI (q:Rat):Prop:=∃n:Int,q=n
theorem isI.add {p q:Rat}(h:isI p) (h':isI q):isI (p+q):=by obtain⟨m,rfl⟩:=h;obtain⟨n,rfl⟩:=h';exact⟨m+n,(Rat.intCast_add m n).symm⟩
theorem isI.mul {p q:Rat}(h:isI p) (h':isI q):isI (p*q):=by obtain⟨m,rfl⟩:=h;obtain⟨n,rfl⟩:=h';exact⟨m*n,(xr m n).symm⟩
theorem isI.neg {p:Rat}(h:isI p):isI (-p):=by obtain⟨m,rfl⟩:=h;exact⟨-m,(ke m).symm⟩
theorem isI_two:isI 2:=⟨2,rfl⟩
theorem isI_three:isI 3:=⟨3,rfl⟩
theorem isI_six:isI 6:=⟨6,rfl⟩
structure isI4 (x:Q4):Prop where
 a:isI x.a
 b:isI x.b
 c:isI x.c
 d:isI x.d
theorem isI4.mul {x y:Q4}(h:isI4 x) (g:isI4 y):isI4 (x.mul y) where
 a:=(((h.a.mul g.a).add (isI_two.mul (h.b.mul g.b))).add (isI_three.mul (h.c.mul g.c))).add (isI_six.mul (h.d.mul g.d))
 b:=((h.a.mul g.b).add (h.b.mul g.a)).add (isI_three.mul ((h.c.mul g.d).add (h.d.mul g.c)))
 c:=((h.a.mul g.c).add (h.c.mul g.a)).add (isI_two.mul ((h.b.mul g.d).add (h.d.mul g.b)))
 d:=(((h.a.mul g.d).add (h.d.mul g.a)).add (h.b.mul g.c)).add (h.c.mul g.b)
theorem isI4.t1 {x:Q4}(h:isI4 x):isI4 x.t1:=⟨h.a,h.b.neg,h.c,h.d.neg⟩
theorem isI4.t2 {x:Q4}(h:isI4 x):isI4 x.t2:=⟨h.a,h.b,h.c.neg,h.d.neg⟩
theorem isI4.cnj {x:Q4}(h:isI4 x):isI4 x.cnj:=(h.t1.mul h.t2).mul h.t1.t2
theorem pM (s t:Rat) (x y:Q4):((Q4.real s).mul x).mul ((Q4.real t).mul y)=(Q4.real (s*t)).mul (x.mul y):=by
 refine Q4.ext' ?_ ?_ ?_ ?_ <;> simp only [Q4.mul,Q4.real] <;> grind
theorem aQg (s:Rat) (x:Q4):((Q4.real s).mul x).t1=(Q4.real s).mul x.t1:=by
 refine Q4.ext' ?_ ?_ ?_ ?_ <;> simp only [Q4.mul,Q4.real,Q4.t1] <;> grind
theorem aBj (s:Rat) (x:Q4):((Q4.real s).mul x).t2=(Q4.real s).mul x.t2:=by
 refine Q4.ext' ?_ ?_ ?_ ?_ <;> simp only [Q4.mul,Q4.real,Q4.t2] <;> grind
theorem aKj (s:Rat) (x:Q4):((Q4.real s).mul x).cnj=(Q4.real (s*s*s)).mul x.cnj:=by
 unfold Q4.cnj;rw [aQg,aBj,aBj,pM,pM]
theorem aDv (s:Rat) (x:Q4):(((Q4.real s).mul x).mul ((Q4.real s).mul x).cnj).a=s*(s*s*s)*(x.mul x.cnj).a:=by
 rw [aKj,pM];generalize x.mul x.cnj=y;simp only [Q4.mul,Q4.real]
 grind
theorem aIm (x:Q4):x.mul x.cnj=Q4.real (x.mul x.cnj).a:=by
 obtain⟨h1,h2,h3⟩:=x.cnj_norm;exact Q4.ext' rfl h1 h2 h3
theorem rM (q:Rat):isI ((q.den:Rat)*q):=⟨q.num,by rw [Rat.mul_comm];exact iD q⟩
theorem rO (n:Nat):isI (n:Rat):=⟨n,by rw [xi]⟩
theorem sZ (q:Rat) {M:Nat}(h:q.num.natAbs≤M):-(M:Rat)≤q∧q≤(M:Rat):=by
 have hd:(1:Rat)≤(q.den:Rat):=by
  have:=q.den_pos;have h1:((1:Nat):Rat)≤(q.den:Rat):=xe.2 this;exact h1
 have e:=iD q;have h1:(q.num:Rat)≤((M:Int):Rat):=we.2 oq;have h2:((-(M:Int):Int):Rat)≤(q.num:Rat):=we.2 oq;rw [ke,xi]at h2;rw [xi]at h1;have hM:(0:Rat)≤(M:Rat):=Rat.natCast_nonneg;constructor
 ·refine Rat.not_lt.1 fun hq=>?_;have h3:q*(q.den:Rat)≤q*1:=by
   have:=xt hd (c:=-q) (by grind)
   grind
  grind
 ·refine Rat.not_lt.1 fun hq=>?_;have h3:q*1≤q*(q.den:Rat):=xt hd (by grind)
  grind
structure Parts4 (x:Q4) (M:Nat):Prop where
 a:x.a.num.natAbs≤M∧x.a.den≤M
 b:x.b.num.natAbs≤M∧x.b.den≤M
 c:x.c.num.natAbs≤M∧x.c.den≤M
 d:x.d.num.natAbs≤M∧x.d.den≤M
theorem wL {p:Rat}{M:Nat}(h:p.num.natAbs≤M):oS p≤(M:Rat):=by
 obtain⟨h1,h2⟩:=sZ p h;unfold oS;split <;> grind
theorem aCz (x:Q4) {M:Nat}(h:Parts4 x M):∃D:Nat,0<D∧D≤M*M*M*M∧isI ((D:Rat)*((D:Rat)*(D:Rat)*(D:Rat))*(x.mul x.cnj).a):=by
 refine⟨x.a.den*x.b.den*x.c.den*x.d.den,?_,?_,?_⟩
 ·exact zw (zw (zw x.a.den_pos x.b.den_pos) x.c.den_pos) x.d.den_pos
 ·exact zl (zl (zl h.a.2 h.b.2) h.c.2) h.d.2
 ·rw [←aDv];have h4:isI4 ((Q4.real ((x.a.den*x.b.den*x.c.den*x.d.den:Nat):Rat)).mul x):=by
   have ha:=rM x.a;have hb:=rM x.b;have hc:=rM x.c;have hd:=rM x.d;have na:=rO x.a.den;have nb:=rO x.b.den;have nc:=rO x.c.den;have nd:=rO x.d.den;rw [zx,zx,zx];generalize (x.a.den:Rat)=p at *
   generalize (x.b.den:Rat)=q at *
   generalize (x.c.den:Rat)=r at *
   generalize (x.d.den:Rat)=s at *
   constructor
   ·have:=((ha.mul nb).mul nc).mul nd
    rwa [show p*x.a*q*r*s=((Q4.real (p*q*r*s)).mul x).a by simp only [Q4.mul,Q4.real];grind]at this
   ·have:=((hb.mul na).mul nc).mul nd
    rwa [show q*x.b*p*r*s=((Q4.real (p*q*r*s)).mul x).b by simp only [Q4.mul,Q4.real];grind]at this
   ·have:=((hc.mul na).mul nb).mul nd
    rwa [show r*x.c*p*q*s=((Q4.real (p*q*r*s)).mul x).c by simp only [Q4.mul,Q4.real];grind]at this
   ·have:=((hd.mul na).mul nb).mul nc
    rwa [show s*x.d*p*q*r=((Q4.real (p*q*r*s)).mul x).d by simp only [Q4.mul,Q4.real];grind]at this
  exact (h4.mul h4.cnj).a
theorem aYw {q:Rat}(h:isI q) (h0:q≠0):q≤-1∨1≤q:=by
 obtain⟨n,rfl⟩:=h;have hn:n≠0:=fun e=>h0 (by rw [e];rfl);rcases Int.lt_or_gt_of_ne hn with h|h
 ·left
  have:((n:Int):Rat)≤((-1:Int):Rat):=we.2 oq;exact this
 ·right
  have:((1:Int):Rat)≤((n:Int):Rat):=we.2 oq;exact this
theorem aCc {x:Q4}{M:Nat}{lo hi e:Rat}(hx:x≠Q4.zero) (hp:Parts4 x M) (he:0≤e) (hl:nn (x.sub (Q4.real lo))) (hh:nn ((Q4.real hi).sub x))
 (hg:hi-lo=(oS x.b+oS x.c+oS x.d)*e) (h1:lo≤0) (h2:0≤hi):1≤((1536*M^20:Nat):Rat)*e:=by
 have gap:hi-lo≤3*(M:Rat)*e:=by
  rw [hg];refine vo ?_ he;have:=wL hp.b.1;have:=wL hp.c.1;have:=wL hp.d.1
  grind
 have hab:ab x (3*(M:Rat)*e):=by
  constructor
  ·refine cZ (iK hh (eE (q:=3*(M:Rat)*e-hi) (by grind))) ?_;refine Q4.ext' ?_ ?_ ?_ ?_ <;> simp only [Q4.sub,Q4.add,Q4.neg,Q4.real] <;> grind
  ·refine cZ (iK hl (eE (q:=3*(M:Rat)*e+lo) (by grind))) ?_;refine Q4.ext' ?_ ?_ ?_ ?_ <;> simp only [Q4.sub,Q4.add,Q4.neg,Q4.real] <;> grind
 obtain⟨a1,a2⟩:=sZ x.a hp.a.1;obtain⟨b1,b2⟩:=sZ x.b hp.b.1;obtain⟨c1,c2⟩:=sZ x.c hp.c.1;obtain⟨d1,d2⟩:=sZ x.d hp.d.1;have hN:=oR hab (aXv a1 a2 b1 b2 c1 c2 d1 d2);rw [aIm]at hN;obtain⟨n1,n2⟩:=aVl hN;have hne:=Q4.norm_ne hx;obtain⟨D,hD,hDM,hI⟩:=aCz x hp;generalize (x.mul x.cnj).a=N at n1 n2 hne hI;have hD0:(0:Rat)<(D:Rat):=Rat.natCast_pos.2 hD;have hDp:(0:Rat)<(D:Rat)*((D:Rat)*(D:Rat)*(D:Rat)):=Rat.mul_pos hD0 (Rat.mul_pos (Rat.mul_pos hD0 hD0) hD0);have hz:(D:Rat)*((D:Rat)*(D:Rat)*(D:Rat))*N≠0:=fun h=>by
  rcases Rat.mul_eq_zero.1 h with h|h
  ·grind
  ·exact hne h
 have hge:=aYw hI hz;have hDle:(D:Rat)*((D:Rat)*(D:Rat)*(D:Rat))≤((M^16:Nat):Rat):=by
  rw [←zx,←zx,←zx];refine xe.2 ?_;have h:=zl hDM (zl (zl hDM hDM) hDM);have e:M*M*M*M*(M*M*M*M*(M*M*M*M)*(M*M*M*M))=M^16:=by
   simp only [qa,xy,zy,jh]
  rw [e]at h;exact h
 have hc:0≤3*(M:Rat)*e*(8*(M:Rat)*(8*(M:Rat))*(8*(M:Rat))):=by grind
 have key:((M^16:Nat):Rat)*(3*(M:Rat)*e*(8*(M:Rat)*(8*(M:Rat))*(8*(M:Rat))))=((1536*M^20:Nat):Rat)*e:=by
  have e1:((1536*M^20:Nat):Rat)=1536*((M^16:Nat):Rat)*((M:Rat)*(M:Rat)*(M:Rat)*(M:Rat)):=by
   rw [←zx,←zx,←zx,show (1536:Rat)=((1536:Nat):Rat) from rfl,←zx,←zx]
   congr 1
   rw [show (20:Nat)=16+4 from rfl,ju,jh]
   congr 1
   simp only [qa,xy,zy,jh]
  rw [e1];generalize ((M^16:Nat):Rat)=P;generalize (M:Rat)=m
  grind
 rw [←key];generalize 3*(M:Rat)*e*(8*(M:Rat)*(8*(M:Rat))*(8*(M:Rat)))=c at *
 generalize (D:Rat)*((D:Rat)*(D:Rat)*(D:Rat))=d at *
 have h3:d*c≤((M^16:Nat):Rat)*c:=vo hDle hc;have h4:d*N≤d*c:=xt n2 (yn hDp);have h5:d*-c≤d*N:=xt n1 (yn hDp);rcases hge with hge|hge <;> grind
theorem zA {x:Q4}{K k:Nat}{lo hi:Rat}(hx:x≠Q4.zero) (hp:Parts4 x (2^(32*K))) (hl:nn (x.sub (Q4.real lo))) (hh:nn ((Q4.real hi).sub x))
 (hg:hi-lo=(oS x.b+oS x.c+oS x.d)*(1/((2^k:Nat):Rat))) (h1:lo≤0) (h2:0≤hi):k≤640*K+11:=by
 have hP:(0:Rat)<((2^k:Nat):Rat):=Rat.natCast_pos.2 (oc oz);have he:(0:Rat)≤1/((2^k:Nat):Rat):=by
  rw [wz,Rat.one_mul];exact yn (Rat.inv_pos.2 hP)
 have h:=aCc hx hp he hl hh hg h1 h2;have h3:((2^k:Nat):Rat)≤((1536*(2^(32*K))^20:Nat):Rat):=by
  have:=vo h (yn hP);rw [Rat.one_mul,Rat.mul_assoc,Rat.div_mul_cancel (by grind),Rat.mul_one]at this;exact this
 have h4:=xe.1 h3;rw [←vd]at h4;have h5:2^k<2^(11+32*K*20):=by
  rw [ju];refine ji h4 (jn oz (oc oz))
 have:=(Nat.pow_lt_pow_iff_right oz).1 h5;omega
end Go.Proofs.YtmifbgccpdmjpaaGreat

namespace Go.Proofs.YtmifbgccpdmjpaaGreat.W32
open IntKind (wrap)
open Go.RowKit Num Plain
open Sy (Up Sees CallsG Seg)
section
variable {k k':World}{A A':Option Addr}{n c m n' c' m' a b l l':Nat}{cs cs' c0 c1:Array Value}{R:World→Value→Prop}{x y q p r lo hi:Rat}{K L M:Nat}{v v':Q4}
theorem vR (s:Nat):nw (1*2^s)≤s/32+1:=by
 refine aQ ?_;rw [zy,lZ,←vd];exact Nat.pow_lt_pow_right oz oq
def aCr (n kk:Nat) (q:Rat):Prop:=∃r:Nat,q=(r:Rat) / ((2^kk:Nat):Rat)∧r*r≤n*2^(2*kk)∧n*2^(2*kk)<(r+1)*(r+1)
theorem aVn {n kk:Nat}(hn:n≤6) (hk:kk≤1000000000) (C:∀k' ds q,Up k k'→aCr n kk q→QV k' ds q (kk/32+2)→R k' (.agg ds)) :
 Cl k 369 #[.int .u64 (n:Int),.int .i64 (kk:Int)] R:=by
 intro k0 u0;have w1:wrap .i64 (2*(kk:Int))=((2*kk:Nat):Int):=by rw [je];omega
 refine aPs (aAl (x:=n) oq fun k1 A1 c1 u1 h1=>⟨A1,_,c1,rfl,?_⟩);have hn1:nw n≤1:=aQ (by rw [lZ];omega);rw [w1];refine iX h1 oq oq fun k3 A3 c3 u3 h3=>⟨A3,_,c3,rfl,?_⟩;have hb:n*2^(2*kk)<2^(2*kk+3):=by
  rw [ju,qx];exact Nat.mul_lt_mul_of_pos_left oq (oc oz)
 have hn3:nw (n*2^(2*kk))≤kk/16+2:=by
  refine aQ (qu hb ?_);rw [lZ,←vd];exact qh oz oq
 refine aZp h3 oq fun k5 A5 c5 r u5 r1 r2 h5=>⟨A5,_,c5,rfl,?_⟩;intro p k6 u6 hp;refine iX (k:=k6) (s:=kk) (mV hp) oz oq fun k8 A8 c8 u8 h8=>⟨A8,_,c8,rfl,?_⟩;have hr:r<2^(kk+2):=by
  refine vk fun hle=>?_;have h:=zl hle hle;rw [←ju]at h;have h2:2^(2*kk+3)≤2^(kk+2+(kk+2)):=qh oz oq;omega
 have hnr:nw r≤kk/32+2:=by
  refine aQ (qu hr ?_);rw [lZ,←vd];exact qh oz oq
 have hnp:=vR kk;refine mQ (K:=kk/32+2) ((h5.up u6).up u8) h8 (by rw [zy];exact oc oz) hnr oq oq (q:=(r:Rat) / ((2^kk:Nat):Rat)) ?_ fun k10 b A l c A' l' c' u10 hQ f1 f2=>⟨_,(QV.mk1 hQ f1 f2).seg,rfl,fun k11 u11=>C k11 _ _ (((((((u0.trans u1).trans u3).trans u5).trans u6).trans u8).trans u10).trans u11) ⟨r,rfl,r1,r2⟩ (QV.mk1 (hQ.up u11) f1 f2)⟩;rw [zy,wm];rfl
theorem aUz {kk:Nat}(hk1:0<kk) (hk:kk≤1000000000) (C:∀k' ds,Up k k'→QV k' ds (1/((2^kk:Nat):Rat)) (kk/32+2)→R k' (.agg ds)) :
 Cl k 368 #[.int .i64 (-(kk:Int))] R:=by
 intro k0 u0;have w1:wrap .i64 (0 - -(kk:Int))=(kk:Int):=by rw [je];omega
 refine aKa ⟨fun _=>?_,fun h=>absurd (ov h) oq⟩;intro p k1 u1 hp;rw [w1];refine iX (k:=k1) (s:=kk) (mV hp) oz oq fun k2 A2 c2 u2 h2=>⟨A2,_,c2,rfl,?_⟩;intro p3 k3 u3 hp3;have hnp:=vR kk;refine mQ (k:=k3) (K:=kk/32+2) (mV hp3) (h2.up u3) (by rw [zy];exact oc oz) oq oq oq (q:=1/((2^kk:Nat):Rat)) ?_ fun k10 b A l c A' l' c' u10 hQ f1 f2=>⟨_,(QV.mk1 hQ f1 f2).seg,rfl,fun k11 u11=>C k11 _ (((((u0.trans u1).trans u2).trans u3).trans u10).trans u11) (QV.mk1 (hQ.up u11) f1 f2)⟩;rw [zy,wm];rfl
theorem sA {w:Q4}{n kk:Nat}(hw:C.sg w.toQ=1) (hs:w.mul w=Q4.real ((n:Nat):Rat)) (h:aCr n kk q):Apx w q (q+1/((2^kk:Nat):Rat)):=by
 obtain⟨r,rfl,h1,h2⟩:=h;have hP:(0:Rat)<((2^kk:Nat):Rat):=Rat.natCast_pos.2 (oc oz);have e1:2^(2*kk)=2^kk*2^kk:=by rw [←ju];congr 1;omega
 rw [e1]at h1 h2;have h1:=xe.2 h1;have h2:=xe.2 (wj h2);rw [zx,zx,zx]at h1;rw [zx,zx,zx,Rat.natCast_add,show ((1:Nat):Rat)=1 from rfl]at h2;have hr:(0:Rat)≤(r:Rat):=Rat.natCast_nonneg;generalize ((2^kk:Nat):Rat)=P at *
 generalize (r:Rat)=r at *
 generalize (n:Rat)=n at *
 have hi:(0:Rat)<P⁻¹:=Rat.inv_pos.2 hP;have hPi:P*P⁻¹=1:=Rat.mul_inv_cancel _ (by grind);rw [wz,wz,Rat.one_mul];generalize P⁻¹=i at *
 have hii:0≤i*i:=yn (Rat.mul_pos hi hi);have h3:=vo h1 hii;have h4:=vo h2 hii;have e2:n*(P*P)*(i*i)=n:=by
  have:n*(P*P)*(i*i)=n*((P*i)*(P*i)):=by grind
  rw [this,hPi];grind
 rw [e2]at h3 h4;refine⟨aVm hw hs (Rat.mul_nonneg hr (yn hi)) ?_,aGe hw hs ?_ ?_⟩
 ·grind
 ·have:=Rat.mul_nonneg hr (yn hi)
  grind
 ·grind
theorem rneg {q:Rat}:q.num<0↔q<0:=by rw [←Int.not_le,yd,Rat.not_le]
theorem rpos {q:Rat}:0<q.num↔0<q:=by
 constructor
 ·intro h;have h1:0≤q:=yd.1 oq;rcases Rat.le_iff_lt_or_eq.1 h1 with h2|h2
  ·exact h2
  ·rw [←h2]at h;exact absurd h oz
 ·exact nY
theorem aEa {q:Rat}:q.num.sign<0↔q<0:=by
 rw [←rneg];rcases Int.lt_trichotomy q.num 0 with h|h|h
 ·rw [vr h];exact⟨fun _=>h,fun _=>oz⟩
 ·rw [h];exact Iff.rfl
 ·rw [vj h];exact⟨fun h=>absurd h oz,fun h=>oq⟩
theorem aQp {q:Rat}:q.num.sign > 0↔0<q:=by
 rw [←rpos];rcases Int.lt_trichotomy q.num 0 with h|h|h
 ·rw [vr h];exact⟨fun h=>absurd h oz,fun h=>oq⟩
 ·rw [h];exact Iff.rfl
 ·rw [vj h];exact⟨fun _=>h,fun _=>oz⟩
theorem aFt (p:Rat):(decide (p.num.sign<0))=decide (p<0):=decide_eq_decide.2 aEa
theorem bstep {Q:World→Array Value→Array Value→Prop}{B:Option Addr}{l6 i n kk:Nat}{cx c7:Array Value}(hA:∃b o,B=some ⟨b,o,none⟩) (hi6:i<l6) (hrd:∀k',Up k k'→Sy.ReadAt k'.cell? B (Int.toNat (i:Int)*1+0) 1 (Value.int .u64 (n:Int)))
 (hn:n≤6) (hk:kk≤1000000000) (hx:QV k cx p K) (h7:QV k c7 (1/((2^kk:Nat):Rat)) (kk/32+2)) (h0:QV k c0 lo L) (h1:QV k c1 hi L) (hL:L≤1000000000) (hK:K≤1000000000)
 (C:∀k' d0 d1 r,Up k k'→aCr n kk r→QV k' d0 (lo+loT p r (r+1/((2^kk:Nat):Rat))) (L+K+kk/16+6)→QV k' d1 (hi+hiT p r (r+1/((2^kk:Nat):Rat))) (L+K+kk/16+6)→Q k' d0 d1) :
 (∃b o,B=some ⟨b,o,none⟩)∧((0:Int)≤(i:Int)∧(i:Int)<(l6:Nat))∧
 ∃n8,Sy.ReadAt k.cell? B (Int.toNat (i:Int)*1+0) 1 (Value.int .u64 n8)∧
 Cl k 369 #[Value.int .u64 n8,Value.int .i64 (kk:Int)] fun k4 r3=>Gt 3 r3 fun cs9=>
 Cl k4 199 #[Value.agg cx,Value.agg cs9] fun k6 r5=>Gt 3 r5 fun cs10=>
 Cl k6 109 #[Value.agg cs9,Value.agg c7] fun k8 r7=>Gt 3 r7 fun cs11=>
 Cl k8 199 #[Value.agg cx,Value.agg cs11] fun k10 r9=>Gt 3 r9 fun cs12=>
 Cl k10 185 #[Value.agg cx] fun k12 r11=>∃n13,some (Value.int .i64 n13)=some r11∧
 ((decide ((n13:Int)<0))=true→
 (Cl k12 109 #[Value.agg c0,Value.agg cs12] fun k14 r13=>Gt 3 r13 fun cs14=>
 Cl k14 109 #[Value.agg c1,Value.agg cs10] fun k16 r15=>Gt 3 r15 fun cs15=>Q k16 cs14 cs15))∧
 ((decide ((n13:Int)<0))=false→
 (Cl k12 109 #[Value.agg c0,Value.agg cs10] fun k76 r75=>Gt 3 r75 fun cs14=>
 Cl k76 109 #[Value.agg c1,Value.agg cs12] fun k78 r77=>Gt 3 r77 fun cs15=>Q k78 cs14 cs15)):=by
  refine⟨hA,⟨oq,oq⟩,(n:Int),hrd k (Up.refl k),?_⟩;refine aVn hn hk fun k1 d1 r u1 hr q1=>⟨d1,q1.seg,rfl,?_⟩;refine dE (hx.up u1) q1 oq fun k2 d2 u2 q2=>⟨d2,q2.seg,rfl,?_⟩;refine dK (q1.up u2) ((h7.up u1).up u2) oq fun k3 d3 u3 q3=>⟨d3,q3.seg,rfl,?_⟩;refine dE (((hx.up u1).up u2).up u3) q3 oq fun k4 d4 u4 q4=>⟨d4,q4.seg,rfl,?_⟩;have u14:=((u1.trans u2).trans u3).trans u4;refine nB (hx.up u14) fun k5 u5=>⟨_,rfl,fun h=>?_,fun h=>?_⟩
  ·rw [aFt]at h;have hp:=ow h;refine dK ((h0.up u14).up u5) (q4.up u5) oq fun k6 d6 u6 q6=>⟨d6,q6.seg,rfl,?_⟩;refine dK (((h1.up u14).up u5).up u6) ((((q2.up u3).up u4).up u5).up u6) oq fun k7 d7 u7 q7=>⟨d7,q7.seg,rfl,?_⟩;refine C k7 d6 d7 r (((u14.trans u5).trans u6).trans u7) hr (((q6.up u7).cast ?_).mono oq) ((q7.cast ?_).mono oq)
   ·unfold loT;rw [od hp]
   ·unfold hiT;rw [od hp]
  ·rw [aFt]at h;have hp:=ov h;refine dK ((h0.up u14).up u5) (((q2.up u3).up u4).up u5) oq fun k6 d6 u6 q6=>⟨d6,q6.seg,rfl,?_⟩;refine dK (((h1.up u14).up u5).up u6) ((q4.up u5).up u6) oq fun k7 d7 u7 q7=>⟨d7,q7.seg,rfl,?_⟩;refine C k7 d6 d7 r (((u14.trans u5).trans u6).trans u7) hr (((q6.up u7).cast ?_).mono oq) ((q7.cast ?_).mono oq)
   ·unfold loT;rw [oh hp]
   ·unfold hiT;rw [oh hp]
theorem read64 {k:World}{p i n:Nat}(h:Sy.Blk k p 355 #[Value.int .u64 1,Value.int .u64 2,Value.int .u64 3,Value.int .u64 6]) (hv:(#[Value.int .u64 1,Value.int .u64 2,Value.int .u64 3,Value.int .u64 6]:Array Value)[i]?=some (Value.int .u64 (n:Int))) :
 ∀k',Up k k'→Sy.ReadAt k'.cell? (some ⟨p,0,none⟩) (Int.toNat (i:Int)*1+0) 1 (Value.int .u64 (n:Int)):=fun k' u=>by
 refine tI rfl (p:=i) ?_ oq;unfold Sy.cellAt;simp only [qt,(h.up u).cell,hv];rfl
theorem aLj {kk:Nat}(hx:SQ k cs v K) (hk1:0<kk) (hk:kk≤1000000000) (hK:K≤100000000)
 (C:∀k' d0 d1 r2 r3 r6,Up k k'→Apx w2 r2 (r2+1/((2^kk:Nat):Rat))→Apx w3 r3 (r3+1/((2^kk:Nat):Rat))→Apx w6 r6 (r6+1/((2^kk:Nat):Rat))→
   QV k' d0 (loB v r2 (r2+1/((2^kk:Nat):Rat)) r3 (r3+1/((2^kk:Nat):Rat)) r6 (r6+1/((2^kk:Nat):Rat))) (4*K+3*(kk/16)+18)→
   QV k' d1 (hiB v r2 (r2+1/((2^kk:Nat):Rat)) r3 (r3+1/((2^kk:Nat):Rat)) r6 (r6+1/((2^kk:Nat):Rat))) (4*K+3*(kk/16)+18)→R k' (.tuple #[.agg d0,.agg d1])) :
 Cl k 296 #[.agg cs,.int .i64 (kk:Int)] R:=by
 intro k0 u0;obtain⟨c0,c1,c2,c3,rfl,h0,h1,h2,h3⟩:=hx.up u0;replace C:=fun k' d0 d1 r2 r3 r6 u=>C k' d0 d1 r2 r3 r6 (u0.trans u);refine aDk h0.seg h1.seg h2.seg h3.seg fun p5 k1 u1 hb=>⟨_,_,_,rfl,?_⟩;rw [show wrap .i64 (0-(kk:Int))=-(kk:Int) by rw [je];omega];refine aUz hk1 hk fun k2 d2 u2 q2=>⟨d2,q2.seg,rfl,?_⟩;have v2:=u1.trans u2;replace C:=fun k' d0 d1 r2 r3 r6 u=>C k' d0 d1 r2 r3 r6 (v2.trans u);replace hb:=hb.up u2;replace h0:=h0.up v2;replace h1:=h1.up v2;replace h2:=h2.up v2;replace h3:=h3.up v2;clear u0 u1 u2 v2 hx;refine bstep (i:=1) (n:=2) ⟨_,_,rfl⟩ oz (read64 hb rfl) oz hk h1 q2 h0 h0 oq oq fun k4 e0 e1 r2 u4 a2 f0 f1=>?_;refine bstep (i:=2) (n:=3) ⟨_,_,rfl⟩ oz (read64 (hb.up u4) rfl) oz hk (h2.up u4) (q2.up u4) f0 f1 oq oq fun k5 e2 e3 r3 u5 a3 f2 f3=>?_;refine bstep (i:=3) (n:=6) ⟨_,_,rfl⟩ oz (read64 ((hb.up u4).up u5) rfl) oz hk ((h3.up u4).up u5) ((q2.up u4).up u5) f2 f3 oq oq fun k6 e4 e5 r6 u6 a6 f4 f5=>fun k7 u7=>?_;exact C k7 e4 e5 r2 r3 r6 (((u4.trans u5).trans u6).trans u7) (sA aRh aXk a2) (sA aRi aXl a3) (sA aRj aXm a6) ((f4.up u7).mono oq) ((f5.up u7).mono oq)
theorem QV.parts (h:QV k cs q K):q.num.natAbs≤2^(32*K)∧q.den≤2^(32*K):=by
 obtain⟨b,A,l,c,A',l',c',rfl,hQ,h1,h2⟩:=h;have e1:=hQ.n.1.lt;have e2:=hQ.d.1.lt;rw [lZ,←vd]at e1 e2;exact⟨qe (wj e1) (qh oz oq),qe (wj e2) (qh oz oq)⟩
theorem SQ.parts (h:SQ k cs v K):Parts4 v (2^(32*K)):=by
 obtain⟨c0,c1,c2,c3,rfl,h0,h1,h2,h3⟩:=h;exact⟨h0.parts,h1.parts,h2.parts,h3.parts⟩
theorem aWd (hx:SQ k cs v K) (hK:K≤100000) (C:∀k',Up k k'→R k' (.int .i64 (C.sg v.toQ))) :
 Cl k 187 #[.agg cs] R:=by
 intro k0 u0;replace hx:=hx.up u0;replace C:=fun k' u=>C k' (u0.trans u);clear u0;refine aKb hx.seg (aWh hx fun k1 u1=>⟨_,rfl,fun h=>fun k2 u2=>?_,fun h=>?_⟩)
 ·have h:=ow h;have:=C k2 (u1.trans u2)
  rwa [h,toQ_zero,Plain.C.sg_zero]at this
 ·have hne:=ov h;replace hx:=hx.up u1;replace C:=fun k' u=>C k' (u1.trans u);clear u1 h;refine⟨fun m k' vs=>∃kk:Nat,16≤kk∧kk≤1280*K+22+16∧m=1280*K+38-kk∧vs=[.int .i64 (kk:Int)],⟨1280*K+22,fun k' _=>⟨16,oq,oq,oq,rfl⟩⟩,?_⟩;rintro m k3 vs u3 ⟨kk,hk1,hk2,rfl,rfl⟩;refine⟨_,rfl,?_⟩;refine aLj (hx.up u3) oq oq oq fun k5 d0 d1 r2 r3 r6 u5 a2 a3 a6 q0 q1=>⟨d0,q0.seg,d1,q1.seg,rfl,?_⟩;have hlo:=aHa v a2 a3 a6;have hhi:=aGz v a2 a3 a6;have hgap:=aCd v (r2:=r2) (r3:=r3) (r6:=r6) (1/((2^kk:Nat):Rat));generalize loB v r2 _ r3 _ r6 _=lo at *
  generalize hiB v r2 _ r3 _ r6 _=hi at *
  refine nB q0 fun k6 u6=>⟨_,rfl,fun h=>fun k7 u7=>?_,fun h=>?_⟩
  ·have h:=ow h;have hp:0<lo:=aQp.1 h;have:=C k7 (((u3.trans u5).trans u6).trans u7)
   rwa [aQl hlo hp]at this
  ·have h:=ov h;have hp:lo≤0:=Rat.not_lt.1 fun h'=>h (aQp.2 h');refine nB (q1.up u6) fun k8 u8=>⟨_,rfl,fun h=>fun k9 u9=>?_,fun h=>fun k9 u9=>?_⟩
   ·have h:=ow h;have hq:hi<0:=aEa.1 h;have:=C k9 ((((u3.trans u5).trans u6).trans u8).trans u9)
    rwa [aQk hhi hq]at this
   ·have h:=ov h;have hq:0≤hi:=Rat.not_lt.1 fun h'=>h (aEa.2 h');have hb:=zA hne hx.parts hlo hhi hgap hp hq;refine⟨1280*K+38-2*kk,oq,2*kk,oq,oq,rfl,?_⟩;rw [show wrap .i64 (2*(kk:Int))=((2*kk:Nat):Int) by rw [je];omega]
theorem aZw (hx:SQ k cs v K) (hy:SQ k cs' v' L) (hK:K+L+1≤100000) (C:∀k',Up k k'→R k' (.int .i64 (C.sg (v.sub v').toQ))) :
 Cl k 77 #[.agg cs,.agg cs'] R:=by
 intro k0 u0;refine aPt hx.seg hy.seg (aQw (hx.up u0) (hy.up u0) oq fun k1 d1 u1 h1=>⟨d1,h1.seg,rfl,?_⟩);exact aWd h1 hK fun k3 u3=>⟨_,rfl,fun k4 u4=>C k4 (((u0.trans u1).trans u3).trans u4)⟩
end
