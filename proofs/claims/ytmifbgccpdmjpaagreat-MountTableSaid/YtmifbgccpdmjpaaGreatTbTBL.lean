/- Several texts in one. (Printed by prep.py.) -/
import Derived.Test.YtmifbgccpdmjpaaGreatTbWYC
namespace Go.Proofs.YtmifbgccpdmjpaaGreat
open Go.RowKit
open Sy (Up Sees CallsG Seg RowC FamC RowAt ReadAt ReadIn)
structure FamV {α:Type}(n:Nat) (len:Nat→Nat) (s:Nat) (P:Array Value→α→Prop) (F:Nat→Nat→α) (X Y:Array Value):Prop where
 sx:X.size=n
 sy:Y.size=n
 row:∀j,j<n→∃A c cs,X[j]?=some (.slice A (len j) c)∧len j≤c∧Y[j]?=some (.agg cs)∧ArrV (len j) s P cs (F j)
def Els2 {α:Type}(k:World) (A:Option Addr) (n m s:Nat) (P:Array Value→α→Prop) (F:Nat→Nat→α):Prop:=
 Els k A n 1 (fun a (g:Nat→α)=>∃B c,a=#[.slice B m c]∧m≤c∧Els k B m s P g) F
section
variable {α:Type}{k k':World}{A:Option Addr}{n m s i j l c:Nat}{len len':Nat→Nat}{P Q:Array Value→α→Prop}{F F':Nat→Nat→α}{X Y cs:Array Value}
theorem aAi (n:Nat):madeCells [Value.slice none 0 0].toArray (n*1)=Array.replicate n (.slice none 0 0):=by
 apply jo;intro i;rw [zq]
 by_cases hi:i<n
 ·simp [madeCells,hi,Nat.mod_one]
 ·rw [jq (by simp [madeCells];omega),Array.getElem?_eq_none (by simp;omega)]
theorem FamV.nils (n:Nat):FamV n (fun _=>0) s P F (Array.replicate n (.slice none 0 0)) (Array.replicate n (.agg #[])):=
 ⟨by simp,by simp,fun j hj=>⟨none,0,#[],by rw [vw,od hj],oy _,by rw [vw,od hj],ArrV.empty⟩⟩
theorem FamV.as (h:FamV n len s P F X Y) (hP:∀a v,P a v→Q a v) (hl:∀j,j<n→len' j=len j):FamV n len' s Q F X Y:=
 ⟨h.sx,h.sy,fun j hj=>by rw [hl j hj];obtain⟨A,c,cs,h1,h2,h3,h4⟩:=h.row j hj;exact⟨A,c,cs,h1,h2,h3,h4.mono hP⟩⟩
theorem FamV.congr (h:FamV n len s P F X Y) (e:∀j,j<n→∀p,p<len j→F j p=F' j p):FamV n len s P F' X Y:=
 ⟨h.sx,h.sy,fun j hj=>by obtain⟨A,c,cs,h1,h2,h3,h4⟩:=h.row j hj;exact⟨A,c,cs,h1,h2,h3,h4.congr (e j hj)⟩⟩
theorem FamV.mono (h:FamV n len s P F X Y) (hP:∀a v,P a v→Q a v):FamV n len s Q F X Y:=h.as hP fun _ _=>rfl
theorem FamV.get (h:FamV n len s P F X Y) (hx:X[j]?=some (.slice A l c)) (hy:Y[j]?=some (.agg cs)):l=len j∧len j≤c∧ArrV (len j) s P cs (F j):=by
 have hj:j<n:=by rw [←h.sx];exact (qs.1 hx).1
 obtain⟨B,d,ds,h1,h2,h3,h4⟩:=h.row j hj;rw [h1]at hx;rw [h3]at hy;injection hx with hx;injection hx with e1 e2 e3;injection hy with hy;injection hy with hy;subst e2 e3 hy;exact⟨rfl,h2,h4⟩
theorem FamV.set (h:FamV n len s P F X Y) (hj:j<n) (hP:∀a v,P a v→Q a v) (hc:l≤c) (ha:ArrV l s Q cs (F' j)) (hl:∀i,i<n→i≠j→len' i=len i) (hl':len' j=l) (hF:∀i,i<n→i≠j→F' i=F i) :
 FamV n len' s Q F' ((X.setIfInBounds j (.slice none 0 0)).setIfInBounds j (.slice A l c)) ((Y.setIfInBounds j (.agg #[])).setIfInBounds j (.agg cs)):=by
 refine⟨by simp [h.sx],by simp [h.sy],fun i hi=>?_⟩
 by_cases e:i=j
 ·subst e;rw [hl'];exact⟨A,c,cs,by simp [h.sx,hi],hc,by simp [h.sy,hi],ha⟩
 ·rw [hl i hi e,hF i hi e];obtain⟨B,d,ds,h1,h2,h3,h4⟩:=h.row i hi;refine⟨B,d,ds,?_,h2,?_,h4.mono hP⟩
  ·simp only [qj];rw [oh (fun e'=>e e'.symm),oh (fun e'=>e e'.symm)];exact h1
  ·simp only [qj];rw [oh (fun e'=>e e'.symm),oh (fun e'=>e e'.symm)];exact h3
theorem FamV.set1 (h:FamV n len s P F X Y) (hj:j<n) (hP:∀a v,P a v→Q a v) (hc:l≤c) (ha:ArrV l s Q cs (F' j)) (hl:∀i,i<n→i≠j→len' i=len i) (hl':len' j=l) (hF:∀i,i<n→i≠j→F' i=F i) :
 FamV n len' s Q F' (X.setIfInBounds j (.slice A l c)) (Y.setIfInBounds j (.agg cs)):=by
 have:=h.set (A:=A) hj hP hc ha hl hl' hF
 rwa [vv,vv]at this
theorem FamV.rowC (h:FamV n len s P F X Y):RowC X:=fun u hu=>by
 obtain⟨j,hj⟩:=List.getElem?_of_mem hu;rw [qc]at hj;obtain⟨A,c,cs,h1,_⟩:=h.row j (by rw [←h.sx];exact (qs.1 hj).1);rw [h1]at hj;injection hj with hj;rw [←hj];exact⟨rfl,rfl⟩
theorem FamV.famC (h:FamV n len s P F X Y) (hP:∀a v,P a v→Seg s a):FamC Y:=fun u hu=>by
 obtain⟨j,hj⟩:=List.getElem?_of_mem hu;rw [qc]at hj;obtain⟨A,c,cs,_,_,h3,h4⟩:=h.row j (by rw [←h.sy];exact (qs.1 hj).1);rw [h3]at hj;injection hj with hj;exact⟨cs,hj.symm,h4.rowC hP⟩
theorem gY (X:Array Value) (v:Value):Sy.over X (Int.toNat (j:Int)*1+0) [v]=X.setIfInBounds j v:=by
 show X.setIfInBounds (Int.toNat (j:Int)*1+0) v=_;rw [ol,zq,jv]
theorem aBa {v:Value}(hv:v.cells=#[v]) (h:X[j]?=some v):ReadIn X (Int.toNat (j:Int)*1+0) 1 v:=by
 refine⟨by rw [hv];rfl,fun q u hq=>?_⟩;rw [hv]at hq;have h0:q=0:=by
  have:=(qs.1 hq).1;simp at this;exact this
 subst h0;injection hq with hq;rw [ol,zq,←hq];exact h
theorem aBc {xs:Array Value}(h:RowAt k A xs) (u:Up k k'):RowAt k' A xs:=fun p v hp=>by
 obtain⟨b,e,hb,hc⟩:=h p v hp;exact⟨b,e,qu hb u.size,u.cell hc⟩
theorem FamV.els (h:FamV n (fun _=>m) s P F X Y) (hP:∀a v,P a v→Seg s a) (hp:∀(j:Nat) (A:Option Addr) (n c:Nat) (cs:Array Value),X[j]?=some (.slice A n c)→Y[j]?=some (.agg cs)→RowAt k A cs) (hr:RowAt k A X):Els2 k A n m s P F:=by
 refine⟨X,.of hr,h.rowC,by rw [h.sx,zq],fun j hj=>?_⟩;obtain⟨B,c,cs,h1,h2,h3,h4⟩:=h.row j hj;refine⟨B,c,lL (a:=#[.slice B m c]) rfl fun q hq=>?_,h2,h4.els hP (hp j B m c cs h1 h3)⟩;have hq0:q=0:=oq
 subst hq0;rw [fW _ _ _ _ hq (by rw [h.sx];omega),zq,jv,h1];rfl
theorem Els2.up (h:Els2 k A n m s P F) (u:Up k k') (hP:∀a v,P a v→Q a v):Els2 k' A n m s Q F:=
 (Els.up h u).mono fun _ _ ⟨B,c,e,hc,h⟩=>⟨B,c,e,hc,(h.up u).mono hP⟩
theorem Els2.row (h:Els2 k A n m s P F) (hi:i<n):∃B c,m≤c∧Els k B m s P (F i)∧(∃b o,A=some ⟨b,o,none⟩)∧∀k',Up k k'→ReadAt k'.cell? A (Int.toNat (i:Int)*1+0) 1 (.slice B m c):=by
 obtain⟨a,h1,⟨B,c,rfl,hc,h2⟩,h3,h4⟩:=Els.el h hi oz;exact⟨B,c,hc,h2,h3,fun k' u=>h4 k' u 0 1 _ rfl fun q v hv=>by rw [qt];exact hv⟩
end
open IntKind (wrap)
open Value (agg slice int bool tuple)
open Sy (Up Sees CallsG Seg execFn_use)
set_option maxRecDepth 100000
variable {k:World}{R:World→Value→Prop}{A0 A1:Option Addr}{c0 c1 l0 l1:Nat}
theorem aHz 
 (h:Cl k 85 #[slice A0 l0 c0,slice A1 l1 c1] fun k1 r0=>Gi r0 fun n2=>
 Br ((n2:Int) != 0) (Rt R k1 (tuple #[slice none 0 0,int .i64 n2])) (Cl k1 86 #[slice A0 l0 c0,slice A1 l1 c1] fun k4 r3=>∃A3 l3 c3,some (slice A3 l3 c3)=some r3∧
 Rt R k4 (tuple #[slice A3 l3 c3,int .i64 0]))) :
  CallsG Tryz.prog 25 #[slice A0 l0 c0,slice A1 l1 c1] k R:=
  qY { opq:=[89] } h
theorem aHy 
 (h:Cl k 11 #[slice A0 l0 c0,slice A1 l1 c1,int .i64 9] fun k1 r0=>Gb r0 fun b2=>
 Br (!b2) (Cl k1 12 #[] fun k3 r2=>Gb r2 fun b3=>
 Rt R k3 (bool b3)) (Cl k1 13 #[slice A0 l0 c0] fun k6 r5=>∃A3 l3 c3,∃A4 l4 c4,some (tuple #[slice A3 l3 c3,slice A4 l4 c4])=some r5∧
 Cl k6 13 #[slice A1 l1 c1] fun k8 r7=>∃A5 l5 c5,∃A6 l6 c6,some (tuple #[slice A5 l5 c5,slice A6 l6 c6])=some r7∧
 Cl k8 25 #[slice A3 l3 c3,slice A5 l5 c5] fun k10 r9=>∃A7 l7 c7,∃n8,some (tuple #[slice A7 l7 c7,int .i64 n8])=some r9∧
 Cl k10 26 #[slice A4 l4 c4,slice A6 l6 c6] fun k12 r11=>Gi r11 fun n9=>
 Br ((n9:Int) != 0) (Br ((n8:Int) == n9) (Tt∧(Br (((l7:Nat):Int) == 0) (Cl k12 12 #[] fun k14 r13=>Gb r13 fun b10=>
 Rt R k14 (bool b10)) (Rt R k12 (bool false)))) (Rt R k12 (bool false))) (Cl k12 27 #[slice A4 l4 c4,slice A6 l6 c6] fun k19 r18=>∃A10 l10 c10,some (slice A10 l10 c10)=some r18∧
 Br ((n8:Int) != 0) (Rt R k19 (bool false)) (Tt∧(Tt∧(Br (((l7:Nat):Int) != (l10:Nat)) (Rt R k19 (bool false)) (Tt∧(∃I22:Nat→World→List Value→Prop,(∃m22,∀k22,Up k19 k22→I22 m22 k22 [int .i64 0])∧
 ∀m22 k22 vs22,Up k19 k22→I22 m22 k22 vs22→∃n11,some [int .i64 n11]=some vs22∧
 Br (decide ((n11:Int)<(l10:Nat))) (Ad A7∧Ix n11 l7∧
 ∃A12 l12 c12,Sy.ReadAt k22.cell? A7 (Int.toNat n11*1+0) 1 (slice A12 l12 c12)∧
 Tt∧(Ad A10∧Ix n11 l10∧
 ∃A13 l13 c13,Sy.ReadAt k22.cell? A10 (Int.toNat n11*1+0) 1 (slice A13 l13 c13)∧
 Tt∧(Br (((l12:Nat):Int) != (l13:Nat)) (Rt R k22 (bool false)) (Ad A10∧Ix n11 l10∧
 ∃A14 l14 c14,Sy.ReadAt k22.cell? A10 (Int.toNat n11*1+0) 1 (slice A14 l14 c14)∧
 Tt∧(∃I24:Nat→World→List Value→Prop,(∃m24,∀k24,Up k22 k24→I24 m24 k24 [int .i64 0])∧
 ∀m24 k24 vs24,Up k22 k24→I24 m24 k24 vs24→∃n15,some [int .i64 n15]=some vs24∧
 Br (decide ((n15:Int)<(l14:Nat))) (Ad A7∧Ix n11 l7∧
 ∃A16 l16 c16,Sy.ReadAt k24.cell? A7 (Int.toNat n11*1+0) 1 (slice A16 l16 c16)∧
 Ad A16∧Ix n15 l16∧
 Ad A16∧Ix n15 l16∧
 ∃n17,Sy.ReadAt k24.cell? A16 (Int.toNat n15*10+0) 1 (int .i64 n17)∧
 Ad A10∧Ix n11 l10∧
 ∃A18 l18 c18,Sy.ReadAt k24.cell? A10 (Int.toNat n11*1+0) 1 (slice A18 l18 c18)∧
 Ad A18∧Ix n15 l18∧
 Ad A18∧Ix n15 l18∧
 ∃n19,Sy.ReadAt k24.cell? A18 (Int.toNat n15*13+0) 1 (int .i64 n19)∧
 Br ((n17:Int) != n19) (Rt R k24 (bool false)) (Ad A7∧Ix n11 l7∧
 ∃A20 l20 c20,Sy.ReadAt k24.cell? A7 (Int.toNat n11*1+0) 1 (slice A20 l20 c20)∧
 Ad A20∧Ix n15 l20∧
 Ad A20∧Ix n15 l20∧
 ∃cs21,Seg 9 cs21∧Sy.ReadAt k24.cell? A20 (Int.toNat n15*10+1) 9 (agg cs21)∧
 Ad A10∧Ix n11 l10∧
 ∃A22 l22 c22,Sy.ReadAt k24.cell? A10 (Int.toNat n11*1+0) 1 (slice A22 l22 c22)∧
 Ad A22∧Ix n15 l22∧
 Ad A22∧Ix n15 l22∧
 ∃cs23,Seg 12 cs23∧Sy.ReadAt k24.cell? A22 (Int.toNat n15*13+1) 12 (agg cs23)∧
 Cl k24 20 #[agg cs21,agg cs23] fun k27 r26=>Gb r26 fun b24=>
 Br (!b24) (Rt R k27 (bool false)) (∀k29,Up k27 k29→∃m,m<m24∧I24 m k29 [int .i64 (wrap .i64 (n15+1))]))) (∀k30,Up k24 k30→∃m,m<m22∧I22 m k30 [int .i64 (wrap .i64 (n11+1))])))))) (Cl k22 12 #[] fun k32 r31=>Gb r31 fun b12=>
 Rt R k32 (bool b12)))))))))) :
  CallsG Tryz.prog 4 #[slice A0 l0 c0,slice A1 l1 c1] k R:=
  qY { opq:=[89,36,56,51],loops:=[(0,[.tmp 66 false [.int .i64]]),(2,[.tmp 85 false [.int .i64]])] } h
theorem aUm 
 (h:Tt∧((0:Int)≤(l0:Nat)∧Sy.sizeOk 24 (Int.toNat (l0:Nat))∧∀(A2:Option Addr) (l2 c2:Nat) (cs3:Array Value),l2=Int.toNat (l0:Nat)→cs3=madeCells [slice none 0 0].toArray (Int.toNat (l0:Nat)*1)→l2≤c2→
 ∀cs4 cs5:Array Value,cs4=Array.replicate (Int.toNat (l2:Nat)) (slice none 0 0)→cs5=Array.replicate (Int.toNat (l2:Nat)) (agg #[])→
 Tt∧(∃I0:Nat→World→List Value→Prop,(∃m0,∀k0,Up k k0→I0 m0 k0 [int .i64 0,tuple #[slice A2 l2 c2,agg cs3],tuple #[agg cs4,agg cs5]])∧
 ∀m0 k0 vs0,Up k k0→I0 m0 k0 vs0→∃n6,∃A7 l7 c7,∃cs8,Sy.RowC cs8∧∃cs9,Sy.RowC cs9∧∃cs10,Sy.FamC cs10∧some [int .i64 n6,tuple #[slice A7 l7 c7,agg cs8],tuple #[agg cs9,agg cs10]]=some vs0∧
 Br (decide ((n6:Int)<(l0:Nat))) (El k0 A0 n6 l0 18 fun cs11=>
 Tt∧(∃I1:Nat→World→List Value→Prop,(∃m1,∀k1,Up k0 k1→I1 m1 k1 [int .i64 0,tuple #[slice A7 l7 c7,agg cs8],tuple #[agg cs9,agg cs10]])∧
 ∀m1 k1 vs1,Up k0 k1→I1 m1 k1 vs1→∃n12,∃A13 l13 c13,∃cs14,Sy.RowC cs14∧∃cs15,Sy.RowC cs15∧∃cs16,Sy.FamC cs16∧some [int .i64 n12,tuple #[slice A13 l13 c13,agg cs14],tuple #[agg cs15,agg cs16]]=some vs1∧
 Br (decide ((n12:Int)<(l1:Nat))) (El k1 A1 n12 l1 18 fun cs17=>
 Int.toNat n6<cs15.size∧∀(A18:Option Addr) (l18 c18:Nat) (cs19 cs20 cs21:Array Value),cs15[Int.toNat n6]?=some (slice A18 l18 c18)→cs16[Int.toNat n6]?=some (agg cs19)→cs20=cs15.setIfInBounds (Int.toNat n6) (slice none 0 0)→cs21=cs16.setIfInBounds (Int.toNat n6) (agg #[])→
 (decide ((0:Int)≤n6∧(n6:Int)<(l13:Nat)))=true∧
 (Sy.ReadIn cs14 (Int.toNat n6*1+0) 1 (slice A18 l18 c18)∧
 Cl k1 70 #[agg cs11,agg cs17] fun k3 r2=>∃n22,∃cs23,Seg 9 cs23∧some (agg ((int .i64 n22) :: (cs23.toList++([]))).toArray)=some r2∧
 ((int .i64 n22) :: (cs23.toList++([])):List Value).length=Int.toNat 1*10∧(0:Int)≤1∧Sy.sizeOk 160 (l18+Int.toNat 1)∧∀(A24:Option Addr) (l24 c24:Nat) (cs25:Array Value),l24=l18+Int.toNat 1→cs25=cs19++((int .i64 n22) :: (cs23.toList++([])):List Value).toArray→l24≤c24→
 (decide ((0:Int)≤n6∧(n6:Int)<(l13:Nat)))=true∧
 (Ix n6 l13∧∀cs26:Array Value,cs26=Sy.over cs14 (Int.toNat n6*1+0) ([slice A24 l24 c24])→
 ∀cs27 cs28:Array Value,cs27=cs20.setIfInBounds (Int.toNat n6) (slice A24 l24 c24)→cs28=cs21.setIfInBounds (Int.toNat n6) (agg cs25)→
 ∀k4,Up k3 k4→∃m,m<m1∧I1 m k4 [int .i64 (wrap .i64 (n12+1)),tuple #[slice A13 l13 c13,agg cs26],tuple #[agg cs27,agg cs28]]))) (∀k5,Up k1 k5→∃m,m<m0∧I0 m k5 [int .i64 (wrap .i64 (n6+1)),tuple #[slice A13 l13 c13,agg cs14],tuple #[agg cs15,agg cs16]]))) (∀k6,Up k0 k6→(∀(j:Nat) (A:Option Addr) (n c:Nat) (cs:Array Value),cs9[j]?=some (slice A n c)→cs10[j]?=some (agg cs)→Sy.RowAt k6 A cs)→
 ∀k7,Up k6 k7→Sy.RowAt k7 A7 cs8→
 Rt R k7 (slice A7 l7 c7))))) :
  CallsG Tryz.prog 86 #[slice A0 l0 c0,slice A1 l1 c1] k R:=
  qY { opq:=[89,36],loops:=[(0,[.tmp 15 false [.int .i64],.rw 5 65 1,.fm 68 10]),(2,[.tmp 22 false [.int .i64],.rw 5 65 1,.fm 68 10])],gho:=[(1,true,[.mk 5 68 10]),(8,false,[.take 6]),(8,true,[.give 6 36]),(11,true,[.pub])] } h
theorem aVs 
 (h:Tt∧((0:Int)≤(l0:Nat)∧Sy.sizeOk 24 (Int.toNat (l0:Nat))∧∀(A2:Option Addr) (l2 c2:Nat) (cs3:Array Value),l2=Int.toNat (l0:Nat)→cs3=madeCells [slice none 0 0].toArray (Int.toNat (l0:Nat)*1)→l2≤c2→
 ∀cs4 cs5:Array Value,cs4=Array.replicate (Int.toNat (l2:Nat)) (slice none 0 0)→cs5=Array.replicate (Int.toNat (l2:Nat)) (agg #[])→
 ∃I0:Nat→World→List Value→Prop,(∃m0,∀k0,Up k k0→I0 m0 k0 [int .i64 0,tuple #[slice A2 l2 c2,agg cs3],tuple #[agg cs4,agg cs5]])∧
 ∀m0 k0 vs0,Up k k0→I0 m0 k0 vs0→∃n6,∃A7 l7 c7,∃cs8,Sy.RowC cs8∧∃cs9,Sy.RowC cs9∧∃cs10,Sy.FamC cs10∧some [int .i64 n6,tuple #[slice A7 l7 c7,agg cs8],tuple #[agg cs9,agg cs10]]=some vs0∧
 Tt∧(Br (decide ((n6:Int)<(l0:Nat))) (Tt∧((0:Int)≤(l1:Nat)∧Sy.sizeOk 232 (Int.toNat (l1:Nat))∧∀(A11:Option Addr) (l11 c11:Nat) (cs12:Array Value),l11=Int.toNat (l1:Nat)→cs12=madeCells [int .i64 0,bool false,slice none 0 0,slice none 0 0,bool false,slice none 0 0,slice none 0 0,bool false,slice none 0 0,slice none 0 0,bool false,slice none 0 0,slice none 0 0].toArray (Int.toNat (l1:Nat)*13)→l11≤c11→
 (decide ((0:Int)≤n6∧(n6:Int)<(l7:Nat)))=true∧
 (Ix n6 l7∧∀cs13:Array Value,cs13=Sy.over cs8 (Int.toNat n6*1+0) ([slice A11 l11 c11])→
 ∀cs14 cs15:Array Value,cs14=cs9.setIfInBounds (Int.toNat n6) (slice A11 l11 c11)→cs15=cs10.setIfInBounds (Int.toNat n6) (agg cs12)→
 ∃I1:Nat→World→List Value→Prop,(∃m1,∀k1,Up k0 k1→I1 m1 k1 [int .i64 0,tuple #[slice A7 l7 c7,agg cs13],tuple #[agg cs14,agg cs15]])∧
 ∀m1 k1 vs1,Up k0 k1→I1 m1 k1 vs1→∃n16,∃A17 l17 c17,∃cs18,Sy.RowC cs18∧∃cs19,Sy.RowC cs19∧∃cs20,Sy.FamC cs20∧some [int .i64 n16,tuple #[slice A17 l17 c17,agg cs18],tuple #[agg cs19,agg cs20]]=some vs1∧
 Tt∧(Br (decide ((n16:Int)<(l1:Nat))) (Int.toNat n6<cs19.size∧∀(A21:Option Addr) (l21 c21:Nat) (cs22 cs23 cs24:Array Value),cs19[Int.toNat n6]?=some (slice A21 l21 c21)→cs20[Int.toNat n6]?=some (agg cs22)→cs23=cs19.setIfInBounds (Int.toNat n6) (slice none 0 0)→cs24=cs20.setIfInBounds (Int.toNat n6) (agg #[])→
 (decide ((0:Int)≤n6∧(n6:Int)<(l17:Nat)))=true∧
 (Sy.ReadIn cs18 (Int.toNat n6*1+0) 1 (slice A21 l21 c21)∧
 El k1 A0 n6 l0 24 fun cs25=>
 El k1 A1 n16 l1 24 fun cs26=>
 Cl k1 87 #[agg cs25,agg cs26] fun k3 r2=>∃n27,∃cs28,Seg 12 cs28∧some (agg ((int .i64 n27) :: (cs28.toList++([]))).toArray)=some r2∧
 (decide ((0:Int)≤n16∧(n16:Int)<(l21:Nat)))=true∧
 (Ix n16 l21∧∀cs29:Array Value,cs29=Sy.over cs22 (Int.toNat n16*13+0) ((int .i64 n27) :: (cs28.toList++([])))→
 ∀cs30 cs31:Array Value,cs30=cs23.setIfInBounds (Int.toNat n6) (slice A21 l21 c21)→cs31=cs24.setIfInBounds (Int.toNat n6) (agg cs29)→
 ∀k4,Up k3 k4→∃m,m<m1∧I1 m k4 [int .i64 (wrap .i64 (n16+1)),tuple #[slice A17 l17 c17,agg cs18],tuple #[agg cs30,agg cs31]]))) (∀k5,Up k1 k5→∃m,m<m0∧I0 m k5 [int .i64 (wrap .i64 (n6+1)),tuple #[slice A17 l17 c17,agg cs18],tuple #[agg cs19,agg cs20]]))))) (∀k6,Up k0 k6→(∀(j:Nat) (A:Option Addr) (n c:Nat) (cs:Array Value),cs9[j]?=some (slice A n c)→cs10[j]?=some (agg cs)→Sy.RowAt k6 A cs)→
 ∀k7,Up k6 k7→Sy.RowAt k7 A7 cs8→
 Rt R k7 (slice A7 l7 c7))))) :
  CallsG Tryz.prog 27 #[slice A0 l0 c0,slice A1 l1 c1] k R:=
  qY { opq:=[56,51],loops:=[(0,[.tmp 6 false [.int .i64],.rw 5 66 1,.fm 70 13]),(2,[.tmp 7 false [.int .i64],.rw 5 66 1,.fm 70 13])],gho:=[(1,true,[.mk 5 70 13]),(5,true,[.give 18 21]),(9,false,[.take 6]),(9,true,[.give 6 32]),(10,true,[.pub])] } h
end Go.Proofs.YtmifbgccpdmjpaaGreat

namespace Go.Proofs.YtmifbgccpdmjpaaGreat
open Go.RowKit Num Plain W32
open Sy (Up Sees CallsG Seg RowC FamC RowAt ReadAt ReadIn)
def TcV (k:World) (K:Nat) (a:Array Value) (p:W4×W4):Prop:=∃ds:Array Value,a=((Value.int .i64 (jX p.1 p.2:Int)) :: (ds.toList++([])):List Value).toArray∧SurdV k ds (mB p.1 p.2) K
def TcQ (k:World) (K:Nat) (a:Array Value) (p:W4×W4):Prop:=∃ds:Array Value,a=((Value.int .i64 (jX p.1 p.2:Int)) :: (ds.toList++([])):List Value).toArray∧SQ k ds (mB p.1 p.2) K
theorem kI {n:Nat}{z:Int}{ds:Array Value}(h:Seg n ds):Seg (n+1) ((Value.int .i64 z) :: (ds.toList++([])):List Value).toArray:=by
 refine⟨by simp [h.1],fun u hu=>?_⟩;rw [List.append_nil]at hu;rcases yu.1 hu with rfl|hu
 ·exact⟨rfl,rfl⟩
 ·exact h.2 u hu
theorem TcV.seg {k:World}{K:Nat}{a:Array Value}{p:W4×W4}(h:TcV k K a p):Seg 10 a:=by
 obtain⟨ds,rfl,hd⟩:=h;exact kI hd.seg
theorem TcQ.seg {k:World}{K:Nat}{a:Array Value}{p:W4×W4}(h:TcQ k K a p):Seg 13 a:=by
 obtain⟨ds,rfl,hd⟩:=h;exact kI hd.seg
theorem TcV.up {k k':World}{K:Nat}{a:Array Value}{p:W4×W4}(h:TcV k K a p) (u:Up k k'):TcV k' K a p:=by
 obtain⟨ds,rfl,hd⟩:=h;exact⟨ds,rfl,hd.up u⟩
theorem TcQ.up {k k':World}{K:Nat}{a:Array Value}{p:W4×W4}(h:TcQ k K a p) (u:Up k k'):TcQ k' K a p:=by
 obtain⟨ds,rfl,hd⟩:=h;exact⟨ds,rfl,hd.up u⟩
abbrev TabV (k:World) (A:Option Addr) (n m:Nat) (xs ys:Nat→W4):Prop:=Els2 k A n m 10 (TcV k 277) fun i j=>(xs i,ys j)
abbrev TabQ (k:World) (A:Option Addr) (n m:Nat) (xs ys:Nat→W4):Prop:=Els2 k A n m 13 (TcQ k 1325) fun i j=>(xs i,ys j)
section
variable {k k':World}{R:World→Value→Prop}{A A0 A1:Option Addr}{n m c c0 c1:Nat}{xs ys:Nat→W4}
theorem TabV.up (h:TabV k A n m xs ys) (u:Up k k'):TabV k' A n m xs ys:=Els2.up h u fun _ _ h=>h.up u
theorem TabQ.up (h:TabQ k A n m xs ys) (u:Up k k'):TabQ k' A n m xs ys:=Els2.up h u fun _ _ h=>h.up u
def kN (m i q j:Nat):Nat:=if j<i then m else if j=i then q else 0
theorem nU (m i q:Nat):kN m i q i=q:=by unfold kN;rw [oh (Nat.lt_irrefl i),od rfl]
theorem aAf {m i q q' j:Nat}(h:j≠i):kN m i q j=kN m i q' j:=by
 unfold kN;rw [oh h,oh h]
theorem sS (m i j:Nat):kN m (i+1) 0 j=kN m i m j:=by
 unfold kN
 by_cases h:j<i
 ·rw [od oq,od h]
 ·rw [oh h]
  by_cases e:j=i
  ·rw [od oq,od e]
  ·rw [oh oq,oh e];split <;> rfl
theorem aAe {m n j:Nat}(h:j<n):m=kN m n 0 j:=by unfold kN;rw [od h]
theorem vF (m j:Nat):kN m 0 0 j=0:=by
 unfold kN;rw [oh (yw _)];split <;> rfl
def pX (xs ys:Nat→W4) (i q i' j:Nat):Option (W4×W4):=if i'<i∨i'=i∧j<q then some (xs i',ys j) else none
theorem aCf {i q:Nat}(j:Nat) (h:¬ j<q):pX xs ys i q i j=none:=oh oq
theorem aCg {i q j:Nat}(h:j<q):pX xs ys i q i j=some (xs i,ys j):=od (.inr ⟨rfl,h⟩)
theorem aQi {X:Array Value}{i:Nat}{v:Value}(h:X[i]?=some v):X.setIfInBounds i v=X:=by
 apply jo;intro j;rw [qj];split
 ·rename_i e;subst e;rw [h,od (qs.1 h).1]
 ·rfl
theorem aZe (hx:WavesV k A0 n xs 6) (hy:WavesV k A1 m ys 6) (hn:n≤1000) (hm:m≤1000) (C:∀k' A c,Up k k'→TabV k' A n m xs ys→R k' (.slice A n c)) :
 Cl k 86 #[.slice A0 n c0,.slice A1 m c1] R:=by
 intro k0 u0;replace hx:=hx.up u0;replace hy:=hy.up u0;replace C:=fun k' A c u=>C k' A c (u0.trans u);have sg:∀ {k:World},∀a p,TcV k 277 a p→Seg 10 a:=fun _ _ h=>h.seg;refine aUm ⟨rfl,oq,⟨by show 24*n≤_;omega,by show n≤_;omega⟩,?_⟩;rintro A2 l2 c2 cs3 el e3 hlc cs4 cs5 e4 e5;have el:l2=n:=el;subst el;have e3:cs3=cs4:=by rw [e3,e4];exact aAi l2
 subst e3;have e4:cs3=Array.replicate l2 (.slice none 0 0):=e4;have e5:cs5=Array.replicate l2 (.agg #[]):=e5
 refine⟨rfl,fun r k' vs=>∃(i:Nat) (A:Option Addr) (c:Nat) (X Y:Array Value),i+r=l2∧vs=[.int .i64 (i:Int),.tuple #[.slice A l2 c,.agg X],.tuple #[.agg X,.agg Y]]∧FamV l2 (kN m i 0) 10 (TcV k' 277) (fun i j=>(xs i,ys j)) X Y,
  ⟨l2,fun k1 u1=>⟨0,A2,c2,cs3,cs5,qt _,rfl,by rw [e4,e5];exact (FamV.nils l2).as (fun _ _ h=>h) fun j _=>vF m j⟩⟩,?_⟩
 rintro r k1 vs u1 ⟨i,A,c,X,Y,hi,rfl,hF⟩;refine⟨_,A,l2,c,X,hF.rowC,X,hF.rowC,Y,hF.famC sg,rfl,fun hlt=>?_,fun hge k2 u2 hpub k3 u3 hrow k4 u4=>?_⟩
 ·have hlt:i<l2:=by have:=ow hlt;omega
  obtain⟨x1,x2,ax,x3,x4⟩:=hx.at hlt u1
  refine⟨x1,x2,ax,x3.seg,x4,rfl,fun r' k' vs=>∃(q:Nat) (A:Option Addr) (c:Nat) (X Y:Array Value),q+r'=m∧vs=[.int .i64 (q:Int),.tuple #[.slice A l2 c,.agg X],.tuple #[.agg X,.agg Y]]∧FamV l2 (kN m i q) 10 (TcV k' 277) (fun i j=>(xs i,ys j)) X Y,
   ⟨m,fun k2 u2=>⟨0,A,c,X,Y,qt _,rfl,hF.mono fun _ _ h=>h.up u2⟩⟩,?_⟩
  rintro r' k2 vs u2 ⟨q,A',c',X',Y',hq,rfl,hF'⟩;refine⟨_,A',l2,c',X',hF'.rowC,X',hF'.rowC,Y',hF'.famC sg,rfl,fun hlt'=>?_,fun hge' k3 u3=>?_⟩
  ·have hlt':q<m:=by have:=ow hlt';omega
   obtain⟨y1,y2,ay,y3,y4⟩:=hy.at hlt' (u1.trans u2);refine⟨y1,y2,ay,y3.seg,y4,by rw [ol,hF'.sx];exact hlt,?_⟩;rintro A3 l3 c3 cs3 _ _ g1 g2 rfl rfl;rw [ol]at g1 g2;obtain⟨gl,gc,ga⟩:=hF'.get g1 g2;rw [nU]at gl gc ga;subst gl;have hix:(0:Int)≤(i:Int)∧(i:Int)<((l2:Nat):Int):=⟨oq,oq⟩;refine⟨decide_eq_true hix,aBa rfl g1,aLg (x3.up u2) y3 oz oz fun k4 d u4 hd=>⟨_,d,hd.seg,rfl,?_⟩⟩;refine⟨(kI (z:=0) hd.seg).1,oz,⟨by show 160*(l3+1)≤_;omega,by show l3+1≤_;omega⟩,?_⟩;rintro A5 l5 c5 cs5 el5 rfl hl5;have el5:l5=l3+1:=el5;subst el5;refine⟨decide_eq_true hix,hix,?_⟩;rintro _ rfl _ _ rfl rfl k6 u6;refine⟨r'-1,oq,l3+1,A',c',_,_,oq,?_,hF'.set (A:=A5) (c:=c5) hlt (fun _ _ h=>h.up (u4.trans u6)) hl5 (ArrV.push (ga.mono fun _ _ h=>h.up (u4.trans u6)) (kI hd.seg).1 ⟨d,rfl,hd.up u6⟩) (fun j _ hj=>aAf hj) (nU m i (l3+1)) fun _ _ _=>rfl⟩;rw [aEr oq,gY,ol,vv]
  ·have hge':=ov hge';have e:q=m:=oq
   subst e;exact⟨r-1,oq,i+1,A',c',X',Y',oq,by rw [aEr oq],hF'.as (fun _ _ h=>h.up u3) fun j _=>sS q i j⟩
 ·have hge:=ov hge;have e:i=l2:=oq
  subst e;have hG:FamV i (fun _=>m) 10 (TcV k2 277) (fun i j=>(xs i,ys j)) X Y:=hF.as (fun _ _ h=>h.up u2) fun j hj=>aAe hj;exact C k4 A c (u1.trans (u2.trans (u3.trans u4))) (TabV.up ((hG.mono fun _ _ h=>h.up u3).els (k:=k3) sg (fun j A n c cs h1 h2=>aBc (hpub j A n c cs h1 h2) u3) hrow) u4)
theorem aZu (hx:WavesQ k A0 n xs 2) (hy:WavesQ k A1 m ys 2) (hn:n≤1000) (hm:m≤1000) (C:∀k' A c,Up k k'→TabQ k' A n m xs ys→R k' (.slice A n c)) :
 Cl k 27 #[.slice A0 n c0,.slice A1 m c1] R:=by
 intro k0 u0;replace hx:=hx.up u0;replace hy:=hy.up u0;replace C:=fun k' A c u=>C k' A c (u0.trans u)
 -- a cell that is not there yet is one of which the number of cells is known
 have sg:∀ {k:World},∀a p,optP 13 (TcQ k 1325) a p→Seg 13 a:=fun _ _ h=>optP.seg (fun _ h=>h.seg) h;have up:∀ {k k':World},Up k k'→∀a p,optP 13 (TcQ k 1325) a p→optP 13 (TcQ k' 1325) a p:=fun u a p h=>by
  cases p with
  | none=>exact h
  | some p=>exact TcQ.up h u
 refine aVs ⟨rfl,oq,⟨by show 24*n≤_;omega,by show n≤_;omega⟩,?_⟩;rintro A2 l2 c2 cs3 el e3 hlc cs4 cs5 e4 e5;have el:l2=n:=el;subst el;have e3:cs3=cs4:=by rw [e3,e4];exact aAi l2
 subst e3;have e4:cs3=Array.replicate l2 (.slice none 0 0):=e4;have e5:cs5=Array.replicate l2 (.agg #[]):=e5
 refine⟨fun r k' vs=>∃(i:Nat) (A:Option Addr) (c:Nat) (X Y:Array Value),i+r=l2∧vs=[.int .i64 (i:Int),.tuple #[.slice A l2 c,.agg X],.tuple #[.agg X,.agg Y]]∧FamV l2 (kN m i 0) 13 (optP 13 (TcQ k' 1325)) (pX xs ys i 0) X Y,
  ⟨l2,fun k1 u1=>⟨0,A2,c2,cs3,cs5,qt _,rfl,by rw [e4,e5];exact (FamV.nils l2).as (fun _ _ h=>h) fun j _=>vF m j⟩⟩,?_⟩
 rintro r k1 vs u1 ⟨i,A,c,X,Y,hi,rfl,hF⟩;refine⟨_,A,l2,c,X,hF.rowC,X,hF.rowC,Y,hF.famC sg,rfl,rfl,fun hlt=>?_,fun hge k2 u2 hpub k3 u3 hrow k4 u4=>?_⟩
 ·have hlt:i<l2:=by have:=ow hlt;omega
  have hix:(0:Int)≤(i:Int)∧(i:Int)<((l2:Nat):Int):=⟨oq,oq⟩;refine⟨rfl,oq,⟨by show 232*m≤_;omega,by show m≤_;omega⟩,?_⟩;rintro A6 l6 c6 cs6 el6 e6 hl6;have el6:l6=m:=el6;subst el6;have z6:ArrV l6 13 (optP 13 (TcQ k1 1325)) cs6 fun _=>none:=by
   rw [e6];exact ArrV.made (z:=(Value.int .i64 0) :: zT) rfl none ⟨rfl,by simp [zT,Value.scalar,Value.noWord]⟩
  refine⟨decide_eq_true hix,hix,?_⟩;rintro _ rfl _ _ rfl rfl;rw [gY]
  refine⟨fun r' k' vs=>∃(q:Nat) (A:Option Addr) (c:Nat) (X Y:Array Value),q+r'=l6∧vs=[.int .i64 (q:Int),.tuple #[.slice A l2 c,.agg X],.tuple #[.agg X,.agg Y]]∧FamV l2 (kN l6 i l6) 13 (optP 13 (TcQ k' 1325)) (pX xs ys i q) X Y,
   ⟨l6,fun k2 u2=>⟨0,A,c,_,_,qt _,rfl,hF.set1 hlt (up u2) hl6 ((z6.mono (up u2)).congr fun q _=>(aCf q (yw _)).symm) (fun j _ hj=>aAf hj) (nU l6 i l6) fun _ _ _=>rfl⟩⟩,?_⟩
  rintro r' k2 vs u2 ⟨q,A',c',X',Y',hq,rfl,hF'⟩;refine⟨_,A',l2,c',X',hF'.rowC,X',hF'.rowC,Y',hF'.famC sg,rfl,rfl,fun hlt'=>?_,fun hge' k3 u3=>?_⟩
  ·have hlt':q<l6:=by have:=ow hlt';omega
   refine⟨by rw [ol,hF'.sx];exact hlt,?_⟩;rintro A3 l3 c3 cs3 _ _ g1 g2 rfl rfl;rw [ol]at g1 g2;obtain⟨gl,gc,ga⟩:=hF'.get g1 g2;rw [nU]at gl gc ga;subst gl;obtain⟨x1,x2,ax,x3,x4⟩:=hx.at hlt (u1.trans u2);obtain⟨y1,y2,ay,y3,y4⟩:=hy.at hlt' (u1.trans u2);have hqx:(0:Int)≤(q:Int)∧(q:Int)<((l3:Nat):Int):=⟨oq,oq⟩;refine⟨decide_eq_true hix,aBa rfl g1,x1,x2,ax,x3.seg,x4,y1,y2,ay,y3.seg,y4,aVg x3 y3 oz fun k4 d u4 hd=>⟨_,d,hd.seg,rfl,decide_eq_true hqx,hqx,?_⟩⟩;rintro _ rfl _ _ rfl rfl k6 u6;refine⟨r'-1,oq,q+1,A',c',_,_,oq,?_,hF'.set (A:=A3) (c:=c3) hlt (up (u4.trans u6)) gc (ArrV.set (ys:=((Value.int .i64 (jX (xs i) (ys q):Int)) :: (d.toList++([])):List Value).toArray) (ga.mono (up (u4.trans u6))) hlt' (kI hd.seg).1 ?_ fun j _ hj=>?_) (fun j _ _=>rfl) (nU l3 i l3) fun j _ hj=>?_⟩
   ·rw [aEr oq,ol,vv,aQi g1]
   ·rw [aCg (xs:=xs) (ys:=ys) (wh q)];exact⟨d,rfl,hd.up u6⟩
   ·unfold pX
    by_cases c:j<q
    ·rw [od (.inr ⟨rfl,c⟩),od (.inr ⟨rfl,oq⟩)]
    ·rw [oh oq,oh oq]
   ·funext p
    unfold pX
    by_cases c:j<i
    ·rw [od (.inl c),od (.inl c)]
    ·rw [oh oq,oh oq]
  ·have hge':=ov hge';have e:q=l6:=oq
   subst e;refine⟨r-1,oq,i+1,A',c',X',Y',oq,by rw [aEr oq],(hF'.as (up u3) fun j _=>sS q i j).congr fun j _ p hp=>?_⟩;rw [sS]at hp;unfold kN at hp;unfold pX;split at hp
   ·rename_i c;rw [od (.inl c),od (.inl oq)]
   ·split at hp
    ·rename_i c;rw [od (.inr ⟨c,hp⟩),od (.inl oq)]
    ·exact absurd hp (yw _)
 ·have hge:=ov hge;have e:i=l2:=oq
  subst e;have hG:FamV i (fun _=>m) 13 (optP 13 (TcQ k2 1325)) (fun i j=>some (xs i,ys j)) X Y:=(hF.as (up u2) fun j hj=>aAe hj).congr fun j hj p _=>by
   unfold pX;rw [od (.inl hj)]
  have hE:TabQ k3 A i m xs ys:=(hG.mono (up u3)).els (k:=k3) sg (fun j A n c cs h1 h2=>aBc (hpub j A n c cs h1 h2) u3) hrow;exact C k4 A c (u1.trans (u2.trans (u3.trans u4))) (hE.up u4)
end
section
variable {k k':World}{R:World→Value→Prop}{A A0 A1:Option Addr}{n m c c0 c1:Nat}{xs ys:Nat→W4}
def aQx (n m:Nat):Nat:=if xV n m=0 then n else 0
theorem aMv (hx:WavesV k A0 n xs 6) (hy:WavesV k A1 m ys 6) (hn:n≤1000) (hm:m≤1000) (C:∀k' A c,Up k k'→(xV n m=0→TabV k' A n m xs ys)→R k' (.tuple #[.slice A (aQx n m) c,.int .i64 (xV n m)])) :
 Cl k 25 #[.slice A0 n c0,.slice A1 m c1] R:=by
 intro k0 u0;unfold aQx at C;refine aHz (aZd fun k1 u1=>⟨_,rfl,fun h k2 u2=>?_,fun h=>?_⟩)
 ·have:=C k2 none 0 (u0.trans (u1.trans u2)) fun e=>absurd e (aNh h)
  rwa [oh (aNh h)]at this
 ·have h:=bBh h;refine aZe (hx.up (u0.trans u1)) (hy.up (u0.trans u1)) hn hm fun k2 A c u2 ht=>⟨A,n,c,rfl,fun k3 u3=>?_⟩;have:=C k3 A c (u0.trans (u1.trans (u2.trans u3))) fun _=>ht.up u3
  rwa [od h,h]at this
theorem zG {z:Int}{ds:Array Value}:∀(q:Nat) u,(Value.int .i64 z).cells[q]?=some u→((Value.int .i64 z) :: (ds.toList++([])):List Value).toArray[0+q]?=some u:=fun q u h=>by
 have h0:q=0:=by
  have:=(qs.1 h).1;simp [Value.cells]at this;exact this
 subst h0;exact h
theorem zF {z:Int}{ds:Array Value}:∀(q:Nat) u,(Value.agg ds).cells[q]?=some u→((Value.int .i64 z) :: (ds.toList++([])):List Value).toArray[1+q]?=some u:=fun q u h=>by
 have h:ds[q]?=some u:=h;rw [qn,vg,kn,xc,qc];exact h
theorem TabV.cell {i q:Nat}{B:Option Addr}{b:Nat}(h:Els k B m 10 (TcV k 277) (fun j=>(xs i,ys j))) (hq:q<m) (_hb:m≤b):(∃b o,B=some ⟨b,o,none⟩)∧∃ds:Array Value,SurdV k ds (mB (xs i) (ys q)) 277∧
 ∀k',Up k k'→ReadAt k'.cell? B (Int.toNat (q:Int)*10+0) 1 (.int .i64 (jX (xs i) (ys q):Int))∧ReadAt k'.cell? B (Int.toNat (q:Int)*10+1) 9 (.agg ds):=by
 obtain⟨a,h1,⟨ds,rfl,h2⟩,h3,h4⟩:=Els.el h hq oz;exact⟨h3,ds,h2,fun k' u=>⟨h4 k' u 0 1 _ rfl zG,h4 k' u 1 9 _ h2.seg.1 zF⟩⟩
theorem TabQ.cell {i q:Nat}{B:Option Addr}{b:Nat}(h:Els k B m 13 (TcQ k 1325) (fun j=>(xs i,ys j))) (hq:q<m) (_hb:m≤b):(∃b o,B=some ⟨b,o,none⟩)∧∃ds:Array Value,SQ k ds (mB (xs i) (ys q)) 1325∧
 ∀k',Up k k'→ReadAt k'.cell? B (Int.toNat (q:Int)*13+0) 1 (.int .i64 (jX (xs i) (ys q):Int))∧ReadAt k'.cell? B (Int.toNat (q:Int)*13+1) 12 (.agg ds):=by
 obtain⟨a,h1,⟨ds,rfl,h2⟩,h3,h4⟩:=Els.el h hq oz;exact⟨h3,ds,h2,fun k' u=>⟨h4 k' u 0 1 _ rfl zG,h4 k' u 1 12 _ h2.seg.1 zF⟩⟩
theorem xB {z:Int}{P:Prop}(f:(z != z)=true):P:=absurd (aNh f) fun g=>g rfl
theorem aMs (hx:Els k A0 n 6 aGt xs) (hy:Els k A1 m 6 aGt ys) (C:∀k',Up k k'→R k' (.bool true)) :
 Cl k 4 #[.slice A0 n c0,.slice A1 m c1] R:=by
 intro k0 u0;replace hx:=Els.up hx u0;replace hy:=Els.up hy u0;replace C:=fun k' u=>C k' (u0.trans u);have aw:∀k1,Up k0 k1→Cl k1 12 #[] fun k3 r=>∃b:Bool,some (Value.bool b)=some r∧∀k4,Up k3 k4→R k4 (.bool b):=fun k1 u1=>
  aMw fun k3 u3=>⟨_,rfl,fun k4 u4=>C k4 (u1.trans (u3.trans u4))⟩
 refine aHy (aYs fun k1 u1=>⟨_,rfl,fun _=>aw k1 u1,fun h=>?_⟩);have h:decide ((n:Int)≤9∧(m:Int)≤9)=true:=by simpa using h
 have h:=ow h;have hn:n≤1000:=oq
 have hm:m≤1000:=oq
 clear h;refine aFm (Els.up hx u1) hn fun k2 B0 e0 B1 e1 u2 x1 x2=>⟨B0,n,e0,B1,n,e1,rfl,?_⟩;refine aFm (Els.up hy (u1.trans u2)) hm fun k3 D0 d0 D1 d1 u3 y1 y2=>⟨D0,m,d0,D1,m,d1,rfl,?_⟩;have v3:=u1.trans (u2.trans u3);refine aMv (x1.up u3) y1 hn hm fun k4 A7 c7 u4 ht=>⟨A7,_,c7,_,rfl,?_⟩;refine aZs fun k5 u5=>⟨_,rfl,fun he=>?_,fun he=>?_⟩
 ·have v5:=v3.trans (u4.trans u5);refine⟨fun _=>⟨rfl,fun _=>aw k5 v5,fun f=>?_⟩,fun f=>?_⟩
  ·unfold aQx at f;rw [oh (aNh he)]at f;cases f
  ·rw [beq_self_eq_true]at f;cases f
 have he:=bBh he;have hN:aQx n m=n:=by unfold aQx;rw [od he]
 rw [hN];have ht:=ht he;refine aZu (x2.up (u3.trans (u4.trans u5))) (y2.up (u4.trans u5)) hn hm fun k6 A10 c10 u6 hq=>⟨A10,n,c10,rfl,fun f=>absurd he (aNh f),fun _=>⟨rfl,rfl,xB,fun _=>⟨rfl,?_⟩⟩⟩;have ht:=ht.up (u5.trans u6);have v6:=v3.trans (u4.trans (u5.trans u6));refine⟨fun r _ vs=>∃i:Nat,i+r=n∧vs=[.int .i64 (i:Int)],⟨n,fun _ _=>⟨0,qt _,rfl⟩⟩,?_⟩;rintro r k7 vs u7 ⟨i,hi,rfl⟩;refine⟨_,rfl,fun hlt=>?_,fun hge=>aw k7 (v6.trans u7)⟩;have hlt:i<n:=by have:=ow hlt;omega
 have hix:(0:Int)≤(i:Int)∧(i:Int)<((n:Nat):Int):=⟨oq,oq⟩;obtain⟨P1,p1,g1,r1,a1,s1⟩:=Els2.row ht hlt;obtain⟨P2,p2,g2,r2,a2,s2⟩:=Els2.row hq hlt;refine⟨a1,hix,P1,m,p1,s1 k7 u7,rfl,a2,hix,P2,m,p2,s2 k7 u7,rfl,xB,fun _=>⟨a2,hix,P2,m,p2,s2 k7 u7,rfl,?_⟩⟩;refine⟨fun r _ vs=>∃q:Nat,q+r=m∧vs=[.int .i64 (q:Int)],⟨m,fun _ _=>⟨0,qt _,rfl⟩⟩,?_⟩;rintro r' k8 vs u8 ⟨q,hq',rfl⟩;refine⟨_,rfl,fun hlt'=>?_,fun hge' k9 u9=>⟨r-1,oq,i+1,oq,by rw [aEr oq]⟩⟩;have hlt':q<m:=by have:=ow hlt';omega
 have hqx:(0:Int)≤(q:Int)∧(q:Int)<((m:Nat):Int):=⟨oq,oq⟩;obtain⟨b1,ds,t1,w1⟩:=TabV.cell r1 hlt' g1;obtain⟨b2,es,t2,w2⟩:=TabQ.cell r2 hlt' g2;have u78:=u7.trans u8;obtain⟨w3,w4⟩:=w1 k8 u78;obtain⟨w5,w6⟩:=w2 k8 u78;refine⟨a1,hix,P1,m,p1,s1 k8 u78,b1,hqx,b1,hqx,_,w3,a2,hix,P2,m,p2,s2 k8 u78,b2,hqx,b2,hqx,_,w5,xB,fun _=>?_⟩;refine⟨a1,hix,P1,m,p1,s1 k8 u78,b1,hqx,b1,hqx,ds,t1.seg,w4,a2,hix,P2,m,p2,s2 k8 u78,b2,hqx,b2,hqx,es,t2.seg,w6,?_⟩;exact aMl (t1.up u78) oz oz (t2.up u78) oz fun k9 u9=>⟨true,rfl,fun f=>(by cases f),fun _ k10 u10=>⟨r'-1,oq,q+1,oq,by rw [aEr oq]⟩⟩
end
