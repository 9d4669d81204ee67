/- Several texts in one. (Printed by prep.py.) -/
import Derived.Test.YtifcjpacobpdmaaGreatTtOM
namespace Go.Proofs.YtifcjpacobpdmaaGreat
open IntKind (wrap)
open Go.RowKit Num Plain W32
open Sy (Up Sees CallsG Seg)
section
variable {k k':World}{R:World→Value→Prop}{K L:Nat}{cs cs' ds:Array Value}{f g:Nat→Q4}{p q:Nat→W4}{x y:W4}{v v':Q4}
theorem aQb {n j:Nat}(hn:n<13) (hj:j<24):kE (plc (wrap .i64 ((n:Int)*(j:Int))))=trn (n*j):=by
 have hp:n*j≤12*23:=xr oq oq;rw [←xv];generalize n*j=t at hp;have e3:wrap .i64 (t:Int)=(t:Int):=by rw [jv];omega
 rw [e3];unfold trn plc
 congr 1
theorem aQq (hx:SpecV k cs p K) (hK1:1≤K) (hK:K≤1000000) (C:∀k' ds,Up k k'→RoundV k' ds (aLx p) (26*K+105)→R k' (.agg ds)) :
 Cl k 43 #[.agg cs] R:=by
 intro k0 u0;replace hx:=hx.up u0;replace C:=fun k' ds u=>C k' ds (u0.trans u);refine aFx hx.seg ⟨fun m k' vs=>∃j c,j+m=24∧vs=[.int .i64 (j:Int),.agg c]∧RoundV k' c (cut j (aLx p) fun _=>Q4.zero) (26*K+105),⟨24,fun k' u=>⟨0,_,rfl,rfl,ArrV.start RoundV.zero⟩⟩,?_⟩;rintro m k1 vs u1 ⟨j,c,hj,rfl,hc⟩;refine⟨_,c,hc.seg,rfl,fun hlt=>?_,fun hge=>?_⟩
 ·have hlt:=lt24 hlt;refine⟨fun m' k' vs=>∃i d,i+m'=13∧vs=[.int .i64 (i:Int),.agg d]∧SurdV k' d (cK (fun n=>(wt n).mul ((p n).mul (trn (n*j))).re) i) (1+i*(2*K+8)),⟨13,fun k' u=>⟨0,_,rfl,rfl,SurdV.nil (jw _)⟩⟩,?_⟩;rintro m' k2 vs u2 ⟨i,d,hi,rfl,hd⟩;refine⟨_,d,hd.seg,rfl,fun hlt'=>?_,fun hge'=>?_⟩
  ·have hlt':=lt13 hlt';refine⟨ix13 hlt',zQ hlt' fun k3 d3 u3 h3=>⟨d3,h3.seg,rfl,?_⟩⟩;refine aEk fun k4 d4 u4 hT=>⟨d4,hT.seg,rfl,?_⟩;rw [aQb hlt' hlt]at hT;have hje:=om (2*K+8) (Nat.le_of_lt hlt');have hjs:(i+1)*(2*K+8)=i*(2*K+8)+(2*K+8):=zq _ _;refine aSa (ArrV.get ((((hx.up u1).up u2).up u3).up u4) hlt') hT hK1 oz oq oz fun k5 d5 u5 h5=>⟨d5,h5.seg,rfl,?_⟩;refine aHy h5 fun k6 d6 u6 h6=>⟨d6,h6.seg,rfl,?_⟩;refine iM (((h3.up u4).up u5).up u6) h6 oz oq oz oq fun k7 d7 u7 h7=>⟨d7,h7.seg,rfl,?_⟩;refine uW (hd.up ((((u3.trans u4).trans u5).trans u6).trans u7)) h7 oq oq oq oq fun k8 d8 u8 h8=>⟨d8,h8.seg,rfl,fun k9 u9=>?_⟩;exact⟨m'-1,oq,i+1,d8,oq,by rw [wup oq],(h8.up u9).mono oq⟩
  ·have e:i=13:=by have:=ge13 hge';omega
   subst e;refine⟨ix24 hlt,fun k3 u3=>⟨m-1,oq,j+1,_,oq,by rw [wup oq],ArrV.step ((hc.up u2).up u3) hlt hd.seg.1 ((hd.up u3).mono oq)⟩⟩
 ·exact fun k2 u2=>C k2 c (u1.trans u2) (ArrV.done (hc.up u2) (ge24 hge))
def aXh (j:Nat) (a:Q4×Nat) (F:Nat→Option (Q4×Nat)) (i:Nat):Option (Q4×Nat):=if i=j then some a else F i
end
section
variable {k k':World}{R:World→Value→Prop}{K L:Nat}{cs cs' ds es:Array Value}{f g:Nat→Q4}{p q:Nat→W4}{x y:W4}{v v':Q4}
def aWe (a:Array Value) (w:W4):Prop:=∃n0 n1 n2 n3 n4 n5 n6 n7 n8 n9 n10 n11 n12 n13 n14 n15:Int,(In64 n0∧In64 n1∧In64 n2∧In64 n3∧In64 n4∧In64 n5∧In64 n6∧In64 n7∧In64 n8∧In64 n9∧In64 n10∧In64 n11∧In64 n12∧In64 n13∧In64 n14∧In64 n15)∧a=#[.int .i64 n0,.int .i64 n1,.int .i64 n2,.int .i64 n3,.int .i64 n4,.int .i64 n5,.int .i64 n6,.int .i64 n7,.int .i64 n8,.int .i64 n9,.int .i64 n10,.int .i64 n11,.int .i64 n12,.int .i64 n13,.int .i64 n14,.int .i64 n15]∧w=⟨⟨ofQ n0 n1,ofQ n2 n3,ofQ n4 n5,ofQ n6 n7⟩,⟨ofQ n8 n9,ofQ n10 n11,ofQ n12 n13,ofQ n14 n15⟩⟩
def aVz (p:Nat→W4) (n:Nat):W4:=if n=0∨n=12 then ofR (p n).re else p n
end
open Value (agg slice int bool tuple)
open Sy (Up Sees CallsG Seg execFn_use)
set_option maxRecDepth 100000
variable {k:World}{R:World→Value→Prop}
end Go.Proofs.YtifcjpacobpdmaaGreat

namespace Go.Proofs.YtifcjpacobpdmaaGreat
open Go.RowKit Num Plain W32
open Sy (Up Sees CallsG Seg)
section
variable {k k':World}{R:World→Value→Prop}{K L:Nat}{cs cs' ds es:Array Value}{f g:Nat→Q4}{p q:Nat→W4}{x y:W4}{v v':Q4}
theorem aBe (f:Nat→Q4) (n:Nat):cJ (miQ f) n=(cJ f n).conj:=vU f n
theorem aSz (f:Nat→Q4):vE (cJ (miQ f))=vE (cJ f):=bQ fun n _=>by rw [aBe,aEq]
end
open Value (agg slice int bool tuple)
open Sy (Up Sees CallsG Seg execFn_use)
set_option maxRecDepth 100000
variable {k:World}{R:World→Value→Prop}
end Go.Proofs.YtifcjpacobpdmaaGreat

namespace Go.Proofs.YtifcjpacobpdmaaGreat
open Go.RowKit Num Plain W32
open Sy (Up Sees CallsG Seg)
section
variable {k k':World}{R:World→Value→Prop}{K L:Nat}{cs cs' ds es c0 c1 c2:Array Value}{f g h r:Nat→Q4}{p q:Nat→W4}
def reQ (f:Nat→Q4) (i:Nat):Q4:=(Q4.real (-1)).mul (miQ f i)
theorem aLc (hx:RoundV k cs f K) (hK1:1≤K) (hK:K≤1000000) (C:∀k' ds,Up k k'→RoundV k' ds (reQ f) (K+2)→R k' (.agg ds)) :
 Cl k 96 #[.agg cs] R:=by
 intro k0 u0;refine aJz (hx.up u0).seg (rQ (hx.up u0) fun k1 d1 u1 h1=>⟨d1,h1.seg,rfl,?_⟩);refine mS (n:=-1) oz oz fun k2 d2 u2 h2=>⟨d2,h2.seg,rfl,?_⟩;refine aGe (h1.up u2) h2 hK1 oz oq oz fun k3 d3 u3 h3=>⟨d3,h3.seg,rfl,fun k4 u4=>?_⟩;exact C k4 d3 ((((u0.trans u1).trans u2).trans u3).trans u4) (RoundV.mono (h3.up u4) oq)
theorem aBo (hx:RoundV k c0 f K) (hy:RoundV k c1 g K) (hz:RoundV k c2 h K) (hK1:1≤K) (hK:K≤1000000) (C:∀k' a b c,Up k k'→RoundV k' a (miQ f) K→RoundV k' b (reQ h) (K+2)→RoundV k' c (reQ g) (K+2)→R k' (.agg (a.toList++(b.toList++(c.toList++([])))).toArray)) :
 Cl k 31 #[.agg (c0.toList++(c1.toList++(c2.toList++([])))).toArray] R:=by
 intro k0 u0;refine vS hx.seg hy.seg hz.seg (rQ (hx.up u0) fun k1 d1 u1 h1=>⟨d1,h1.seg,rfl,?_⟩);refine aLc ((hz.up u0).up u1) hK1 hK fun k2 d2 u2 h2=>⟨d2,h2.seg,rfl,?_⟩;refine aLc (((hy.up u0).up u1).up u2) hK1 hK fun k3 d3 u3 h3=>⟨d3,h3.seg,rfl,fun k4 u4=>?_⟩;exact C k4 d1 d2 d3 ((((u0.trans u1).trans u2).trans u3).trans u4) (((h1.up u2).up u3).up u4) ((h2.up u3).up u4) (h3.up u4)
theorem qH (f:Nat→Q4):(cJ (reQ f) 0).re=(cJ f 0).re.neg:=by
 have e:cJ (reQ f) 0=(ofR (Q4.real (-1))).mul ((cJ f 0).conj):=by
  rw [←aBe];have:=aBd (Q4.real (-1)) (miQ f) (fun _=>Q4.zero) 0;have z:cJ (fun _=>Q4.zero) 0=W4.zero:=by decide +kernel
  rw [z,W4.add_zero]at this;rw [←this];exact aBc (fun k _=>by rw [Q4.add_zero];rfl) 0
 rw [e,iU];show (Q4.real (-1)).mul (cJ f 0).re=_;refine Q4.ext' ?_ ?_ ?_ ?_ <;> (simp only [Q4.mul,Q4.real,Q4.neg];grind)
theorem aQe (f g:Nat→Q4):cone (reQ g) (reQ f)=(cone f g).neg:=by
 unfold cone;rw [qH,qH];refine Q4.ext' ?_ ?_ ?_ ?_ <;> (simp only [Q4.mul,Q4.real,Q4.neg,Q4.add];grind)
theorem aKx (f g:Nat→Q4):steer (reQ g) (reQ f)=steer f g:=by
 unfold steer;rw [qH,qH];refine Q4.ext' ?_ ?_ ?_ ?_ <;> (simp only [Q4.mul,Q4.real,Q4.neg,Q4.sub,Q4.add];grind)
end
theorem Q4.add_left (x y z:Q4):x.add (y.add z)=y.add (x.add z):=by rw [←Q4.add_assoc,Q4.add_comm x,Q4.add_assoc]
theorem Q4.mul_left (x y z:Q4):x.mul (y.mul z)=y.mul (x.mul z):=by rw [←Q4.mul_assoc,Q4.mul_comm x,Q4.mul_assoc]
theorem zG (f g:Nat→Q4):∀n,cK (fun k=>(f k).add (g k)) n=(cK f n).add (cK g n)
 | 0=>(Q4.add_zero _).symm
 | n+1=>by
  show (cK _ n).add ((f n).add (g n))=((cK f n).add (f n)).add ((cK g n).add (g n));rw [zG f g n,Q4.add_assoc,Q4.add_assoc,Q4.add_left (cK g n)]
theorem gO (c:Q4) (f:Nat→Q4):∀n,cK (fun k=>c.mul (f k)) n=c.mul (cK f n)
 | 0=>(Q4.mul_zero _).symm
 | n+1=>by
  show (cK _ n).add (c.mul (f n))=c.mul ((cK f n).add (f n));rw [gO c f n,Q4.mul_add]
theorem oH (f:Nat→Nat→Q4) (m:Nat):∀n,cK (fun k=>cK (f k) m) n=cK (fun j=>cK (fun k=>f k j) n) m
 | 0=>(sL m).symm
 | n+1=>by
  show (cK _ n).add (cK (f n) m)=cK (fun j=>(cK (fun k=>f k j) n).add (f n j)) m;rw [oH f m n,←zG]
theorem ker24:∀d,d<24→cK (fun n=>(wt n).mul (trn (n*d)).re) 13=Q4.real (if d=0 then 24 else 0):=by decide +kernel
theorem aPe (d:Nat):cK (fun n=>(wt n).mul (trn (n*d)).re) 13=Q4.real (if d % 24=0 then 24 else 0):=by
 rw [←ker24 _ (qp d oz)];refine bQ fun n _=>?_;rw [wL (a:=n*d) (b:=n*(d % 24)) (by rw [Nat.mul_mod,Nat.mul_mod n (d % 24),Nat.mod_mod])]
theorem aTv (f:Nat→Q4) (n k:Nat):((cJ f n).mul (trn (n*k))).re=(Q4.real (1/24)).mul (cK (fun j=>(f j).mul (trn (n*(23*j+k))).re) 24):=by
 unfold cJ;rw [W4.mul_assoc,W4.mul_comm (bK _ _),←nG,iU];show (Q4.real (1/24)).mul (bK _ 24).re=_;rw [wK];refine congrArg (Q4.mul (Q4.real (1/24))) (bQ fun j _=>?_);show ((trn (n*k)).mul ((ofR (f j)).mul (trn (23*n*j)))).re=_;rw [W4.mul_left,aQt,iU];show (f j).mul (trn _).re=_;rw [show n*k+23*n*j=n*(23*j+k) by rw [zw,Nat.mul_left_comm n 23 j,qt 23 n j];omega]
theorem aEd (f:Nat→Q4) {k:Nat}(hk:k<24):aLx (cJ f) k=f k:=by
 unfold aLx;have e1:∀n,(wt n).mul ((cJ f n).mul (trn (n*k))).re=(Q4.real (1/24)).mul (cK (fun j=>(f j).mul ((wt n).mul (trn (n*(23*j+k))).re)) 24):=fun n=>by
  rw [aTv,Q4.mul_left,←gO];refine congrArg (Q4.mul (Q4.real (1/24))) (bQ fun j _=>?_);rw [Q4.mul_left]
 rw [bQ fun n _=>e1 n,gO,oH];have e2:∀j,j<24→cK (fun n=>(f j).mul ((wt n).mul (trn (n*(23*j+k))).re)) 13=if j=k then (f j).mul (Q4.real 24) else Q4.zero:=fun j hj=>by
  rw [gO,aPe]
  by_cases e:j=k
  ·rw [og e,og oq]
  ·rw [oh e,oh oq];exact Q4.mul_zero _
 rw [bQ e2,pK hk fun j _ h=>oh h,og rfl,Q4.mul_left,Q4.real_mul,Q4.mul_comm];have:(1/24*24:Rat)=1:=by decide +kernel
 rw [this,Q4.one_mul]
theorem aPs (w:W4):w.norm=(w.mul w.conj).re:=by
 unfold W4.norm;refine Q4.ext' ?_ ?_ ?_ ?_ <;> (simp only [W4.mul,W4.conj,Q4.sub,Q4.add,Q4.mul,Q4.neg];grind)
theorem aKj (f:Nat→Q4) (n:Nat):(cJ f n).conj=(ofR (Q4.real (1/24))).mul (bK (fun k=>(ofR (f k)).mul (trn (n*k))) 24):=by
 unfold cJ;rw [W4.mul_conj,mD,oI];refine congrArg (W4.mul (ofR (Q4.real (1/24)))) (cI fun k _=>?_);rw [W4.mul_conj,mD,zM,wL (a:=23*(23*n*k)) (b:=n*k) (by rw [qt];omega)]
theorem aOs (f:Nat→Q4):vE (cJ f)=(cK (fun k=>(f k).mul (f k)) 24).mul (Q4.real (1/24)):=by
 have e1:∀n,(wt n).mul (cJ f n).norm=(Q4.real (1/24)).mul (cK (fun k=>(f k).mul ((wt n).mul ((cJ f n).mul (trn (n*k))).re)) 24):=fun n=>by
  rw [aPs,aKj,W4.mul_left,iU];show (wt n).mul ((Q4.real (1/24)).mul ((cJ f n).mul (bK _ 24)).re)=_;rw [←nG,wK,Q4.mul_left,←gO];refine congrArg (Q4.mul (Q4.real (1/24))) (bQ fun k _=>?_);rw [W4.mul_left,iU];show (wt n).mul ((f k).mul _)=_;rw [Q4.mul_left]
 unfold vE;rw [bQ fun n _=>e1 n,gO,oH,Q4.mul_comm];refine congrArg (fun x=>Q4.mul x (Q4.real (1/24))) (bQ fun k hk=>?_);rw [gO];exact congrArg (Q4.mul (f k)) (aEd f hk)
