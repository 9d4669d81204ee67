/- Several texts in one. (Printed by prep.py.) -/
import Derived.Test.YtmifbgccpdmjpaaGreatRdTx
import Derived.Laws.Strings2
import Derived.Laws.RangeString
import Derived.Test.YtmifbgccpdmjpaaGreatRdLB
set_option maxHeartbeats 4000000
set_option maxRecDepth 100000
namespace Go.Proofs.YtmifbgccpdmjpaaGreat
open Num
def digs (l:List UInt8):List UInt8:=l.takeWhile bZ
def aR (l:List UInt8):List UInt8:=l.dropWhile bZ
def fN (d:List UInt8):Prop:=d≠[]∧(d.length=1∨d.head?≠some 48)
instance (d:List UInt8):Decidable (fN d):=by unfold fN;exact inferInstance
def kP (neg:Bool) (n d:Nat):Rat:=mkRat (sgn neg n) d
def dX (neg:Bool) (d:List UInt8) (c:UInt8) (u:List UInt8):Int×Rat:=
 if c=47 then
  if fN (digs u)∧aR u=[] then if bJ (digs u)=0 then (3,0) else (0,kP neg (bJ d) (bJ (digs u))) else (2,0)
 else if c=46 then
  if digs u≠[]∧aR u=[] then (0,kP neg (bJ (d++digs u)) (10^(digs u).length)) else (2,0)
 else (2,0)
def dA (neg:Bool) (t:List UInt8):Int×Rat:=
 if fN (digs t) then
  match aR t with
  | []=>(0,kP neg (bJ (digs t)) 1)
  | c :: u=>dX neg (digs t) c u
 else (2,0)
def cC (s:List UInt8):Int×Rat:=
 if 4096<s.length then (4,0) else if s.head?=some 45 then dA true s.tail else dA false s
theorem dK (l:List UInt8):digs l++aR l=l:=List.takeWhile_append_dropWhile
theorem iY (l:List UInt8):(digs l).length≤l.length:=by
 have:=congrArg List.length (dK l);rw [oh]at this;omega
theorem fZ (l:List UInt8):∀c∈digs l,bZ c=true:=fun c hc=>by
 have h:∀l:List UInt8,∀c∈l.takeWhile bZ,bZ c=true:=by
  intro l
  induction l with
  | nil=>intro c hc;cases hc
  | cons x l ih=>
   intro c hc;rw [List.takeWhile_cons]at hc;split at hc
   ·rename_i hx;rcases vw.1 hc with rfl|hc
    ·exact hx
    ·exact ih c hc
   ·cases hc
 exact h l c hc
theorem aJi:∀n:Nat,n≠0→(dig n).head?≠some 48:=by
 intro n
 induction n using Nat.strongRecOn with
 | ind n ih=>
  intro h;rw [eT h]
  by_cases h0:n/10=0
  ·rw [h0,cN,xp,List.head?_cons];intro e;have e':=congrArg UInt8.toNat (xh e);rw [kM]at e';have:(48:UInt8).toNat=48:=rfl;omega
  ·have hne:dig (n/10)≠[]:=fun e=>by have:=sH h0;rw [e]at this;exact absurd this oz
   have hh:(dig (n/10)++[UInt8.ofNat (48+n % 10)]).head?=(dig (n/10)).head?:=by
    cases hd:dig (n/10) with
    | nil=>exact absurd hd hne
    | cons c d=>rfl
   rw [hh];exact ih _ oq h0
theorem wJ (n:Nat):fN (dec n):=by
 refine⟨mL n,?_⟩;unfold dec;split
 ·exact .inl rfl
 ·rename_i h;exact .inr (aJi n h)
theorem aEa {l t:List UInt8}(h:∀c∈l,bZ c=true) (ht:∀c,t.head?=some c→bZ c=false):digs (l++t)=l∧aR (l++t)=t:=by
 have e:digs (l++t)=l:=aQf h ht;have:=dK (l++t);rw [e]at this;exact⟨e,List.append_cancel_left this⟩
theorem aEx (q:Rat):sgn (decide (q.num<0)) q.num.natAbs=q.num:=by
 by_cases h:q.num<0
 ·rw [decide_eq_true h];show -(q.num.natAbs:Int)=q.num;omega
 ·rw [decide_eq_false h];show (q.num.natAbs:Int)=q.num;omega
theorem zX (q:Rat):dA (decide (q.num<0)) (core q)=(0,q):=by
 have hc:core q=dec q.num.natAbs++rE q.den:=rfl;obtain⟨e1,e2⟩:=aEa (rQ q.num.natAbs) (aDd q.den);unfold dA;rw [hc,e1,e2,om (wJ _),uF];unfold rE
 by_cases h:q.den=1
 ·rw [om h];show (0,kP _ _ 1)=_;unfold kP;rw [aEx,←h,wm]
 ·rw [og h];show dX _ _ 47 (dec q.den)=_;obtain⟨e3,e4⟩:=aEa (l:=dec q.den) (t:=[]) (rQ q.den) (fun c h=>by cases h);rw [qo]at e3 e4;unfold dX;rw [om rfl,e3,e4,om ⟨wJ _,rfl⟩,uF,og q.den_nz,uF];unfold kP;rw [aEx,wm]
theorem aCb (q:Rat) (h:(aC q).length≤4096):cC (aC q)=(0,q):=by
 unfold cC;rw [og oq];have h0:=zX q
 by_cases hn:q.num<0
 ·rw [om ((oH q).2 hn),dG,om hn];rw [decide_eq_true hn]at h0;exact h0
 ·rw [og fun c=>hn ((oH q).1 c),dG,og hn];rw [decide_eq_false hn]at h0;exact h0
theorem oS:∀ {l:List UInt8},(∀c∈l,bZ c=true)→bJ l<10^l.length:=by
 have key:∀(l:List UInt8) (a k:Nat),a<10^k→(∀c∈l,bZ c=true)→l.foldl (fun a c=>10*a+(c.toNat-48)) a<10^(k+l.length):=by
  intro l
  induction l with
  | nil=>intro a k h _;exact h
  | cons c l ih=>
   intro a k h hc;have h1:=hc c (vd ..);unfold bZ at h1;have h1:=ow h1;have:=ih (10*a+(c.toNat-48)) (k+1) (by rw [qi];omega) fun c hc'=>hc c (zl _ hc');rw [od,show k+(l.length+1)=k+1+l.length by omega];exact this
 intro l h;have:=key l 0 0 oz h
 rwa [qe]at this
theorem uE (l m:List UInt8):bJ (l++m)=m.foldl (fun a c=>10*a+(c.toNat-48)) (bJ l):=by
 unfold bJ;rw [List.foldl_append]
theorem aBm:∀(m:List UInt8) (a:Nat),m.foldl (fun a c=>10*a+(c.toNat-48)) a=a*10^m.length+bJ m:=by
 intro m
 induction m with
 | nil=>intro a;show a=a*1+0;omega
 | cons c m ih=>
  intro a;unfold bJ;rw [yz,yz,ih,ih (10*0+_),od,qi,jo];generalize 10^m.length=p;have:10*a*p=a*(p*10):=by rw [qy 10 a,jm,qy 10 p]
  rw [this,Nat.mul_zero,qe];omega
theorem aDi (l m:List UInt8):bJ (l++m)=bJ l*10^m.length+bJ m:=by rw [uE,aBm]
open IntKind (wrap)
open Go.RowKit
open Value (agg slice int bool tuple)
open Sy (Up Sees CallsG Seg execFn_use)
set_option maxRecDepth 100000
variable {k:World}{R:World→Value→Prop}{s0:ByteArray}{b1:Bool}
theorem aPs 
 (h:∃I0:Nat→World→List Value→Prop,(∃m0,∀k0,Up k k0→I0 m0 k0 [int .i64 0])∧
 ∀m0 k0 vs0,Up k k0→I0 m0 k0 vs0→∃n2,some [int .i64 n2]=some vs0∧
 ∃J1:World→List Value→Prop,(Tt∧(Br (decide ((n2:Int)<(ByteArray.size s0:Nat))) ((decide ((0:Int)≤n2∧(n2:Int)<(ByteArray.size s0:Nat)))=true∧
 (Br (decide (((UInt8.toNat (((s0:ByteArray)[Int.toNat n2]?).getD 0):Nat):Int) ≥ 48)) ((decide ((0:Int)≤n2∧(n2:Int)<(ByteArray.size s0:Nat)))=true∧
 (∀k1,Up k0 k1→J1 k1 [bool (decide (((UInt8.toNat (((s0:ByteArray)[Int.toNat n2]?).getD 0):Nat):Int)≤57))])) (∀k2,Up k0 k2→J1 k2 [bool false]))) (∀k3,Up k0 k3→J1 k3 [bool false])))∧
 ∀k4 vs4,Up k0 k4→J1 k4 vs4→∃b3,some [bool b3]=some vs4∧
 Br b3 (∀k5,Up k4 k5→∃m,m<m0∧I0 m k5 [int .i64 (wrap .i64 (n2+1))]) ((decide ((0:Int)≤n2))=true∧
 ((decide ((n2:Int)≤(ByteArray.size s0:Nat)))=true∧
 ((decide ((0:Int)≤n2))=true∧
 ((decide ((n2:Int)≤(ByteArray.size s0:Nat)))=true∧
 ((decide (((ByteArray.size s0:Nat):Int)≤(ByteArray.size s0:Nat)))=true∧
 (Br (decide ((n2:Int) > 0)) (Br (!b1) (Rt R k4 (tuple #[Value.string (ByteArray.extract s0 (Int.toNat 0) (Int.toNat n2)),Value.string (ByteArray.extract s0 (Int.toNat n2) (Int.toNat (ByteArray.size s0:Nat))),bool true])) (Br ((n2:Int) == 1) (Rt R k4 (tuple #[Value.string (ByteArray.extract s0 (Int.toNat 0) (Int.toNat n2)),Value.string (ByteArray.extract s0 (Int.toNat n2) (Int.toNat (ByteArray.size s0:Nat))),bool true])) ((decide ((0:Int)≤0∧(0:Int)<(ByteArray.size s0:Nat)))=true∧
 (Rt R k4 (tuple #[Value.string (ByteArray.extract s0 (Int.toNat 0) (Int.toNat n2)),Value.string (ByteArray.extract s0 (Int.toNat n2) (Int.toNat (ByteArray.size s0:Nat))),bool (((UInt8.toNat (((s0:ByteArray)[Int.toNat 0]?).getD 0):Nat):Int) != 48)]))))) (Rt R k4 (tuple #[Value.string (ByteArray.extract s0 (Int.toNat 0) (Int.toNat n2)),Value.string (ByteArray.extract s0 (Int.toNat n2) (Int.toNat (ByteArray.size s0:Nat))),bool false]))))))))) :
   CallsG Tryz.prog 212 #[Value.string s0,bool b1] k R:=
  qX { opq:=[],loops:=[(0,[.tmp 7 false [.int .i64]])],joins:=[(2,[.tmp 23 false [.bool]])] } [.one (.var 0),.one (.var 1)] [Value.string s0,bool b1] [.str,.bool] ⟨⟨_,rfl⟩,⟨_,rfl⟩,trivial⟩ h
theorem aPi 
 (h:∃I0:Nat→World→List Value→Prop,(∃m0,∀k0,Up k k0→I0 m0 k0 [int .i64 0])∧
 ∀m0 k0 vs0,Up k k0→I0 m0 k0 vs0→∃n1,some [int .i64 n1]=some vs0∧
 ∃J1:World→List Value→Prop,(Tt∧(Br (decide ((n1:Int)<(ByteArray.size s0:Nat))) ((decide ((0:Int)≤n1∧(n1:Int)<(ByteArray.size s0:Nat)))=true∧
 (Br (decide (((UInt8.toNat (((s0:ByteArray)[Int.toNat n1]?).getD 0):Nat):Int) ≥ 48)) ((decide ((0:Int)≤n1∧(n1:Int)<(ByteArray.size s0:Nat)))=true∧
 (∀k1,Up k0 k1→J1 k1 [bool (decide (((UInt8.toNat (((s0:ByteArray)[Int.toNat n1]?).getD 0):Nat):Int)≤57))])) (∀k2,Up k0 k2→J1 k2 [bool false]))) (∀k3,Up k0 k3→J1 k3 [bool false])))∧
 ∀k4 vs4,Up k0 k4→J1 k4 vs4→∃b2,some [bool b2]=some vs4∧
 Br b2 (∀k5,Up k4 k5→∃m,m<m0∧I0 m k5 [int .i64 (wrap .i64 (n1+1))]) (Rt R k4 (int .i64 n1))) :
  CallsG Tryz.prog 217 #[Value.string s0] k R:=
  qX { opq:=[],loops:=[(0,[.tmp 3 false [.int .i64]])],joins:=[(2,[.tmp 19 false [.bool]])] } [.one (.var 0)] [Value.string s0] [.str] ⟨⟨_,rfl⟩,trivial⟩ h
theorem aHt 
 (h:Cl k 217 #[Value.string s0] fun k1 r0=>Gi r0 fun n1=>
 Br (decide ((n1:Int) > 1)) ((decide ((0:Int)≤0∧(0:Int)<(ByteArray.size s0:Nat)))=true∧
 (Br (((UInt8.toNat (((s0:ByteArray)[Int.toNat 0]?).getD 0):Nat):Int) == 48) (Rt R k1 (int .i64 0)) (Rt R k1 (int .i64 n1)))) (Rt R k1 (int .i64 n1))) :
   CallsG Tryz.prog 215 #[Value.string s0] k R:=
  qX { opq:=[] } [.one (.var 0)] [Value.string s0] [.str] ⟨⟨_,rfl⟩,trivial⟩ h
theorem aLo 
 (h:∃I0:Nat→World→List Value→Prop,(∃m0,∀k0,Up k k0→I0 m0 k0 [slice none 0 0,int .i64 0])∧
 ∀m0 k0 vs0,Up k k0→I0 m0 k0 vs0→∃A1 l1 c1,∃n2,some [slice A1 l1 c1,int .i64 n2]=some vs0∧
 Tt∧(Br (decide ((n2:Int)<(ByteArray.size s0:Nat))) ((decide ((0:Int)≤n2∧(n2:Int)<(ByteArray.size s0:Nat)))=true∧
 (∀p3 k1,Up k0 k1→Sy.Blk k1 p3 356 #[int .u32 10]→
 Cl k1 218 #[slice A1 l1 c1,slice (some ⟨p3,0,none⟩) 1 1] fun k3 r2=>∃A4 l4 c4,some (slice A4 l4 c4)=some r2∧
 Cl k3 190 #[int .u64 (wrap .u64 (wrap .u8 ((UInt8.toNat (((s0:ByteArray)[Int.toNat n2]?).getD 0):Nat)-48)))] fun k5 r4=>∃A5 l5 c5,some (slice A5 l5 c5)=some r4∧
 Cl k5 220 #[slice A4 l4 c4,slice A5 l5 c5] fun k7 r6=>∃A6 l6 c6,some (slice A6 l6 c6)=some r6∧
 ∀k8,Up k7 k8→∃m,m<m0∧I0 m k8 [slice A6 l6 c6,int .i64 (wrap .i64 (n2+1))])) (Rt R k0 (slice A1 l1 c1)))) :
  CallsG Tryz.prog 216 #[Value.string s0] k R:=
  qX { opq:=[],loops:=[(0,[.tmp 3 false [.slice],.tmp 4 false [.int .i64]])] } [.one (.var 0)] [Value.string s0] [.str] ⟨⟨_,rfl⟩,trivial⟩ h
theorem aHm 
 (h:Cl k 79 #[int .i64 0] fun k1 r0=>Gt 3 r0 fun cs1=>
 Tt∧(Br (decide (((ByteArray.size s0:Nat):Int) > 4096)) (Rt R k1 (tuple #[agg cs1,int .i64 4])) (∃J3:World→List Value→Prop,(Tt∧(Br (decide (((ByteArray.size s0:Nat):Int) > 0)) ((decide ((0:Int)≤0∧(0:Int)<(ByteArray.size s0:Nat)))=true∧
 (∀k3,Up k1 k3→J3 k3 [bool (((UInt8.toNat (((s0:ByteArray)[Int.toNat 0]?).getD 0):Nat):Int) == 45)])) (∀k4,Up k1 k4→J3 k4 [bool false])))∧
 ∀k5 vs5,Up k1 k5→J3 k5 vs5→∃b2,some [bool b2]=some vs5∧
 Br b2 ((decide ((1:Int)≤(ByteArray.size s0:Nat)))=true∧
 ((decide (((ByteArray.size s0:Nat):Int)≤(ByteArray.size s0:Nat)))=true∧
 (Cl k5 215 #[Value.string (ByteArray.extract s0 (Int.toNat 1) (Int.toNat (ByteArray.size s0:Nat)))] fun k7 r6=>Gi r6 fun n3=>
 Br ((n3:Int) == 0) (Rt R k7 (tuple #[agg cs1,int .i64 2])) ((decide ((0:Int)≤n3))=true∧
 ((decide ((n3:Int)≤(ByteArray.size (ByteArray.extract s0 (Int.toNat 1) (Int.toNat (ByteArray.size s0:Nat))):Nat)))=true∧
 ((decide ((0:Int)≤n3))=true∧
 ((decide ((n3:Int)≤(ByteArray.size (ByteArray.extract s0 (Int.toNat 1) (Int.toNat (ByteArray.size s0:Nat))):Nat)))=true∧
 ((decide (((ByteArray.size (ByteArray.extract s0 (Int.toNat 1) (Int.toNat (ByteArray.size s0:Nat))):Nat):Int)≤(ByteArray.size (ByteArray.extract s0 (Int.toNat 1) (Int.toNat (ByteArray.size s0:Nat))):Nat)))=true∧
 (Br (ByteArray.toList (ByteArray.extract (ByteArray.extract s0 (Int.toNat 1) (Int.toNat (ByteArray.size s0:Nat))) (Int.toNat n3) (Int.toNat (ByteArray.size (ByteArray.extract s0 (Int.toNat 1) (Int.toNat (ByteArray.size s0:Nat))):Nat))) == ByteArray.toList ⟨#[]⟩) (Cl k7 216 #[Value.string (ByteArray.extract (ByteArray.extract s0 (Int.toNat 1) (Int.toNat (ByteArray.size s0:Nat))) (Int.toNat 0) (Int.toNat n3))] fun k10 r9=>∃A4 l4 c4,some (slice A4 l4 c4)=some r9∧
 ∀p5 k11,Up k10 k11→Sy.Blk k11 p5 356 #[int .u32 1]→
 Cl k11 189 #[bool b2,slice A4 l4 c4,slice (some ⟨p5,0,none⟩) 1 1] fun k13 r12=>Gt 3 r12 fun cs6=>
 Rt R k13 (tuple #[agg cs6,int .i64 0])) (∃J15:World→List Value→Prop,((decide ((1:Int)≤(ByteArray.size (ByteArray.extract (ByteArray.extract s0 (Int.toNat 1) (Int.toNat (ByteArray.size s0:Nat))) (Int.toNat n3) (Int.toNat (ByteArray.size (ByteArray.extract s0 (Int.toNat 1) (Int.toNat (ByteArray.size s0:Nat))):Nat))):Nat)))=true∧
 ((decide (((ByteArray.size (ByteArray.extract (ByteArray.extract s0 (Int.toNat 1) (Int.toNat (ByteArray.size s0:Nat))) (Int.toNat n3) (Int.toNat (ByteArray.size (ByteArray.extract s0 (Int.toNat 1) (Int.toNat (ByteArray.size s0:Nat))):Nat))):Nat):Int)≤(ByteArray.size (ByteArray.extract (ByteArray.extract s0 (Int.toNat 1) (Int.toNat (ByteArray.size s0:Nat))) (Int.toNat n3) (Int.toNat (ByteArray.size (ByteArray.extract s0 (Int.toNat 1) (Int.toNat (ByteArray.size s0:Nat))):Nat))):Nat)))=true∧
 (∀k15,Up k7 k15→J15 k15 [Value.string (ByteArray.extract (ByteArray.extract s0 (Int.toNat 1) (Int.toNat (ByteArray.size s0:Nat))) (Int.toNat 0) (Int.toNat n3)),Value.string (ByteArray.extract (ByteArray.extract s0 (Int.toNat 1) (Int.toNat (ByteArray.size s0:Nat))) (Int.toNat n3) (Int.toNat (ByteArray.size (ByteArray.extract s0 (Int.toNat 1) (Int.toNat (ByteArray.size s0:Nat))):Nat))),Value.string (ByteArray.extract (ByteArray.extract (ByteArray.extract s0 (Int.toNat 1) (Int.toNat (ByteArray.size s0:Nat))) (Int.toNat n3) (Int.toNat (ByteArray.size (ByteArray.extract s0 (Int.toNat 1) (Int.toNat (ByteArray.size s0:Nat))):Nat))) (Int.toNat 1) (Int.toNat (ByteArray.size (ByteArray.extract (ByteArray.extract s0 (Int.toNat 1) (Int.toNat (ByteArray.size s0:Nat))) (Int.toNat n3) (Int.toNat (ByteArray.size (ByteArray.extract s0 (Int.toNat 1) (Int.toNat (ByteArray.size s0:Nat))):Nat))):Nat)))])))∧
 ∀k16 vs16,Up k7 k16→J15 k16 vs16→∃s4,∃s5,∃s6,some [Value.string s4,Value.string s5,Value.string s6]=some vs16∧
 ∃J17:World→List Value→Prop,((decide ((0:Int)≤0∧(0:Int)<(ByteArray.size s5:Nat)))=true∧
 (Br (((UInt8.toNat (((s5:ByteArray)[Int.toNat 0]?).getD 0):Nat):Int) == 47) (Cl k16 215 #[Value.string s6] fun k18 r17=>Gi r17 fun n7=>
 Br (decide ((n7:Int) > 0)) (Cl k18 215 #[Value.string s6] fun k20 r19=>Gi r19 fun n8=>
 Tt∧(∀k21,Up k20 k21→J17 k21 [bool ((n8:Int) == (ByteArray.size s6:Nat))])) (∀k22,Up k18 k22→J17 k22 [bool false])) (∀k23,Up k16 k23→J17 k23 [bool false])))∧
 ∀k24 vs24,Up k16 k24→J17 k24 vs24→∃b7,some [bool b7]=some vs24∧
 Br b7 (Cl k24 216 #[Value.string s6] fun k26 r25=>∃A8 l8 c8,some (slice A8 l8 c8)=some r25∧
 Tt∧(Br (((l8:Nat):Int) == 0) (Rt R k26 (tuple #[agg cs1,int .i64 3])) (Cl k26 216 #[Value.string s4] fun k29 r28=>∃A9 l9 c9,some (slice A9 l9 c9)=some r28∧
 Cl k29 189 #[bool b2,slice A9 l9 c9,slice A8 l8 c8] fun k31 r30=>Gt 3 r30 fun cs10=>
 Rt R k31 (tuple #[agg cs10,int .i64 0])))) (∃J33:World→List Value→Prop,((decide ((0:Int)≤0∧(0:Int)<(ByteArray.size s5:Nat)))=true∧
 (Br (((UInt8.toNat (((s5:ByteArray)[Int.toNat 0]?).getD 0):Nat):Int) == 46) (Cl k24 217 #[Value.string s6] fun k34 r33=>Gi r33 fun n8=>
 Br (decide ((n8:Int) > 0)) (Cl k34 217 #[Value.string s6] fun k36 r35=>Gi r35 fun n9=>
 Tt∧(∀k37,Up k36 k37→J33 k37 [bool ((n9:Int) == (ByteArray.size s6:Nat))])) (∀k38,Up k34 k38→J33 k38 [bool false])) (∀k39,Up k24 k39→J33 k39 [bool false])))∧
 ∀k40 vs40,Up k24 k40→J33 k40 vs40→∃b8,some [bool b8]=some vs40∧
 Br b8 (∀p9 k41,Up k40 k41→Sy.Blk k41 p9 356 #[int .u32 1]→
 ∃I42:Nat→World→List Value→Prop,(∃m42,∀k42,Up k41 k42→I42 m42 k42 [slice (some ⟨p9,0,none⟩) 1 1,int .i64 0])∧
 ∀m42 k42 vs42,Up k41 k42→I42 m42 k42 vs42→∃A10 l10 c10,∃n11,some [slice A10 l10 c10,int .i64 n11]=some vs42∧
 Tt∧(Br (decide ((n11:Int)<(ByteArray.size s6:Nat))) (∀p12 k43,Up k42 k43→Sy.Blk k43 p12 356 #[int .u32 10]→
 Cl k43 218 #[slice A10 l10 c10,slice (some ⟨p12,0,none⟩) 1 1] fun k45 r44=>∃A13 l13 c13,some (slice A13 l13 c13)=some r44∧
 ∀k46,Up k45 k46→∃m,m<m42∧I42 m k46 [slice A13 l13 c13,int .i64 (wrap .i64 (n11+1))]) ((decide (((ByteArray.size s4+ByteArray.size s6:Nat):Int)≤9223372036854775807))=true∧
 (Cl k42 216 #[Value.string (s4++s6)] fun k48 r47=>∃A12 l12 c12,some (slice A12 l12 c12)=some r47∧
 Cl k48 189 #[bool b2,slice A12 l12 c12,slice A10 l10 c10] fun k50 r49=>Gt 3 r49 fun cs13=>
 Rt R k50 (tuple #[agg cs13,int .i64 0]))))) (Rt R k40 (tuple #[agg cs1,int .i64 2]))))))))))))) (Cl k5 215 #[Value.string s0] fun k54 r53=>Gi r53 fun n3=>
 Br ((n3:Int) == 0) (Rt R k54 (tuple #[agg cs1,int .i64 2])) ((decide ((0:Int)≤n3))=true∧
 ((decide ((n3:Int)≤(ByteArray.size s0:Nat)))=true∧
 ((decide ((0:Int)≤n3))=true∧
 ((decide ((n3:Int)≤(ByteArray.size s0:Nat)))=true∧
 ((decide (((ByteArray.size s0:Nat):Int)≤(ByteArray.size s0:Nat)))=true∧
 (Br (ByteArray.toList (ByteArray.extract s0 (Int.toNat n3) (Int.toNat (ByteArray.size s0:Nat))) == ByteArray.toList ⟨#[]⟩) (Cl k54 216 #[Value.string (ByteArray.extract s0 (Int.toNat 0) (Int.toNat n3))] fun k57 r56=>∃A4 l4 c4,some (slice A4 l4 c4)=some r56∧
 ∀p5 k58,Up k57 k58→Sy.Blk k58 p5 356 #[int .u32 1]→
 Cl k58 189 #[bool b2,slice A4 l4 c4,slice (some ⟨p5,0,none⟩) 1 1] fun k60 r59=>Gt 3 r59 fun cs6=>
 Rt R k60 (tuple #[agg cs6,int .i64 0])) (∃J62:World→List Value→Prop,((decide ((1:Int)≤(ByteArray.size (ByteArray.extract s0 (Int.toNat n3) (Int.toNat (ByteArray.size s0:Nat))):Nat)))=true∧
 ((decide (((ByteArray.size (ByteArray.extract s0 (Int.toNat n3) (Int.toNat (ByteArray.size s0:Nat))):Nat):Int)≤(ByteArray.size (ByteArray.extract s0 (Int.toNat n3) (Int.toNat (ByteArray.size s0:Nat))):Nat)))=true∧
 (∀k62,Up k54 k62→J62 k62 [Value.string (ByteArray.extract s0 (Int.toNat 0) (Int.toNat n3)),Value.string (ByteArray.extract s0 (Int.toNat n3) (Int.toNat (ByteArray.size s0:Nat))),Value.string (ByteArray.extract (ByteArray.extract s0 (Int.toNat n3) (Int.toNat (ByteArray.size s0:Nat))) (Int.toNat 1) (Int.toNat (ByteArray.size (ByteArray.extract s0 (Int.toNat n3) (Int.toNat (ByteArray.size s0:Nat))):Nat)))])))∧
 ∀k63 vs63,Up k54 k63→J62 k63 vs63→∃s4,∃s5,∃s6,some [Value.string s4,Value.string s5,Value.string s6]=some vs63∧
 ∃J64:World→List Value→Prop,((decide ((0:Int)≤0∧(0:Int)<(ByteArray.size s5:Nat)))=true∧
 (Br (((UInt8.toNat (((s5:ByteArray)[Int.toNat 0]?).getD 0):Nat):Int) == 47) (Cl k63 215 #[Value.string s6] fun k65 r64=>Gi r64 fun n7=>
 Br (decide ((n7:Int) > 0)) (Cl k65 215 #[Value.string s6] fun k67 r66=>Gi r66 fun n8=>
 Tt∧(∀k68,Up k67 k68→J64 k68 [bool ((n8:Int) == (ByteArray.size s6:Nat))])) (∀k69,Up k65 k69→J64 k69 [bool false])) (∀k70,Up k63 k70→J64 k70 [bool false])))∧
 ∀k71 vs71,Up k63 k71→J64 k71 vs71→∃b7,some [bool b7]=some vs71∧
 Br b7 (Cl k71 216 #[Value.string s6] fun k73 r72=>∃A8 l8 c8,some (slice A8 l8 c8)=some r72∧
 Tt∧(Br (((l8:Nat):Int) == 0) (Rt R k73 (tuple #[agg cs1,int .i64 3])) (Cl k73 216 #[Value.string s4] fun k76 r75=>∃A9 l9 c9,some (slice A9 l9 c9)=some r75∧
 Cl k76 189 #[bool b2,slice A9 l9 c9,slice A8 l8 c8] fun k78 r77=>Gt 3 r77 fun cs10=>
 Rt R k78 (tuple #[agg cs10,int .i64 0])))) (∃J80:World→List Value→Prop,((decide ((0:Int)≤0∧(0:Int)<(ByteArray.size s5:Nat)))=true∧
 (Br (((UInt8.toNat (((s5:ByteArray)[Int.toNat 0]?).getD 0):Nat):Int) == 46) (Cl k71 217 #[Value.string s6] fun k81 r80=>Gi r80 fun n8=>
 Br (decide ((n8:Int) > 0)) (Cl k81 217 #[Value.string s6] fun k83 r82=>Gi r82 fun n9=>
 Tt∧(∀k84,Up k83 k84→J80 k84 [bool ((n9:Int) == (ByteArray.size s6:Nat))])) (∀k85,Up k81 k85→J80 k85 [bool false])) (∀k86,Up k71 k86→J80 k86 [bool false])))∧
 ∀k87 vs87,Up k71 k87→J80 k87 vs87→∃b8,some [bool b8]=some vs87∧
 Br b8 (∀p9 k88,Up k87 k88→Sy.Blk k88 p9 356 #[int .u32 1]→
 ∃I89:Nat→World→List Value→Prop,(∃m89,∀k89,Up k88 k89→I89 m89 k89 [slice (some ⟨p9,0,none⟩) 1 1,int .i64 0])∧
 ∀m89 k89 vs89,Up k88 k89→I89 m89 k89 vs89→∃A10 l10 c10,∃n11,some [slice A10 l10 c10,int .i64 n11]=some vs89∧
 Tt∧(Br (decide ((n11:Int)<(ByteArray.size s6:Nat))) (∀p12 k90,Up k89 k90→Sy.Blk k90 p12 356 #[int .u32 10]→
 Cl k90 218 #[slice A10 l10 c10,slice (some ⟨p12,0,none⟩) 1 1] fun k92 r91=>∃A13 l13 c13,some (slice A13 l13 c13)=some r91∧
 ∀k93,Up k92 k93→∃m,m<m89∧I89 m k93 [slice A13 l13 c13,int .i64 (wrap .i64 (n11+1))]) ((decide (((ByteArray.size s4+ByteArray.size s6:Nat):Int)≤9223372036854775807))=true∧
 (Cl k89 216 #[Value.string (s4++s6)] fun k95 r94=>∃A12 l12 c12,some (slice A12 l12 c12)=some r94∧
 Cl k95 189 #[bool b2,slice A12 l12 c12,slice A10 l10 c10] fun k97 r96=>Gt 3 r96 fun cs13=>
 Rt R k97 (tuple #[agg cs13,int .i64 0]))))) (Rt R k87 (tuple #[agg cs1,int .i64 2])))))))))))))) :
  CallsG Tryz.prog 108 #[Value.string s0] k R:=
  qX { opq:=[49],loops:=[(1,[.tmp 11 false [.slice],.tmp 12 false [.int .i64]])],joins:=[(4,[.tmp 5 false [.bool]]),(13,[.tmp 7 false [.str],.tmp 8 false [.str],.tmp 9 false [.str]]),(14,[.tmp 49 false [.bool]]),(19,[.tmp 76 false [.bool]])] } [.one (.var 0)] [Value.string s0] [.str] ⟨⟨_,rfl⟩,trivial⟩ h
end Go.Proofs.YtmifbgccpdmjpaaGreat

namespace Go.Proofs.YtmifbgccpdmjpaaGreat
open IntKind (wrap)
open Go.RowKit Num
open Sy (Up Sees CallsG Seg)
theorem cO (l:List UInt8) (a b:Nat):ByteArray.extract (str l) a b=str ((l.drop a).take (b-a)):=ByteArray.extract_mk l a b
theorem gE (l:List UInt8) (i:Nat):(((str l:ByteArray)[i]?).getD 0)=l.getD i 0:=by
 by_cases h:i<l.length
 ·have h':i<(str l).size:=by rw [aA];exact h
  rw [getElem?_pos (str l) i h',qh,oo h];rfl
 ·have h':¬ i<(str l).size:=by rw [aA];exact h
  rw [getElem?_neg (str l) i h',qh,ol oq]
theorem nO {c:UInt8}:bZ c=true↔48≤c.toNat∧c.toNat≤57:=by unfold bZ;exact decide_eq_true_iff
theorem pD (l:List UInt8):digs l=l.take (digs l).length:=by
 have:=congrArg (List.take (digs l).length) (dK l);rw [List.take_left]at this;exact this
theorem vZ (l:List UInt8):aR l=l.drop (digs l).length:=by
 have:=congrArg (List.drop (digs l).length) (dK l);rw [List.drop_left]at this;exact this
theorem aNx:∀(l:List UInt8) (j:Nat),j<(digs l).length→bZ (l.getD j 0)=true:=fun l j h=>by
 have h1:=iY l;have h2:(digs l)[j]=l[j]' oq:=by
  have:=congrArg (fun x=>x[j]?) (pD l);simp only [oo h,zu,h,if_true]at this;rw [oo oq]at this;exact xh this
 rw [qh,oo oq,Option.getD_some,←h2];exact fZ l _ (wg h)
theorem aJj:∀(l:List UInt8),(digs l).length<l.length→bZ (l.getD (digs l).length 0)=false:=by
 intro l;unfold digs
 induction l with
 | nil=>intro h;exact absurd h oz
 | cons c l ih=>
  intro h;rw [List.takeWhile_cons]at h ⊢;cases e:bZ c with
  | true=>
   simp only [e,if_true,od]at h ⊢;exact ih oq
  | false=>
   simp only [e]at h ⊢;exact e
theorem aDz {l:List UInt8}{j:Nat}(hj:j≤(digs l).length) (hl:j<l.length):bZ (l.getD j 0)=decide (j<(digs l).length):=by
 by_cases h:j<(digs l).length
 ·rw [decide_eq_true h];exact aNx l j h
 ·rw [decide_eq_false h];have e:j=(digs l).length:=oq
  subst e;exact aJj l hl
theorem rR (l:List UInt8) (h:l≠[]):l.head?=some (l.getD 0 0):=by
 cases l with
 | nil=>exact absurd rfl h
 | cons c l=>rfl
theorem vI {l:List UInt8}(h:digs l≠[]):(digs l).head?=l.head?:=by
 have e:=dK l;cases hd:digs l with
 | nil=>exact absurd hd h
 | cons c d=>
  rw [hd]at e;rw [←e];rfl
theorem eH {c:UInt8}{n:Nat}(h:n<256):((c.toNat:Int) == (n:Int))=decide (c=UInt8.ofNat n):=by
 have e:(UInt8.ofNat n).toNat=n:=by rw [UInt8.toNat_ofNat'];exact oa h
 by_cases hc:c=UInt8.ofNat n
 ·subst hc;rw [e,decide_eq_true rfl];exact beq_self_eq_true _
 ·rw [decide_eq_false hc];refine beq_eq_false_iff_ne.2 fun h'=>hc (UInt8.toNat_inj.1 (by rw [e];omega))
theorem aDk {j:Nat}(h:j<1000000):wrap .i64 ((j:Int)+1)=((j+1:Nat):Int):=by rw [kz];omega
def okD (plain:Bool) (d:List UInt8):Bool:=decide (d≠[]∧(plain=false∨fN d))
section
variable {k k':World}{R:World→Value→Prop}{l:List UInt8}{pl:Bool}
theorem aTb (hl:l.length≤100000) (C:∀k',Up k k'→R k' (.tuple #[.string (str (digs l)),.string (str (aR l)),.bool (okD pl (digs l))])) :
 Cl k 212 #[.string (str l),.bool pl] R:=by
 intro k0 u0;replace C:=fun k' u=>C k' (u0.trans u);have hD:=iY l;refine aPs ⟨fun m _ vs=>∃j,j+m=(digs l).length∧vs=[.int .i64 ((j:Nat):Int)],⟨(digs l).length,fun _ _=>⟨0,qe _,rfl⟩⟩,?_⟩;rintro m k1 vs u1 ⟨j,hj,rfl⟩;refine⟨_,rfl,fun _ vs=>vs=[.bool (decide (j<(digs l).length))],⟨rfl,fun h1=>?_,fun h1 k2 u2=>?_⟩,?_⟩
 ·rw [aA]at h1;have hlt:=ow h1;have hlt:j<l.length:=oq
  have hd:=aDz (l:=l) (j:=j) oq hlt;have ix:decide ((0:Int)≤(j:Int)∧((j:Int):Int)<((str l).size:Nat))=true:=decide_eq_true ⟨oq,by rw [aA];omega⟩;rw [ot,gE];refine⟨ix,fun h2=>⟨ix,fun k2 u2=>?_⟩,fun h2 k2 u2=>?_⟩
  ·have h2:=ow h2;rw [←hd]
   congr 2
   unfold bZ
   congr 1
   apply propext;constructor
   ·intro h;exact⟨oq,oq⟩
   ·intro h;omega
  ·have h2:=ov h2;rw [←hd]
   congr 2
   refine (yu.2 fun h=>?_).symm;have:=(nO.1 h).1;omega
 ·rw [aA]at h1;have h1:=ov h1;rw [decide_eq_false oq]
 ·rintro k2 vs u2 rfl;refine⟨_,rfl,fun hb k3 u3=>?_,fun hb=>?_⟩
  ·have:=ow hb;exact⟨m-1,oq,j+1,oq,by rw [aDk oq]⟩
  have hb:=ov hb;have ej:j=(digs l).length:=oq
  subst ej;have p1:decide ((0:Int)≤((digs l).length:Int))=true:=decide_eq_true oq;have p2:decide ((((digs l).length:Nat):Int)≤((str l).size:Nat))=true:=decide_eq_true (by rw [aA];omega);have e1:ByteArray.extract (str l) (Int.toNat 0) (Int.toNat ((digs l).length:Int))=str (digs l):=by
   rw [cO,show Int.toNat 0=0 from rfl,ot,kj,yb,←pD]
  have e2:ByteArray.extract (str l) (Int.toNat ((digs l).length:Int)) (Int.toNat ((str l).size:Nat))=str (aR l):=by
   rw [cO,ot,ot,aA,vZ,jx (by rw [jr];exact oy _)]
  rw [e1,e2];refine⟨p1,p2,p1,p2,decide_eq_true (vf _),fun h0=>⟨fun hp k3 u3=>?_,fun hp=>⟨fun h1 k3 u3=>?_,fun h1=>⟨?_,fun k3 u3=>?_⟩⟩⟩,fun h0 k3 u3=>?_⟩
  all_goals first
   | (have h0':=ow h0
      have hne:digs l≠[]:=fun e=>by rw [e]at h0';exact absurd h0' oz
      have hln:l≠[]:=fun e=>hne (by rw [e];rfl))
   | skip
  ·have:=C k3 (u1.trans (u2.trans u3));unfold okD at this
   rwa [decide_eq_true ⟨hne,.inl (by simpa using hp)⟩]at this
  ·have:=C k3 (u1.trans (u2.trans u3));have e:(digs l).length=1:=by have:=eq_of_beq h1;omega
   unfold okD at this
   rwa [decide_eq_true ⟨hne,.inr ⟨hne,.inl e⟩⟩]at this
  ·exact decide_eq_true ⟨oq,by rw [aA];have:=zd.2 hln;omega⟩
  ·have:=C k3 (u1.trans (u2.trans u3));have e:¬ (digs l).length=1:=fun e=>by rw [e]at h1;exact absurd h1 oz
   have hp':pl=true:=by simpa using hp
   have hb:okD pl (digs l)=((((str l:ByteArray)[Int.toNat 0]?).getD 0).toNat != (48:Int)):=by
    rw [show Int.toNat 0=0 from rfl,gE];have hh:(digs l).head?=some (l.getD 0 0):=by rw [vI hne,rR l hln]
    have hn:=eH (c:=l.getD 0 0) (n:=48) oz;show _=!(((l.getD 0 0).toNat:Int) == ((48:Nat):Int));rw [hn];unfold okD;rw [hp']
    by_cases hc:l.getD 0 0=UInt8.ofNat 48
    ·rw [decide_eq_true hc];refine decide_eq_false fun ⟨_,h⟩=>?_;rcases h with h|h
     ·cases h
     ·rcases h.2 with h|h
      ·exact e h
      ·exact h (by rw [hh,hc];rfl)
    ·rw [decide_eq_false hc];exact decide_eq_true ⟨hne,.inr ⟨hne,.inr fun h=>hc (xh (hh.symm.trans h))⟩⟩
   rwa [hb]at this
  ·have h0':=ov h0;have hne:digs l=[]:=xz.1 oq;have:=C k3 (u1.trans (u2.trans u3));unfold okD at this
   rwa [decide_eq_false fun h=>h.1 hne]at this
theorem aCo (hl:l.length≤100000) (C:∀k',Up k k'→R k' (.int .i64 ((digs l).length:Int))) :
 Cl k 217 #[.string (str l)] R:=by
 intro k0 u0;replace C:=fun k' u=>C k' (u0.trans u);have hD:=iY l;refine aPi ⟨fun m _ vs=>∃j,j+m=(digs l).length∧vs=[.int .i64 ((j:Nat):Int)],⟨(digs l).length,fun _ _=>⟨0,qe _,rfl⟩⟩,?_⟩;rintro m k1 vs u1 ⟨j,hj,rfl⟩;refine⟨_,rfl,fun _ vs=>vs=[.bool (decide (j<(digs l).length))],⟨rfl,fun h1=>?_,fun h1 k2 u2=>?_⟩,?_⟩
 ·rw [aA]at h1;have hlt:=ow h1;have hlt:j<l.length:=oq
  have hd:=aDz (l:=l) (j:=j) oq hlt;have ix:decide ((0:Int)≤(j:Int)∧((j:Int):Int)<((str l).size:Nat))=true:=decide_eq_true ⟨oq,by rw [aA];omega⟩;rw [ot,gE];refine⟨ix,fun h2=>⟨ix,fun k2 u2=>?_⟩,fun h2 k2 u2=>?_⟩
  ·have h2:=ow h2;rw [←hd]
   congr 2
   unfold bZ
   congr 1
   apply propext;constructor
   ·intro h;exact⟨oq,oq⟩
   ·intro h;omega
  ·have h2:=ov h2;rw [←hd]
   congr 2
   refine (yu.2 fun h=>?_).symm;have:=(nO.1 h).1;omega
 ·rw [aA]at h1;have h1:=ov h1;rw [decide_eq_false oq]
 ·rintro k2 vs u2 rfl;refine⟨_,rfl,fun hb k3 u3=>?_,fun hb k3 u3=>?_⟩
  ·have:=ow hb;exact⟨m-1,oq,j+1,oq,by rw [aDk oq]⟩
  ·have hb:=ov hb;have ej:j=(digs l).length:=oq
   subst ej;exact C k3 (u1.trans (u2.trans u3))
def iH (l:List UInt8):Nat:=if fN (digs l) then (digs l).length else 0
theorem tR (hl:l.length≤100000) (C:∀k',Up k k'→R k' (.int .i64 (iH l:Int))) :
 Cl k 215 #[.string (str l)] R:=by
 intro k0 u0;replace C:=fun k' u=>C k' (u0.trans u);unfold iH at C;refine aHt (aCo hl fun k1 u1=>⟨_,rfl,fun h1=>?_,fun h1 k2 u2=>?_⟩)
 ·have h1:=ow h1;have hne:digs l≠[]:=fun e=>by rw [e]at h1;exact absurd h1 oz
  have hln:l≠[]:=fun e=>hne (by rw [e];rfl);have hh:(digs l).head?=some (l.getD 0 0):=by rw [vI hne,rR l hln]
  rw [show Int.toNat 0=0 from rfl,gE];have hn:=eH (c:=l.getD 0 0) (n:=48) oz;refine⟨decide_eq_true ⟨oq,by rw [aA];have:=zd.2 hln;omega⟩,fun h2 k2 u2=>?_,fun h2 k2 u2=>?_⟩
  ·have hc:l.getD 0 0=UInt8.ofNat 48:=ow (hn.symm.trans h2);rw [og fun h=>?_]at C
   ·exact C k2 (u1.trans u2)
   ·rcases h.2 with h|h
    ·omega
    ·exact h (by rw [hh,hc];rfl)
  ·have hc:¬ l.getD 0 0=UInt8.ofNat 48:=ov (hn.symm.trans h2);rw [om ⟨hne,.inr fun h=>hc (by rw [hh]at h;exact xh h)⟩]at C;exact C k2 (u1.trans u2)
 ·have h1:=ov h1
  by_cases h0:digs l=[]
  ·rw [og fun h=>h.1 h0]at C;rw [h0];exact C k2 (u1.trans u2)
  ·rw [om ⟨h0,.inl (by have:=zd.2 h0;omega)⟩]at C;exact C k2 (u1.trans u2)
end
open Sy (Up Sees CallsG Seg cellAt)
theorem aIj (l:List UInt8) (c:UInt8):bJ (l++[c])=bJ l*10+(c.toNat-48):=by
 rw [uE];show 10*bJ l+(c.toNat-48)=_;omega
theorem aIc {l:List UInt8}{j:Nat}(h:j<l.length):l.take (j+1)=l.take j++[l.getD j 0]:=by
 rw [List.take_add_one,oo h,qh,oo h];rfl
namespace W32
section
variable {k k':World}{R:World→Value→Prop}{l:List UInt8}
theorem aMk {p:Nat}(h:Sy.Blk k p 356 #[Value.int .u32 10]):NatN k (some ⟨p,0,none⟩) 1 1 10:=
 ⟨⟨oz,oy _,fun q hq=>by
   have:q=0:=oq
   subst this;unfold cellAt;simp only [qe,h.cell]
   rfl⟩,(jD (Len.one oz oz)).symm⟩
theorem aBx {m K:Nat}(h:m<10^K):nw m≤K:=aQ (qu h (xk oz K))
theorem rW (hd:∀c∈l,bZ c=true) (hl:l.length≤10000) (C:∀k' A c,Up k k'→NatN k' A (nw (bJ l)) c (bJ l)→nw (bJ l)≤l.length→R k' (.slice A (nw (bJ l)) c)) :
 Cl k 216 #[.string (str l)] R:=by
 intro k0 u0;replace C:=fun k' A c u=>C k' A c (u0.trans u);have small:∀j,nw (bJ (l.take j))≤j:=fun j=>by
  refine qr (aBx (oS fun c hc=>hd c (List.mem_of_mem_take hc))) ?_;rw [ja];omega
 refine aLo ⟨fun m k' vs=>∃j A c,j+m=l.length∧vs=[.slice A (nw (bJ (l.take j))) c,.int .i64 ((j:Nat):Int)]∧NatN k' A (nw (bJ (l.take j))) c (bJ (l.take j)),⟨l.length,fun k' _=>⟨0,none,0,qe _,by rw [List.take_zero,show bJ []=0 from rfl,nw_zero];rfl,by rw [List.take_zero,show bJ []=0 from rfl,nw_zero];exact NatN.none k'⟩⟩,?_⟩;rintro m k1 vs u1 ⟨j,A,c,hj,rfl,hN⟩;refine⟨A,_,c,_,rfl,rfl,fun hlt=>?_,fun hge k2 u2=>?_⟩
 ·rw [aA]at hlt;have hlt:=ow hlt;have hlt:j<l.length:=oq
  refine⟨decide_eq_true ⟨oq,by rw [aA];omega⟩,fun p k2 u2 hb=>?_⟩;have sj:=small j;refine dL (K:=20000) (hN.up u2).1 (aMk hb).1 oq oz oz fun k3 A3 c3 u3 h3 s3=>⟨A3,_,c3,rfl,?_⟩;have hc:bZ (l.getD j 0)=true:=by
   rw [qh,oo hlt];exact hd _ (wg hlt)
  obtain⟨c1,c2⟩:=nO.1 hc;have ew:wrap .u64 (wrap .u8 (((((str l:ByteArray)[Int.toNat (j:Int)]?).getD 0).toNat:Int)-48))=(((l.getD j 0).toNat-48:Nat):Int):=by
   rw [ot,gE];generalize (l.getD j 0).toNat=z at *
   have e1:wrap .u8 ((z:Int)-48)=((z-48:Nat):Int):=by
    show ((z:Int)-48) % 256=_;omega
   rw [e1];show ((z-48:Nat):Int) % 18446744073709551616=_;omega
  rw [ew];refine zK oq fun k4 A4 c4 u4 h4=>⟨A4,_,c4,rfl,?_⟩;have s4:nw ((l.getD j 0).toNat-48)≤1:=aBx oq;refine aQy (K:=20001) (h3.up u4).1 h4.1 oq oq oz fun k5 A5 c5 u5 h5 _=>⟨A5,_,c5,rfl,fun k6 u6=>?_⟩;have ev:bJ (l.take (j+1))=bJ (l.take j)*10+((l.getD j 0).toNat-48):=by rw [aIc hlt,aIj]
  exact⟨m-1,oq,j+1,A5,c5,oq,by rw [ev,aDk oq],by rw [ev];exact h5.up u6⟩
 ·rw [aA]at hge;have hge:=ov hge;have e:l.take j=l:=jx oq;have sj:=small j;rw [e]at hN sj ⊢;exact C k2 A c (u1.trans u2) (hN.up u2) oq
end
end W32
section
variable {k k':World}{R:World→Value→Prop}{l:List UInt8}
theorem aKa {c:UInt8}:((c.toNat:Int) == 45)=decide (c=45):=eH (n:=45) oz
theorem aQt {c:UInt8}:((c.toNat:Int) == 46)=decide (c=46):=eH (n:=46) oz
theorem aKb {c:UInt8}:((c.toNat:Int) == 47)=decide (c=47):=eH (n:=47) oz
theorem aQa {l:List UInt8}:(ByteArray.toList (str l) == ByteArray.toList ⟨#[]⟩)=decide (l=[]):=by
 by_cases h:l=[]
 ·subst h;rw [decide_eq_true rfl];exact beq_self_eq_true _
 ·rw [decide_eq_false h];refine yu.2 fun e=>h ?_;have:=congrArg (fun b:ByteArray=>b.data.toList) (toList_inj.1 e);simpa [str] using this
theorem aIk {u:List UInt8}(h:0<iH u):((iH u:Int) == ((str u).size:Nat))=decide (fN (digs u)∧aR u=[]):=by
 have hw:fN (digs u):=zm fun g=>by unfold iH at h;rw [og g]at h;exact absurd h oz
 have e:iH u=(digs u).length:=om hw;have hl:=congrArg List.length (dK u);rw [oh]at hl;rw [aA,e]
 by_cases hr:aR u=[]
 ·rw [decide_eq_true ⟨hw,hr⟩];rw [hr]at hl;have:(digs u).length=u.length:=by simpa using hl
  rw [this];exact beq_self_eq_true _
 ·rw [decide_eq_false fun g=>hr g.2];have:=zd.2 hr;exact beq_eq_false_iff_ne.2 oq
theorem aPp {u:List UInt8}(h:0<(digs u).length):(((digs u).length:Int) == ((str u).size:Nat))=decide (digs u≠[]∧aR u=[]):=by
 have hl:=congrArg List.length (dK u);rw [oh]at hl;rw [aA];have hd:digs u≠[]:=zd.1 h
 by_cases hr:aR u=[]
 ·rw [decide_eq_true ⟨hd,hr⟩];rw [hr]at hl;have:(digs u).length=u.length:=by simpa using hl
  rw [this];exact beq_self_eq_true _
 ·rw [decide_eq_false fun g=>hr g.2];have:=zd.2 hr;exact beq_eq_false_iff_ne.2 oq
theorem vS {u:List UInt8}(h:¬ 0<iH u):¬ fN (digs u):=fun g=>h (by
 have e:iH u=(digs u).length:=om g
 rw [e];exact zd.2 g.1)
theorem xZ {u:List UInt8}(h:aR u=[]):digs u=u:=by have:=dK u;rw [h,qo]at this;exact this
open W32 in
theorem aAf (hl:l.length≤5000) (C:∀k' ds,Up k k'→QV k' ds (cC l).2 10001→R k' (.tuple #[.agg ds,.int .i64 (cC l).1])) :
 Cl k 108 #[.string (str l)] R:=by
 intro k0 u0;replace C:=fun k' ds u=>C k' ds (u0.trans u);refine aHm (oU oz oz fun k1 d1 u1 h1=>⟨d1,h1.seg,rfl,rfl,fun h2 k2 u2=>?_,fun h2=>?_⟩)
 ·rw [aA]at h2;have h2:=ow h2;have:=C k2 d1 (u1.trans u2);unfold cC at this;rw [om oq]at this;exact this ((h1.up u2).mono oz)
 rw [aA]at h2;have h2:=ov h2;have hS:cC l=if l.head?=some 45 then dA true l.tail else dA false l:=by unfold cC;rw [og oq]
 rw [hS]at C;refine⟨fun _ vs=>vs=[.bool (decide (l.head?=some 45))],⟨rfl,fun h3=>⟨?_,fun k3 u3=>?_⟩,fun h3 k3 u3=>?_⟩,?_⟩
 ·rw [aA]at h3;have h3:=ow h3;exact decide_eq_true ⟨oz,by rw [aA];omega⟩
 ·rw [aA]at h3;have h3:=ow h3;have hne:l≠[]:=fun e=>by rw [e]at h3;exact absurd h3 oz
  rw [show Int.toNat 0=0 from rfl,gE,aKa,rR l hne]
  congr 2
  exact decide_eq_decide.2 ⟨fun h=>by rw [h],fun h=>xh h⟩
 ·rw [aA]at h3;have h3:=ov h3;have hne:l=[]:=xz.1 oq;subst hne;rfl
 rintro k3 vs u3 rfl;obtain⟨neg,hneg⟩:∃neg,neg=decide (l.head?=some 45):=⟨_,rfl⟩;rw [←hneg];refine⟨_,rfl,fun hb=>⟨?_,decide_eq_true (vf _),?_⟩,fun hb=>?_⟩
 ·rw [hb]at hneg;have hneg:=ow hneg.symm;have hne:l≠[]:=fun e=>by rw [e]at hneg;cases hneg
  have hlen:=zd.2 hne;exact decide_eq_true (by rw [aA];omega)
 have hh:l.head?=some 45:=ow (hneg.symm.trans hb);rw [om hh,←hb]at C;have e1:ByteArray.extract (str l) (Int.toNat 1) (Int.toNat ((str l).size:Nat))=str l.tail:=by
  rw [cO,ot,aA,show Int.toNat 1=1 from rfl,jx (by rw [jr];exact oy _),List.drop_one]
 rw [e1];have ht:l.tail.length≤5000:=by rw [List.length_tail];omega
 clear e1 hS h2 hl hh hneg hb;generalize l.tail=t at *
 rotate_left 1
 have hh:¬ l.head?=some 45:=ov (hneg.symm.trans hb);rw [og hh,←hb]at C;have ht:=hl;clear hS h2 hl hh hneg hb;generalize l=t at *
 all_goals
  refine tR oq fun k4 u4=>⟨_,rfl,fun h4 k5 u5=>?_,fun h4=>?_⟩
  ·have h4:iH t=0:=by have:=eq_of_beq h4;omega
   have hw:¬ fN (digs t):=vS oq;have:=C k5 d1 (u1.trans (u3.trans (u4.trans u5)));unfold dA at this;rw [og hw]at this;exact this ((h1.up (u3.trans (u4.trans u5))).mono oz)
  have hw:fN (digs t):=zm fun h=>by
   have:iH t=0:=og h;rw [this]at h4;exact absurd h4 oz
  have en:iH t=(digs t).length:=om hw;rw [en];clear h4 en;have hD:=iY t;have q1:decide ((0:Int)≤((digs t).length:Int))=true:=decide_eq_true oq;have q2:decide ((((digs t).length:Nat):Int)≤((str t).size:Nat))=true:=decide_eq_true (by rw [aA];omega);have e1:ByteArray.extract (str t) (Int.toNat 0) (Int.toNat ((digs t).length:Int))=str (digs t):=by
   rw [cO,show Int.toNat 0=0 from rfl,ot,kj,yb,←pD]
  have e2:ByteArray.extract (str t) (Int.toNat ((digs t).length:Int)) (Int.toNat ((str t).size:Nat))=str (aR t):=by
   rw [cO,ot,ot,aA,vZ,jx (by rw [jr];exact oy _)]
  rw [e1,e2,aQa];have hT:dA neg t=match aR t with | []=>(0,kP neg (bJ (digs t)) 1)|c :: u=>dX neg (digs t) c u:=by unfold dA;exact (om hw).trans (by cases aR t <;> rfl)
  rw [hT]at C;refine⟨q1,q2,q1,q2,decide_eq_true (vf _),fun h5=>?_,fun h5=>?_⟩
  ·have hr:aR t=[]:=ow h5;rw [hr]at C;refine rW (fZ t) oq fun k5 A5 c5 u5 h5 s5=>⟨A5,_,c5,rfl,fun p k6 u6 hb6=>?_⟩;refine pF (K:=10001) (h5.up u6) (sZ hb6) oz oq oz oz rfl fun k7 g A l' c A' l'' c' u7 hq b1 b2=>⟨_,QV.seg ⟨g,A,l',c,A',l'',c',rfl,hq,b1,b2⟩,rfl,fun k8 u8=>?_⟩;exact C k8 _ (u1.trans (u3.trans (u4.trans (u5.trans (u6.trans (u7.trans u8)))))) ⟨g,A,l',c,A',l'',c',rfl,hq.up u8,b1,b2⟩
  have hr:aR t≠[]:=ov h5;obtain⟨c,u,hcu⟩:∃c u,aR t=c :: u:=by
   cases h:aR t with
   | nil=>exact absurd h hr
   | cons c u=>exact⟨c,u,rfl⟩
  have hu:u.length≤5000:=by
   have:=congrArg List.length (dK t);rw [oh,hcu,od]at this;omega
  rw [hcu]at C ⊢;have e3:ByteArray.extract (str (c :: u)) (Int.toNat 1) (Int.toNat ((str (c :: u)).size:Nat))=str u:=by
   rw [cO,ot,aA,show Int.toNat 1=1 from rfl,jx (by rw [jr];exact oy _)];rfl
  rw [e3];refine⟨fun _ vs=>vs=[.string (str (digs t)),.string (str (c :: u)),.string (str u)],⟨decide_eq_true (by rw [aA,od];omega),decide_eq_true (vf _),fun k5 u5=>rfl⟩,?_⟩;rintro k5 vs u5 rfl;refine⟨_,_,_,rfl,?_⟩;have ix:decide ((0:Int)≤0∧(0:Int)<((str (c :: u)).size:Nat))=true:=decide_eq_true ⟨oz,by rw [aA,od];omega⟩;have hc0:(((str (c :: u):ByteArray)[Int.toNat 0]?).getD 0)=c:=gE (c :: u) 0;rw [hc0,aKb,aQt];have v5:=u1.trans (u3.trans (u4.trans u5));replace h1:=h1.up (u3.trans (u4.trans u5));replace C:=fun k' ds u=>C k' ds (v5.trans u);clear u1 u3 u4 u5 v5 e1 e2 e3 hc0 hT q1 q2 h5 hr;refine⟨fun _ vs=>vs=[.bool (decide (c=47∧fN (digs u)∧aR u=[]))],⟨ix,fun h6=>?_,fun h6 k6 u6=>?_⟩,?_⟩
  ·have h6:=ow h6;refine tR oq fun k6 u6=>⟨_,rfl,fun h7=>?_,fun h7 k7 u7=>?_⟩
   ·have h7:=ow h7;refine tR oq fun k7 u7=>⟨_,rfl,rfl,fun k8 u8=>?_⟩;rw [aIk oq]
    congr 2
    exact decide_eq_decide.2 ⟨fun h=>⟨h6,h⟩,fun h=>h.2⟩
   ·have h7:=ov h7;rw [decide_eq_false fun h=>vS oq h.2.1]
  ·have h6:=ov h6;rw [decide_eq_false fun h=>h6 h.1]
  rintro k6 vs u6 rfl;refine⟨_,rfl,fun h7=>?_,fun h7=>?_⟩
  ·obtain⟨rfl,hwu,hru⟩:=ow h7;have hdu:=xZ hru;have hP:dX neg (digs t) 47 u=if bJ u=0 then (3,0) else (0,kP neg (bJ (digs t)) (bJ u)):=by
    unfold dX;rw [om rfl,om ⟨hwu,hru⟩,hdu]
   simp only [hP]at C;refine rW (l:=u) (by rw [←hdu];exact fZ u) oq fun k7 A7 c7 u7 h7 s7=>⟨A7,_,c7,rfl,rfl,fun h8 k8 u8=>?_,fun h8=>?_⟩
   ·have h8:bJ u=0:=W32.bF.1 (by have:=eq_of_beq h8;omega);have:=C k8 d1 (u6.trans (u7.trans u8));rw [om h8]at this;exact this ((h1.up (u6.trans (u7.trans u8))).mono oz)
   ·have h8:bJ u≠0:=fun e=>by rw [e,W32.nw_zero]at h8;exact absurd h8 oz
    rw [og h8]at C;refine rW (fZ t) oq fun k8 A8 c8 u8 h9 s9=>⟨A8,_,c8,rfl,?_⟩;refine pF (K:=10001) h9 (h7.up u8) oq oq oq oz rfl fun k9 g A l' c A' l'' c' u9 hq b1 b2=>⟨_,QV.seg ⟨g,A,l',c,A',l'',c',rfl,hq,b1,b2⟩,rfl,fun k10 u10=>?_⟩;exact C k10 _ (u6.trans (u7.trans (u8.trans (u9.trans u10)))) ⟨g,A,l',c,A',l'',c',rfl,hq.up u10,b1,b2⟩
  have h7:=ov h7;refine⟨fun _ vs=>vs=[.bool (decide (c=46∧digs u≠[]∧aR u=[]))],⟨ix,fun h8=>?_,fun h8 k7 u7=>?_⟩,?_⟩
  ·have h8:=ow h8;refine aCo oq fun k7 u7=>⟨_,rfl,fun h9=>?_,fun h9 k8 u8=>?_⟩
   ·have h9:=ow h9;refine aCo oq fun k8 u8=>⟨_,rfl,rfl,fun k9 u9=>?_⟩;rw [aPp oq]
    congr 2
    exact decide_eq_decide.2 ⟨fun h=>⟨h8,h⟩,fun h=>h.2⟩
   ·have h9:=ov h9;rw [decide_eq_false fun h=>h.2.1 (xz.1 oq)]
  ·have h8:=ov h8;rw [decide_eq_false fun h=>h8 h.1]
  rintro k7 vs u7 rfl;refine⟨_,rfl,fun h8=>?_,fun h8 k8 u8=>?_⟩
  ·obtain⟨rfl,hdn,hru⟩:=ow h8;have hdu:=xZ hru;have hP:dX neg (digs t) 46 u=(0,kP neg (bJ (digs t++u)) (10^u.length)):=by
    unfold dX;rw [og oz,om rfl,om ⟨hdn,hru⟩,hdu]
   simp only [hP]at C;intro p k8 u8 hb8;refine⟨fun m k' vs=>∃j A c,j+m=u.length∧vs=[.slice A (W32.nw (10^j)) c,.int .i64 ((j:Nat):Int)]∧NatN k' A (W32.nw (10^j)) c (10^j),⟨u.length,fun k' u'=>⟨0,_,1,qe _,by rw [xx,W32.nw_one];rfl,by rw [xx,W32.nw_one];exact (sZ hb8).up u'⟩⟩,?_⟩;rintro m k9 vs u9 ⟨j,A,c,hj,rfl,hN⟩;have sj:W32.nw (10^j)≤j+1:=W32.aBx (Nat.pow_lt_pow_right oz (xm j));refine⟨A,_,c,_,rfl,rfl,fun hlt=>?_,fun hge=>⟨?_,?_⟩⟩
   ·rw [aA]at hlt;have hlt:=ow hlt;intro p' k10 u10 hb10;refine W32.dL (K:=20000) (hN.up u10).1 (aMk hb10).1 oq oz oz fun k11 A11 c11 u11 h11 s11=>⟨A11,_,c11,rfl,fun k12 u12=>?_⟩;exact⟨m-1,oq,j+1,A11,c11,oq,by rw [aDk oq];rfl,h11.up u12⟩
   ·exact decide_eq_true (by rw [aA,aA];omega)
   ·rw [aA]at hge;have hge:=ov hge;have ej:j=u.length:=oq
    subst ej;rw [aE];have hall:∀c∈digs t++u,bZ c=true:=fun c hc=>by
     rcases qs.1 hc with h|h
     ·exact fZ t c h
     ·rw [←hdu]at h;exact fZ u c h
    refine rW hall (by rw [oh];omega) fun k10 A10 c10 u10 h10 s10=>⟨A10,_,c10,rfl,?_⟩;rw [oh]at s10;refine pF (K:=10001) h10 (hN.up u10) (oc oz) oq oq oz rfl fun k11 g A l' c A' l'' c' u11 hq b1 b2=>⟨_,QV.seg ⟨g,A,l',c,A',l'',c',rfl,hq,b1,b2⟩,rfl,fun k12 u12=>?_⟩;exact C k12 _ (u6.trans (u7.trans (u8.trans (u9.trans (u10.trans (u11.trans u12)))))) ⟨g,A,l',c,A',l'',c',rfl,hq.up u12,b1,b2⟩
  ·have h8:=ov h8;have hP:dX neg (digs t) c u=(2,0):=by
    unfold dX
    by_cases g:c=47
    ·rw [om g,og fun h=>h7 ⟨g,h⟩]
    ·rw [og g]
     by_cases g':c=46
     ·rw [om g',og fun h=>h8 ⟨g',h⟩]
     ·rw [og g']
   have:=C k8 d1 (u6.trans (u7.trans u8));simp only [hP]at this;exact this ((h1.up (u6.trans (u7.trans u8))).mono oz)
end
theorem aBb {w:World}{e:TypeId}{l:List UInt8}{cap:Nat}{fr:Nat×Nat}{j:Nat}(h:j<l.length):(w.drew.alloc (.cells (bytesRow ⟨l.toArray⟩ cap) e fr)).cell? ⟨w.heap.size,j,none⟩=some (.int .u8 ((l.getD j 0).toNat:Int)):=by
 have hb:(w.drew.alloc (.cells (bytesRow ⟨l.toArray⟩ cap) e fr)).heap[w.heap.size]?=some (.cells (bytesRow ⟨l.toArray⟩ cap) e fr):=by
  show (w.heap.push _)[w.heap.size]?=_;simp
 unfold World.cell?;rw [hb];have e1:(bytesRow ⟨l.toArray⟩ cap)[j]?=some (.int .u8 ((l.getD j 0).toNat:Int)):=by
  unfold bytesRow;rw [Array.getElem?_append_left (by simpa using h),Array.getElem?_map,yw,oo h,qh,oo h];rfl
 exact e1
theorem yK {w:World}{e:TypeId}{C:Array Value}{fr:Nat×Nat}:Below w.heap.size w (w.drew.alloc (.cells C e fr)):=(Below.drew (Below.refl _ w)).alloc (oy _) _
theorem aFx {l:List UInt8}{j:Nat}(h:j<l.length):bJ (l.take (j+1))=bJ (l.take j)*10+((l.getD j 0).toNat-48):=by
 rw [List.take_add_one,oo h,qh,oo h,uE];show 10*bJ (l.take j)+_=_;rw [qy];rfl
theorem nU {w:World}{l:List UInt8}(hl:l.length≤100000) (hd:∀c∈l,bZ c=true) :
 Calls Tryz.prog 213 #[.string ⟨l.toArray⟩] w (fun e w'=>(∃v,e=.returned v∧LV w' v (bJ l))∧Below w.heap.size w w'):=by
 go_enter Tryz.func213,Tryz.ntmps213
 go_wp2_with fail
 go_loopg [0,3] l.length (fun g S X wr=>∃(dn rs:List UInt8) (Aa:Option Addr) (ca:Nat),S=.string ⟨rs.toArray⟩∧g=rs.length∧Hid (l=dn++rs)∧X=.slice Aa (nw (bJ dn)) ca∧LR wr Aa ca (bJ dn)∧Below w.heap.size w wr)
 case atStart=>exact⟨[],l,none,0,rfl,rfl,by unfold Hid;rfl,by rw [show bJ []=0 from rfl,nw_zero],by rw [show bJ []=0 from rfl];exact LR.nil,Below.refl _ _⟩
 case round=>
  obtain⟨dn,rs,Aa,ca,rfl,rfl,hL,rfl,ha,hB⟩:=hrel;rcases jf rs.length with h0|h0
  ·have:rs=[]:=xz.1 h0;subst this;have hv:bJ dn=bJ l:=by have:=hL.out;rw [qo]at this;rw [this]
   have HV:=ou hv;clear hv hL
   go_wp2_with fail
   go_ret
   exact⟨⟨_,rfl,by rw [←HV.out];exact ha.lv⟩,hB⟩
  ·have h1:(0:Int)<(rs.length:Int):=oq
   obtain⟨n,hn⟩:∃n,n=min rs.length 19:=⟨_,rfl⟩;have em:min (rs.length:Int) 19=(n:Int):=oq
   have hn19:n≤19:=oq
   have hnr:n≤rs.length:=oq
   have hn0:0<n:=oq
   have HN:=ou hn;clear hn
   go_wp2_with fail
   rw [ByteArray.extract_mk,kj,yb];rw [run_bytes_of_string wr 9 471 5 ⟨(rs.take n).toArray⟩ ox ox ox];have hsz:(⟨(rs.take n).toArray⟩:ByteArray).size=n:=by
    show (rs.take n).toArray.size=n;rw [kf,ja];omega
   rw [hsz];generalize grownCap wr n 0 5=cap;obtain⟨W1,hW1⟩:∃W1,W1=wr.drew.alloc (.cells (bytesRow ⟨(rs.take n).toArray⟩ cap) 5 ((bytesRow ⟨(rs.take n).toArray⟩ cap).size,(bytesRow ⟨(rs.take n).toArray⟩ cap).size+1)):=⟨_,rfl⟩;rw [←hW1];have hb1:Below wr.heap.size wr W1:=by rw [hW1];exact yK
   have hcell:∀j,j<n→W1.cell? ⟨wr.heap.size,j,none⟩=some (.int .u8 (((rs.take n).getD j 0).toNat:Int)):=fun j hj=>by
    rw [hW1];exact aBb (by rw [ja];omega)
   obtain⟨ch,hch⟩:∃ch,ch=rs.take n:=⟨_,rfl⟩;have hchl:ch.length=n:=by rw [hch,ja];omega
   have hdc:∀c∈ch,bZ c=true:=fun c hc=>hd c (by rw [hL.out,qs];rw [hch]at hc;exact .inr (List.mem_of_mem_take hc));rw [←hch]at hcell;have HC:=ou hcell;have HD:=ou hdc;have HCl:=ou hchl;have HCh:=ou hch;clear hcell hdc hchl hch hW1 hsz;generalize hbk:wr.heap.size=B at *
   have HBk:=ou hbk;clear hbk
   go_wp2_with fail
   go_loopw [5,6,20] (fun x u i wx=>wx=W1∧∃j,j≤n∧i=.int .i64 ((j:Nat):Int)∧x=.int .u64 ((bJ (ch.take j):Nat):Int)∧u=.int .u64 ((10^j:Nat):Int)) (fun _ _ i _=>n-(intOf i).toNat)
   case atStart=>exact⟨rfl,0,jg _,rfl,by rw [List.take_zero];rfl,rfl⟩
   case round=>
    obtain⟨rfl,j,hj,rfl,rfl,rfl⟩:=hrel
    by_cases hlt:j<n
    ·have hi:(j:Int)<(n:Int):=oq
     have hi2:(0:Int)≤(j:Int):=oq
     have hc:=HC.out j hlt;have hjl:j<ch.length:=by rw [HCl.out];exact hlt
     have hdj:bZ (ch.getD j 0)=true:=by
      rw [qh,oo hjl];exact HD.out _ (wg _)
     obtain⟨z1,z2⟩:=nO.1 hdj;have hv:=aFx hjl;have hvb:bJ (ch.take j)<10^18:=by
      have:=oS (l:=ch.take j) fun c hc=>HD.out c (List.mem_of_mem_take hc);rw [ja,HCl.out,show min j n=j by omega]at this;exact qu this (ql oz oq)
     have hp:10^(j+1)=10^j*10:=qi ..;have hpb:10^j≤10^18:=ql oz oq;rw [show (10:Nat)^18=1000000000000000000 by decide]at hvb hpb;generalize (ch.getD j 0).toNat=z at *
     obtain⟨v',ev'⟩:∃v',v'=bJ (ch.take (j+1)):=⟨_,rfl⟩;obtain⟨p',ep'⟩:∃p',p'=10^(j+1):=⟨_,rfl⟩;rw [←ev']at hv;rw [←ep']at hp;obtain⟨v,ev⟩:∃v,v=bJ (ch.take j):=⟨_,rfl⟩;obtain⟨q,eq⟩:∃q,q=10^j:=⟨_,rfl⟩;rw [←ev]at hv hvb ⊢;rw [←eq]at hp hpb ⊢;have EV:=ou ev';have EP:=ou ep';clear ev' ep' ev eq hdj hjl;have HV:=ou hv;have HP:=ou hp;clear hv hp
     go_wp2_with fail
     go_roundw
     case rel=>
      refine⟨trivial,j+1,hlt,by congr 1,?_,?_⟩
      ·rw [←EV.out,HV.out]
       congr 1
       omega
      ·rw [←EP.out,HP.out]
       congr 1
       try omega
     case measure=>simp [intOf];omega
    ·have e:j=n:=oq
     subst e;have hi:¬ (j:Int)<(j:Int):=oq
     have e2:ch.take j=ch:=jx (by rw [HCl.out];omega);rw [e2]at *
     have hvb:bJ ch<10^19:=qu (oS HD.out) (ql oz (by rw [HCl.out];exact hn19));have hqb:10^j≤10^19:=ql oz hn19;rw [show (10:Nat)^19=10000000000000000000 by decide]at hvb hqb;obtain⟨q,eq⟩:∃q,q=10^j:=⟨_,rfl⟩;obtain⟨v,ev⟩:∃v,v=bJ ch:=⟨_,rfl⟩;rw [←ev]at hvb ⊢;rw [←eq]at hqb ⊢;have EV:=ou ev;have EQ:=ou eq;clear ev eq;have a0:LR wr.drew Aa ca (bJ dn):=(ha.below (by rw [HBk.out];exact hb1)).drewN 1;have hB0:Below w.heap.size w wr.drew:=(hB.trans (hb1.mono (by rw [←HBk.out];exact hB.size))).drew;have hdl:nw (bJ dn)≤100000:=by
      have h1:=oS (l:=dn) fun c hc=>hd c (by rw [hL.out,qs];exact .inl hc);have h2:dn.length≤100000:=by have:=congrArg List.length hL.out;rw [oh]at this;omega
      exact qr (aQ (qu h1 (xk oz _))) h2
     go_wp2_with fail
     go_region_held3 (fun _=>True) (exact trivial)
      (first
        | (go_at_call 195;(fail_if_success guard_hyp c1);refine (lE (x:=q) oq).mono ?_;rintro e w1 ⟨⟨A1,n1,k1,rfl,L1,m1⟩,c1⟩;have a1:=a0.below c1)
        | (go_at_call 167;refine (oR (LimR.of a1) L1 oq oq).mono ?_;rintro e w2 ⟨⟨A2,n2,k2,rfl,L2,m2⟩,c2⟩)
        | (go_at_call 195;guard_hyp c2;(fail_if_success guard_hyp c3);refine (lE (x:=v) oq).mono ?_;rintro e w3 ⟨⟨A3,n3,k3,rfl,L3,m3⟩,c3⟩;have L2':=L2.below c3)
        | (go_at_call 278;refine (aLc (K:=200000) L2' L3 oq oq oq).mono ?_;rintro e w4 ⟨⟨A4,n4,k4,rfl,L4,m4⟩,c4⟩)
        | fail "no arm")
     go_wp2_with fail
     rw [show (⟨rs.toArray⟩:ByteArray).extract j rs.length=⟨(rs.drop j).toArray⟩ by rw [ByteArray.extract_mk,jx (by rw [jr];omega)]]
     go_roundg (rs.drop j).length
     case rel=>
      obtain⟨rfl,L4⟩:=L4;have hval:bJ dn*q+v=bJ (dn++ch):=by rw [aDi,HCl.out,EV.out,EQ.out]
      rw [hval]at L4 ⊢;exact⟨dn++ch,rs.drop j,A4,k4,rfl,rfl,by unfold Hid;rw [HCh.out,jk,List.take_append_drop];exact hL.out,rfl,L4,hB0.trans (((c1.trans (c2.mono c1.size)).trans (c3.mono (qr c1.size c2.size))).trans (c4.mono (qr c1.size (qr c2.size c3.size))) |>.mono hB0.size)⟩
     case measure=>rw [jr];omega
theorem aEl {l:List UInt8}(h:∀c∈l,bZ c=true):nw (bJ l)≤l.length:=
 aQ (qu (oS h) (xk oz _))
def It (w:World) (B:Nat) (s:ByteArray) (p:Nat):Prop:=w.heap[B]?=some (.stringIter s p)
def onward (w:World) (B:Nat) (s:ByteArray) (p:Nat):World:={ w with heap:=w.heap.setIfInBounds B (.stringIter s p) }
theorem It.lt {w:World}{B p:Nat}{s:ByteArray}(h:It w B s p):B<w.heap.size:=by
 unfold It at h;exact (zp.1 h).1
theorem It.below {w w':World}{B p:Nat}{s:ByteArray}(h:It w B s p) (hb:Below w.heap.size w w'):It w' B s p:=(hb.block B h.lt).trans h
theorem It.onward {w:World}{B p p':Nat}{s:ByteArray}(h:It w B s p):It (onward w B s p') B s p':=by
 show (w.heap.setIfInBounds B _)[B]?=_;rw [Array.getElem?_setIfInBounds_self,om h.lt]
theorem aEk {P:Program}{w:World}{B pos:Nat}{s:ByteArray}(h0:It w B s pos) (ty:TypeId) (h:pos<s.size) (ha:(s[pos]'h).toNat<128) :
 (Instr.next (.pointer (some ⟨B,0,none⟩)) true ty).run P w=.ok (.tuple #[.bool true,.int .i64 pos,.int .i32 (s[pos]'h).toNat]) (Go.Proofs.YtmifbgccpdmjpaaGreat.onward w B s (pos+1)):=by
 unfold It at h0;simp [Instr.next,getObj,setObj,Sem.run_bind,Sem.run,h0,Result.andThen,h,decode_ascii s pos h ha,goInt,Go.Proofs.YtmifbgccpdmjpaaGreat.onward]
theorem zN {P:Program}{w:World}{B pos:Nat}{s:ByteArray}(h0:It w B s pos) (ty:TypeId) (h:¬ pos<s.size) :
 (Instr.next (.pointer (some ⟨B,0,none⟩)) true ty).run P w=.ok (.tuple #[.bool false]) w:=by
 unfold It at h0;simp [Instr.next,getObj,Sem.run,h0,h]
theorem zS {w:World}{B p p':Nat}{s:ByteArray}(h:It w B s p) (a:Addr) (v:Value) (hv:w.cell? a=some v):(onward w B s p').cell? a=some v:=by
 unfold It at h;unfold World.cell? at hv ⊢
 by_cases e:a.block=B
 ·rw [e,h]at hv;cases hv
 ·have:(onward w B s p').heap[a.block]?=w.heap[a.block]?:=by
   show (w.heap.setIfInBounds B _)[a.block]?=_;rw [wv (fun h=>e h.symm)]
  rw [this];exact hv
theorem iN {w:World}{B p:Nat}{s:ByteArray}:(onward w B s p).heap.size=w.heap.size:=wj
theorem LimR.onward {w:World}{B p p' n c m:Nat}{A:Option Addr}{s:ByteArray}(h:LimR w A n c m) (hi:It w B s p):LimR (onward w B s p') A n c m:=
 ⟨h.len,h.lr.lt,h.lr.cap,fun hn=>by
   obtain⟨b,o,e,hb,hc⟩:=h.lr.at_ hn
   exact⟨b,o,e,by rw [iN];exact hb,fun i h=>zS hi _ _ (hc i h)⟩⟩
theorem gL {w:World}{B p k:Nat}{s:ByteArray}(hk:k≠B):(onward w B s p).heap[k]?=w.heap[k]?:=by
 show (w.heap.setIfInBounds B _)[k]?=_;rw [wv (fun h=>hk h.symm)]
theorem Own.onward {w w0 w1:World}{N R B p:Nat}{T:TypeId}{cs:Array Value}{s:ByteArray}(h:Own w w0 N R T cs w1) (hR:R<N) (hw:w.heap.size≤N) (hB:N≤B):Own w w0 N R T cs (onward w1 B s p):=
 ⟨⟨h.below.os,h.below.tape,h.below.output,by rw [iN];exact h.below.size,fun k hk=>(gL oq).trans (h.below.block k hk)⟩,
  by rw [iN];exact h.size,(gL oq).trans h.blk,
  fun b o hb hr=>(World.cell?_of_block (gL (show b≠B by omega))).trans (h.same b o hb hr)⟩
theorem aLy {w:World}{l:List UInt8}{pl:Bool}(hl:l.length≤100000) :
 Calls Tryz.prog 212 #[.string (str l),.bool pl] w (fun e w'=>e=.returned (.tuple #[.string (str (digs l)),.string (str (aR l)),.bool (okD pl (digs l))])∧Below w.heap.size w w'):=
 ((aTb (R:=fun _ v=>v=.tuple #[.string (str (digs l)),.string (str (aR l)),.bool (okD pl (digs l))]) (k:=w) hl (fun _ _=>rfl) w (Up.refl w)) w (Sees.refl w)).mono fun e w' ⟨v,k',e1,_,_,hb,e2⟩=>⟨by rw [e1,e2],hb⟩
theorem pP (l:List UInt8):(ByteArray.toList (str l)).isEmpty=decide (l=[]):=by
 rw [eA];cases l with
 | nil=>rfl
 | cons c l=>exact (decide_eq_false (List.cons_ne_nil c l)).symm
theorem aSq (i:Nat):nw (10^i)≤i+1:=
 aQ (qu (Nat.pow_lt_pow_right oz (xm i)) (xk oz _))
theorem aNw {l:List UInt8}(h:∀c∈l,bZ c=true) {i:Nat}(hi:i<l.length):((str l)[i]'(by rw [aA];exact hi)).toNat<128:=by
 have:=(nO.1 (h (l[i]'hi) (wg _))).2;show (l[i]'hi).toNat<128;omega
def aFw (neg:Bool) (ds:List UInt8) (m:Nat):Int×Rat:=if m=0 then (3,0) else (0,kP neg (bJ ds) m)
section
variable {neg:Bool}{t u:List UInt8}{c:UInt8}
theorem jE {d:List UInt8}:okD true d=true↔fN d:=by
 unfold okD;rw [decide_eq_true_iff];exact⟨fun h=>h.2.resolve_left oz,fun h=>⟨h.1,.inr h⟩⟩
theorem zR {d:List UInt8}:okD false d=true↔d≠[]:=by
 unfold okD;rw [decide_eq_true_iff];exact⟨fun h=>h.1,fun h=>⟨h,.inl rfl⟩⟩
theorem aSv (h:okD true (digs t)=false):dA neg t=(2,0):=og fun g=>by rw [jE.2 g]at h;cases h
theorem aSu (h:okD true (digs t)=true) (h0:aR t=[]):dA neg t=aFw neg (digs t) 1:=by
 unfold dA;rw [om (jE.1 h),h0];rfl
theorem aPd (h:okD true (digs t)=true) (h0:aR t=c :: u):dA neg t=dX neg (digs t) c u:=by
 unfold dA;rw [om (jE.1 h),h0]
variable {d:List UInt8}
theorem aSw (h:okD (decide (c=47)) (digs u)=false∨aR u≠[]∨(c≠47∧c≠46)):dX neg d c u=(2,0):=by
 unfold dX
 by_cases h1:c=47
 ·rw [om h1,og];rintro⟨g1,g2⟩;rcases h with h|h|h
  ·rw [decide_eq_true h1,jE.2 g1]at h;cases h
  ·exact h g2
  ·exact h.1 h1
 rw [og h1]
 by_cases h2:c=46
 ·rw [om h2,og];rintro⟨g1,g2⟩;rcases h with h|h|h
  ·rw [decide_eq_false h1,zR.2 g1]at h;cases h
  ·exact h g2
  ·exact h.2 h2
 rw [og h2]
theorem aPe (h:okD true (digs u)=true) (h0:aR u=[]):dX neg d 47 u=aFw neg d (bJ (digs u)):=by
 unfold dX aFw;rw [om rfl,om ⟨jE.1 h,h0⟩]
theorem aKx (h:okD false (digs u)=true) (h0:aR u=[]):dX neg d 46 u=aFw neg (d++digs u) (10^(digs u).length):=by
 unfold dX aFw;rw [og oz,om rfl,om ⟨zR.1 h,h0⟩,og (Nat.pos_iff_ne_zero.1 (oc oz))]
end
def RetP (r:Int×Rat) (K:Nat) (w:World) (e:Ending) (w':World):Prop:=(∃g A n c D d e',e=.returned (.tuple #[.agg #[.bool g,.slice A n c,.slice D d e'],.int .i64 r.1])∧RatR w' g A n c D d e' r.2∧n≤K∧d≤K)∧Below w.heap.size w w'
theorem RetP.mk {w w0 w2:World}{N R K n d:Nat}{T:TypeId}{cs:Array Value}{g:Bool}{A D:Option Addr}{c e:Nat}{q:Rat}{x:Int}(h:Own w w0 N R T cs w2) (hw:w.heap.size≤R) (hn:NoWord cs) (hl:RatR w2 g A n c D d e q) (hk:n≤K) (hd:d≤K) :
 RetP (x,q) K w (.returned (.tuple #[.agg #[.bool g,.slice A n c,.slice D d e],.int .i64 x])) (put3 w2 R (.bool g) (.slice A n c) (.slice D d e)):=
 ⟨⟨_,_,_,_,_,_,_,rfl,hl.grownR h.blk hn (tH _ _ _ _ _),hk,hd⟩,((h.below.setCell hw _).setCell hw _).setCell hw _⟩
theorem aEp {T:TypeId}{cs:Array Value}(w:World):Own w (w.alloc (.cells cs T)) (w.heap.size+1) w.heap.size T cs (w.alloc (.cells cs T)):=
 ⟨(Below.refl _ _).alloc (oy _) _,by simp,Blk.new _ _ _,SameBut.refl _ _ _⟩
theorem RetP.err {w w0 w1:World}{N R:Nat}{T:TypeId}{cs:Array Value}{x:Int}(h:Own w w0 N R T cs w1):RetP (x,0) 5000 w (.returned (.tuple #[.agg #[.bool false,.slice none 0 0,.slice none 0 0],.int .i64 x])) w1:=
 ⟨⟨_,_,_,_,_,_,_,rfl,RatR.zero,jg _,jg _⟩,h.below⟩
theorem aPf {w:World}{l:List UInt8} :
 Calls Tryz.prog 106 #[.string ⟨l.toArray⟩] w (RetP (cC l) 5000 w):=by
 by_cases h0:4096<l.length
 ·have e:cC l=(4,0):=by unfold cC;rw [om h0]
  rw [e];have hh:(4096:Int)<(l.length:Int):=oq
  go_enter Tryz.func106,Tryz.ntmps106
  go_wp2_with fail
  have o0:Own w (w.alloc (.cells #[.bool false,.slice none 0 0,.slice none 0 0] 128)) (w.heap.size+1) w.heap.size 128 #[.bool false,.slice none 0 0,.slice none 0 0] (w.alloc (.cells #[.bool false,.slice none 0 0,.slice none 0 0] 128)):=aEp w;generalize (w.alloc (.cells #[.bool false,.slice none 0 0,.slice none 0 0] 128))=w1 at *
  have hrE:=o0.cells;exact bodyPost_ret (v:=.tuple #[.agg #[.bool false,.slice none 0 0,.slice none 0 0],.int .i64 4]) (by simp [results,Tryz.results106,go_sem,hrE]) rfl (RetP.err o0)
 have hh:¬ (4096:Int)<(l.length:Int):=oq
 have hl:l.length≤4096:=oq
 obtain⟨neg,hneg⟩:∃neg,neg=decide (l.head?=some 45):=⟨_,rfl⟩;obtain⟨t,ht⟩:∃t,t=if neg then l.tail else l:=⟨_,rfl⟩;have e:cC l=dA neg t:=by
  unfold cC;rw [og h0,ht,hneg]
  by_cases h:l.head?=some 45
  ·rw [om h,decide_eq_true h];rfl
  ·rw [og h,decide_eq_false h];rfl
 rw [e];have HN:=ou hneg;have HT:=ou ht;clear hneg ht e
 go_enter Tryz.func106,Tryz.ntmps106
 go_upto_region 3 with fail
 go_cut [4] (fun s wx=>s=.bool neg∧wx=w.alloc (.cells #[.bool false,.slice none 0 0,.slice none 0 0] 128))
 case first=>
  by_cases hz:0<l.length
  ·have hz':(0:Int)<(l.length:Int):=oq
   go_wp2_with fail
   go_meet
   refine⟨?_,rfl⟩;rw [HN.out]
   congr 1
   have hne:l≠[]:=fun e=>by rw [e]at hz;exact absurd hz oz
   have e0:(⟨l.toArray⟩:ByteArray)[0]'(by show 0<l.toArray.size;simpa using hz)=l.getD 0 0:=by
    cases l with
    | nil=>exact absurd rfl hne
    | cons c l=>rfl
   rw [e0,aKa,rR l hne];exact decide_eq_decide.2 ⟨fun h=>by rw [h],fun h=>xh h⟩
  ·have hz':¬ (0:Int)<(l.length:Int):=oq
   go_wp2_with fail
   go_meet
   refine⟨?_,rfl⟩;rw [HN.out];have hne:l=[]:=xz.1 oq;subst hne;rfl
 case rest=>
 obtain⟨rfl,rfl⟩:=hcut;have o0:Own w (w.alloc (.cells #[.bool false,.slice none 0 0,.slice none 0 0] 128)) (w.heap.size+1) w.heap.size 128 #[.bool false,.slice none 0 0,.slice none 0 0] (w.alloc (.cells #[.bool false,.slice none 0 0,.slice none 0 0] 128)):=aEp w;generalize (w.alloc (.cells #[.bool false,.slice none 0 0,.slice none 0 0] 128))=w0 at *
 go_upto_if 25 with fail
 go_cut [0] (fun s wx=>s=.string ⟨t.toArray⟩∧wx=w0)
 case first=>
  cases neg
  ·go_wp2_with fail
   go_meet
   refine⟨?_,rfl⟩;rw [HT.out,og oz]
  ·have hh:l.head?=some 45:=ow HN.out.symm;have hz:1≤l.length:=by
    cases l with
    | nil=>cases hh
    | cons c l=>rw [od];omega
   have hz':(1:Int)≤(l.length:Int):=oq
   go_wp2_with fail
   go_meet
   refine⟨?_,rfl⟩;rw [HT.out,om trivial];show Value.string ((⟨l.toArray⟩:ByteArray).extract 1 l.length)=_;rw [show (⟨l.toArray⟩:ByteArray)=str l from rfl,cO,jx (by rw [jr];omega),List.drop_one];rfl
 case rest=>
 obtain⟨rfl,rfl⟩:=hcut;have htl:t.length≤4096:=by
  rw [HT.out];split
  ·rw [List.length_tail];omega
  ·omega
 obtain⟨w0,rfl⟩:∃w0,w0=wc:=⟨_,rfl⟩;clear HN HT h0 hh hl
 go_wp2_with fail
 refine (aLy (l:=t) (pl:=true) oq).mono ?_;rintro e w1 ⟨rfl,hb1⟩;have q1:=o0.call hb1;cases hok:okD true (digs t)
 ·rw [aSv hok]at *
  have hrE:=q1.cells;have hfE:=q1.free
  go_wp2_with fail
  exact bodyPost_ret (v:=.tuple #[.agg #[.bool false,.slice none 0 0,.slice none 0 0],.int .i64 2]) (by simp [results,Tryz.results106,go_sem,World.cell?_setCell_same,World.cell?_setCell_other,hrE]) rfl (RetP.mk q1 (oy _) rfl RatR.zero (jg _) (jg _))
 go_wp2_with fail
 refine (lE (x:=1) oz).mono ?_;rintro e w2 ⟨⟨A2,n2,c2,rfl,L2,m2⟩,hb2⟩;have q2:=q1.call hb2;have hrE2:=q2.cells;have hfE2:=q2.free;have hD:=iY t;have hA:=fZ t
 go_upto_if 39 with fail
 go_cut [5,8] (fun dg dv wx=>∃ds A n c m,dg=.string (str ds)∧dv=.slice A n c∧LimR wx A n c m∧n≤5000∧ds.length≤4096∧(∀c∈ds,bZ c=true)∧Own w w0 (w.heap.size+1) w.heap.size 128 #[.bool false,.slice none 0 0,.slice none 0 0] wx∧Hid (dA neg t=aFw neg ds m))
 case first=>
  by_cases hr:aR t=[]
  ·have E:=ou (aSu (neg:=neg) hok hr);have hs:(!(ByteArray.toList (str (aR t))).isEmpty)=false:=by rw [pP,decide_eq_true hr];rfl
   rw [hs];clear hok hr hs
   go_wp2_with fail
   go_meet
   exact⟨_,_,_,_,_,rfl,rfl,L2,oq,oq,hA,q2,E⟩
  obtain⟨c,u,hcu⟩:∃c u,aR t=c :: u:=by
   cases h:aR t with
   | nil=>exact absurd h hr
   | cons c u=>exact⟨c,u,rfl⟩
  have E:=ou (aPd (neg:=neg) hok hcu);have hut:u.length+1+(digs t).length=t.length:=by
   have:=congrArg List.length (dK t);rw [oh,hcu,od]at this;omega
  have hs:(!(ByteArray.toList (str (aR t))).isEmpty)=true:=by rw [pP,decide_eq_false hr];rfl
  have hz:0<(aR t).length:=by rw [hcu,od];omega
  have hc0:(str (aR t))[0]'(by rw [aA];exact hz)=c:=by
   have h:=gE (aR t) 0;rw [getElem?_pos (str (aR t)) 0 (by rw [aA];exact hz),Option.getD_some]at h;rw [h,hcu];rfl
  have hex:(str (aR t)).extract 1 (str (aR t)).size=str u:=by
   rw [cO,aA,jx (by rw [jr];omega),hcu];rfl
  have hsz:(str (aR t)).size=(aR t).length:=aA _;have HC:=ou hc0;have HX:=ou hex;have HS:=ou hsz;have hs1:1≤(str (aR t)).size:=by rw [hsz];omega
  have hs1':(1:Int)≤((str (aR t)).size:Int):=oq
  have hs0:0<(str (aR t)).size:=oq
  have hs0':(0:Int)<((str (aR t)).size:Int):=oq
  rw [hs];clear hc0 hex hok hr hcu hsz hs
  go_wp2_with fail
  rw [HC.out,HX.out,aKb];clear HC HX;refine (aLy (l:=u) (pl:=decide (c=47)) oq).mono ?_;rintro e w3 ⟨rfl,hb3⟩;have q3:=q2.call hb3;have hrE3:=q3.cells;have hfE3:=q3.free;have hDu:=iY u;have hAu:=fZ u;have hbad:(okD (decide (c=47)) (digs u)=false∨aR u≠[]∨(c≠47∧c≠46))→dA neg t=(2,0):=fun h=>E.out.trans (aSw h);have hbd:(okD (decide (c=47)) (digs u)=false∨aR u≠[]∨(c≠47∧c≠46))→Hid (dA neg t=(2,0)):=fun h=>ou (hbad h);clear hbad;have hnot:¬ (okD (decide (c=47)) (digs u)=false∨aR u≠[]∨(c≠47∧c≠46))→okD (decide (c=47)) (digs u)=true∧aR u=[]∧(c=47∨c=46):=fun h=>
   ⟨by cases g:okD (decide (c=47)) (digs u) with
     | true=>rfl
     | false=>exact absurd (.inl g) h,zm fun g=>h (.inr (.inl g)),by
     by_cases g:c=47
     ·exact .inl g
     ·exact .inr (zm fun g'=>h (.inr (.inr ⟨g,g'⟩)))⟩
  obtain⟨bad,hB⟩:∃bad,bad=decide (okD (decide (c=47)) (digs u)=false∨aR u≠[]∨(c≠47∧c≠46)):=⟨_,rfl⟩;have HB:=ou hB;have HO:=ou hnot;have HE:=ou hbd;have E47:=ou (aKb (c:=c));have E46:=ou (aQt (c:=c));have ES:=ou (pP (aR u));obtain⟨ok,hok2⟩:∃ok,ok=okD (decide (c=47)) (digs u):=⟨_,rfl⟩;have HK:=ou hok2;rw [←hok2];clear hB hnot hbd hok2
  go_upto_region 13 with fail
  go_cut [9,64] (fun s9 s wx=>wx=w3∧s9=.int .u8 (c.toNat:Int)∧s=.bool bad)
  case first=>
   cases ok
   ·go_wp2_with fail
    go_meet
    refine⟨rfl,rfl,?_⟩;rw [HB.out,decide_eq_true (.inl HK.out.symm)]
   ·go_wp2_with fail
    ·rename_i g1 g2;have h1:c=47:=ow (E47.out.symm.trans (by rw [g2];rfl));have h2:aR u=[]:=ow (ES.out.symm.trans (by rw [g1];rfl))
     go_meet
     refine⟨rfl,by rw [g2],?_⟩;rw [HB.out,←HK.out,h1,h2];rfl
    ·rename_i g1 g2;have h1:c≠47:=fun e=>g2 (eq_of_beq (E47.out.trans (decide_eq_true e)));have h2:aR u=[]:=ow (ES.out.symm.trans (by rw [g1];rfl))
     go_meet
     refine⟨rfl,rfl,?_⟩;rw [HB.out,←HK.out,h2];show Value.bool (!(_ == _) && !(_ == _))=_;rw [E47.out,E46.out]
     by_cases h46:c=46 <;> simp [h1,h46]
    ·rename_i g1;have h2:aR u≠[]:=fun e=>g1 (by rw [e,eA];rfl)
     go_meet
     refine⟨rfl,rfl,?_⟩;rw [HB.out,decide_eq_true (.inr (.inl h2))]
  case rest=>
  obtain⟨rfl,rfl,rfl⟩:=hcut;cases bad
  ·obtain⟨h1,h2,h3⟩:=HO.out (ov HB.out.symm);rcases h3 with rfl|rfl
   ·have F:=ou (E.out.trans (aPe (d:=digs t) (neg:=neg) h1 h2));clear h1 h2 E47 E46
    go_wp2_with fail
    refine (nU oq hAu).mono ?_;rintro e w4 ⟨⟨v4,rfl,A4,c4,rfl,L4⟩,hb4⟩;have q4:=q3.call hb4;have n4:=aEl hAu
    go_wp2_with fail
    go_meet
    exact⟨_,_,_,_,_,rfl,rfl,.of L4,oq,oq,hA,q4,F⟩
   ·have F:=ou (E.out.trans (aKx (d:=digs t) (neg:=neg) h1 h2));have hlim:¬ 9223372036854775807<(str (digs t)).size+(str (digs u)).size:=by rw [aA,aA];omega
    have LI:LimR (wc.iter (str (digs u)) 0) A2 n2 c2 (10^0):=(L2.below hb3).below (Below.al _ _);have qI:Own w w0 (w.heap.size+1) w.heap.size 128 #[.bool false,.slice none 0 0,.slice none 0 0] (wc.iter (str (digs u)) 0):=q3.alloc _;have hI:It (wc.iter (str (digs u)) 0) wc.heap.size (str (digs u)) 0:=World.iter_heap _ _ _;have hN:=q3.size;clear h1 h2 E47 E46
    go_wp2_with fail
    generalize wc.heap.size=B at *
    clear L2 q2 hrE2 hfE2 hb3 q3 hrE3 hfE3
    go_loopg [8] (digs u).length (fun g S8 wr=>∃i A n c,S8=.slice A n c∧g+i=(digs u).length∧LimR wr A n c (10^i)∧Own w w0 (w.heap.size+1) w.heap.size 128 #[.bool false,.slice none 0 0,.slice none 0 0] wr∧It wr B (str (digs u)) i)
    case atStart=>exact⟨0,_,_,_,rfl,rfl,LI,qI,hI⟩
    case round=>
     obtain⟨i,A,n,c,rfl,hg,hL,q4,hi⟩:=hrel;have hnb:n≤i+1:=by rw [hL.len];exact aSq i
     by_cases hlt:i<(digs u).length
     ·have hasc:((str (digs u))[i]'(by rw [aA];exact hlt)).toNat<128:=aNw hAu hlt
      go_wp2_with fail
      rw [aEk hi _ (by rw [aA];exact hlt) hasc];have q5:Own w w0 (w.heap.size+1) w.heap.size 128 #[.bool false,.slice none 0 0,.slice none 0 0] (onward wr B (str (digs u)) (i+1)):=q4.onward (xm _) (Nat.le_succ _) hN;have hi5:It (onward wr B (str (digs u)) (i+1)) B (str (digs u)) (i+1):=It.onward hi;have L5:LimR (onward wr B (str (digs u)) (i+1)) A n c (10^i):=LimR.onward hL hi;generalize onward wr B (str (digs u)) (i+1)=w5 at *
      have GI:=ou hi5;clear hi5 hi hL q4 hasc
      go_wp2_with fail
      refine (lE (x:=10) oz).mono ?_;rintro e w6 ⟨⟨A6,n6,c6,rfl,L6,m6⟩,hb6⟩;have q6:=q5.call hb6;have L5':=L5.below hb6
      go_wp2_with fail
      refine (oR L5' L6 oq oq).mono ?_;rintro e w7 ⟨⟨A7,n7,c7,rfl,L7,m7⟩,hb7⟩;have q7:=q6.call hb7;have hi7:=(GI.out.below hb6).below hb7
      go_wp2_with fail
      go_roundg ((digs u).length-(i+1))
      case rel=>
       exact⟨i+1,A7,n7,c7,rfl,oq,by rw [qi];exact L7,q7,hi7⟩
      case measure=>omega
     ·go_wp2_with fail
      rw [zN hi _ (by rw [aA];exact hlt)];have ei:i=(digs u).length:=oq
      subst ei
      go_wp2_with fail
      go_meet
      exact⟨digs t++digs u,A,n,c,_,by rw [aE],rfl,hL,oq,by rw [oh];omega,fun c hc=>(qs.1 hc).elim (hA c) (hAu c),q4,F⟩
  ·have F:=ou (HE.out (ow HB.out.symm)).out;clear E47 E46
   go_wp2_with fail
   rw [F.out];exact bodyPost_ret (v:=.tuple #[.agg #[.bool false,.slice none 0 0,.slice none 0 0],.int .i64 2]) (by simp [results,Tryz.results106,go_sem,World.cell?_setCell_same,World.cell?_setCell_other,hrE3]) rfl (RetP.mk q3 (oy _) rfl RatR.zero (jg _) (jg _))
 case rest=>
 obtain⟨ds,A3,n3,c3,m,rfl,rfl,L3,k3,hdl,hda,q3,E⟩:=hcut;obtain⟨w3,rfl⟩:∃w3,w3=wc:=⟨_,rfl⟩;have hrE3:=q3.cells;have hfE3:=q3.free;clear q1 q2 hrE2 hfE2 L2 hb2 hb1 hok hD hA
 by_cases h0:m=0
 ·have e0:n3=0:=L3.zero_iff.2 h0;have F:Hid (dA neg t=(3,0)):=ou (E.out.trans (om h0));subst e0;clear E h0
  go_wp2_with fail
  rw [F.out];exact bodyPost_ret (v:=.tuple #[.agg #[.bool false,.slice none 0 0,.slice none 0 0],.int .i64 3]) (by simp [results,Tryz.results106,go_sem,World.cell?_setCell_same,World.cell?_setCell_other,hrE3]) rfl (RetP.mk q3 (oy _) rfl RatR.zero (jg _) (jg _))
 ·have e0:¬ ((n3:Int)=0):=fun e=>h0 (L3.zero_iff.1 oq);have F:Hid (dA neg t=(0,kP neg (bJ ds) m)):=ou (E.out.trans (og h0));clear E
  go_wp2_with fail
  refine (nU (l:=ds) oq hda).mono ?_;rintro e w4 ⟨⟨v4,rfl,A4,c4,rfl,L4⟩,hb4⟩;have q4:=q3.call hb4;have n4:=aEl hda;have L34:=L3.below hb4
  go_wp2_with fail
  refine (iS neg (LimR.of L4) oq).mono ?_;rintro e w5 ⟨⟨g5,A5,n5,c5,rfl,L5,m5⟩,hb5⟩;have q5:=q4.call hb5;have L35:=L34.below hb5
  go_wp2_with fail
  refine (aCa L5 L35 oq oq oq).mono ?_;rintro e w6 ⟨⟨g6,A6,n6,c6,D6,d6,e6,rfl,L6,m6,l6⟩,hb6⟩;have q6:=q5.call hb6;have hrE6:=q6.cells;have hfE6:=q6.free
  go_wp2_with fail
  rw [F.out];exact bodyPost_ret (v:=.tuple #[.agg #[.bool g6,.slice A6 n6 c6,.slice D6 d6 e6],.int .i64 0]) (by simp [results,Tryz.results106,go_sem,World.cell?_setCell_same,World.cell?_setCell_other,hrE6]) rfl (RetP.mk q6 (oy _) rfl L6 oq oq)
section
variable {k k':World}{R:World→Value→Prop}
def aVa (r:Int×Rat) (K:Nat) (k:World) (v:Value):Prop:=∃cs,v=.tuple #[.agg cs,.int .i64 r.1]∧RatV k cs r.2 K
theorem aVe {P:Program}{f:FuncId}{args:Array Value}{r:Int×Rat}{K:Nat}(h:∀w,Sees k w→Calls P f args w (RetP r K w)):CallsG P f args k (aVa r K):=
 sY (fun _w' _k' _v hk ⟨_,e1,g,A,n,c,D,d,e,h0,h1,h2⟩=>⟨_,e1,g,A,n,c,D,d,e,h0,h1.kept hk,h2⟩) fun w hs=>(h w hs).mono fun _e _w' ⟨⟨g,A,n,c,D,d,e',h1,h2,h3⟩,hb⟩=>⟨⟨_,h1,_,rfl,g,A,n,c,D,d,e',rfl,h2,h3⟩,hb⟩
theorem aPg {l:List UInt8}(C:∀k' ds,Up k k'→RatV k' ds (cC l).2 5000→R k' (.tuple #[.agg ds,.int .i64 (cC l).1])) :
 Cl k 106 #[.string (str l)] R:=
 after (fun _ _=>aVe fun _ _=>aPf) fun k' _ u ⟨ds,e,h⟩=>e▸C k' ds u h
end
open Num Plain
def gH (c:UInt8):Bool:=c == 43 || c == 45
def cP (t:List UInt8):List UInt8:=t.takeWhile fun c=>!gH c
def gI (t:List UInt8):List UInt8:=t.dropWhile fun c=>!gH c
theorem eC (t:List UInt8):cP t++gI t=t:=List.takeWhile_append_dropWhile
theorem vY (t:List UInt8):(gI t).length≤t.length:=by
 have:=congrArg List.length (eC t);rw [oh]at this;omega
def chunks:List UInt8→List (List UInt8)
 | []=>[]
 | c :: t=>(c :: cP t) :: chunks (gI t)
termination_by l=>l.length
decreasing_by rw [od];have:=vY t;omega
theorem gY:chunks []=[]:=by rw [chunks]
theorem iJ (c:UInt8) (t:List UInt8):chunks (c :: t)=(c :: cP t) :: chunks (gI t):=by rw [chunks]
theorem aTf {c:UInt8}(h:c≠43∧c≠45):(!gH c)=true:=by
 unfold gH;simp [h.1,h.2]
theorem aJf {x l:List UInt8}(hx:NoSign x) (h:Begins l):cP (x++l)=x∧gI (x++l)=l:=by
 have hb:cP l=[]:=by
  unfold cP;rcases h with rfl|h|h
  ·rfl
  ·cases l with
   | nil=>cases h
   | cons c l=>injection h with h;subst h;rfl
  ·cases l with
   | nil=>cases h
   | cons c l=>injection h with h;subst h;rfl
 have e:cP (x++l)=x:=by
  have:=List.takeWhile_append_of_pos (p:=fun c=>!gH c) (l₁:=x) (l₂:=l) fun c hc=>aTf (hx c hc);unfold cP at hb ⊢;rw [this,hb,qo]
 have:=eC (x++l);rw [e]at this;exact⟨e,List.append_cancel_left this⟩
theorem uU (c:UInt8) {x l:List UInt8}(hx:NoSign x) (h:Begins l):chunks (c :: (x++l))=(c :: x) :: chunks l:=by
 rw [iJ,(aJf hx h).1,(aJf hx h).2]
def dJ (l:List UInt8):List UInt8:=if l.head?=some 43 then l.tail else l
theorem aGw (q:Rat) {m:List UInt8}(hm:Mark m):∃c x,aC q++m=c :: x∧NoSign x∧c≠43:=by
 have hn:=NoSign.append (aAa (mK q)) hm.no;rw [dG];split
 ·exact⟨45,core q++m,rfl,hn,oz⟩
 ·cases h:core q with
  | nil=>exact absurd h (qD q)
  | cons c x=>
   rw [h]at hn;exact⟨c,x++m,rfl,fun d hd=>hn d (zl _ hd),(hn c (vd ..)).1⟩
theorem sE {q:Rat}{m l:List UInt8}(hm:Mark m) (h:Begins l):(chunks ((aC q++m)++l)).map dJ=(aC q++m) :: (chunks l).map dJ:=by
 obtain⟨c,x,e,hx,hc⟩:=aGw q hm;rw [e,yn,uU c hx h,zv]
 congr 1
 exact og fun h=>hc (xh h)
theorem aBd {q:Rat}{m l:List UInt8}(hm:Mark m) (hn:¬ q.num<0) (h:Begins l):(chunks (43 :: ((aC q++m)++l))).map dJ=(aC q++m) :: (chunks l).map dJ:=by
 have hx:=NoSign.append (aAa (mK q)) hm.no;have e:aC q=core q:=by rw [dG,og hn,xp]
 rw [e,uU 43 hx h,zv];rfl
theorem nK:∀L:List (Rat×List UInt8),(∀x∈L,Mark x.2)→(chunks (tail1 L)).map dJ=items L
 | [],_=>by rw [tail1,gY];rfl
 | (q,m) :: l,hL=>by
  have ih:=nK l fun x hx=>hL x (zl _ hx);have hm:=hL (q,m) (vd ..);unfold tail1 items;split
  ·exact ih
  ·rename_i h0;split
   ·rename_i hp;rw [yy,aBd hm ((tV h0).1 hp) (gP l),ih]
   ·rw [xp,sE hm (gP l),ih]
theorem nL:∀L:List (Rat×List UInt8),(∀x∈L,Mark x.2)→(chunks (text1 L)).map dJ=items L
 | [],_=>by rw [text1,gY];rfl
 | (q,m) :: l,hL=>by
  have hm:=hL (q,m) (vd ..);unfold text1 items;split
  ·exact nL l fun x hx=>hL x (zl _ hx)
  ·rw [sE hm (gP l),nK l fun x hx=>hL x (zl _ hx)]
theorem sT:∀L:List (Rat×List UInt8),text1 L=[]→items L=[]
 | [],_=>rfl
 | (q,m) :: l,h=>by
  unfold text1 at h;unfold items;split
  ·rename_i h0;rw [om h0]at h;exact sT l h
  ·rename_i h0;rw [og h0]at h;exact absurd (List.append_eq_nil_iff.1 (List.append_eq_nil_iff.1 h).1).1 (iE q)
theorem yN (v:Q4):(chunks (aL v)).map dJ=if text1 (fF v)=[] then [[48]] else items (fF v):=by
 unfold aL;rw [uR]
 by_cases h:text1 (fF v)=[]
 ·rw [om h,om h,iJ,show gI []=[] from rfl,gY];rfl
 ·rw [og h,og h,nL _ (zZ v)]
def mkN:Nat→List UInt8
 | 1=>[114,50]
 | 2=>[114,51]
 | 3=>[114,54]
 | _=>[]
def dU (p m:List UInt8):Prop:=m.length≤p.length∧p.drop (p.length-m.length)=m
instance (p m:List UInt8):Decidable (dU p m):=by unfold dU;exact inferInstance
def cY (p:List UInt8):Nat×List UInt8:=
 if dU p (mkN 1) then (1,p.take (p.length-2)) else if dU p (mkN 2) then (2,p.take (p.length-2)) else if dU p (mkN 3) then (3,p.take (p.length-2)) else (0,p)
def jB (c:UInt8):Nat:=if c=50 then 1 else if c=51 then 2 else if c=54 then 3 else 0
def fM (p:List UInt8):Nat×List UInt8:=
 if 2<p.length∧p.getD (p.length-2) 0=114 then (jB (p.getD (p.length-1) 0),p.take (p.length-2)) else (0,p)
theorem xT (a m:List UInt8):dU (a++m) m:=by
 refine⟨by rw [oh];omega,?_⟩;rw [oh,kw,List.drop_left]
theorem aQd {p:List UInt8}{a b:UInt8}(h:dU p [a,b]):a∈p:=by
 have h2:=h.2;have:a∈p.drop (p.length-[a,b].length):=by rw [h2];exact vd ..
 exact List.mem_of_mem_drop this
theorem no114 (q:Rat):(114:UInt8) ∉ aC q:=fun h=>by
 have:=uL q 114 h;exact absurd this oz
theorem tY {a:List UInt8}{x y:UInt8}(h:dU (a++[114,x]) [114,y]):x=y:=by
 have h2:=h.2;have e:(a++[114,x]).length-[114,y].length=a.length:=by rw [oh];simp
 rw [e,List.drop_left]at h2;injection h2 with _ h2;injection h2 with h2 _
theorem oQ (a:List UInt8) (x y:UInt8):(a++[x,y]).take ((a++[x,y]).length-2)=a:=by
 have e:(a++[x,y]).length-2=a.length:=by rw [oh];simp
 rw [e,List.take_left]
theorem aHz (q:Rat) {i:Nat}(hi:i<4):cY (aC q++mkN i)=(i,aC q):=by
 have no:∀b,¬ dU (aC q) [114,b]:=fun b h=>no114 q (aQd h);unfold cY;rw [show mkN 1=[114,50] from rfl,show mkN 2=[114,51] from rfl,show mkN 3=[114,54] from rfl];rcases (show i=0∨i=1∨i=2∨i=3 by omega) with rfl|rfl|rfl|rfl
 ·have e:aC q++mkN 0=aC q:=qo _;rw [e,og (no _),og (no _),og (no _)]
 ·rw [show mkN 1=[114,50] from rfl,om (xT _ _)];exact congrArg (Prod.mk 1) (oQ _ _ _)
 ·rw [show mkN 2=[114,51] from rfl,og fun h=>absurd (tY (x:=51) (y:=50) h) oz,om (xT _ _)];exact congrArg (Prod.mk 2) (oQ _ _ _)
 ·rw [show mkN 3=[114,54] from rfl,og fun h=>absurd (tY (x:=54) (y:=50) h) oz,og fun h=>absurd (tY (x:=54) (y:=51) h) oz,om (xT _ _)];exact congrArg (Prod.mk 3) (oQ _ _ _)
theorem zB (a:List UInt8) (x y:UInt8):(a++[x,y]).getD ((a++[x,y]).length-2) 0=x∧(a++[x,y]).getD ((a++[x,y]).length-1) 0=y:=by
 have e:(a++[x,y]).length-2=a.length:=by rw [oh];simp
 have e':(a++[x,y]).length-1=a.length+1:=by rw [oh];simp
 rw [e,e',qh,qh,vm (oy _),vm oq];simp
theorem aIa (q:Rat) {i:Nat}(hi:i<4):fM (aC q++mkN i)=(i,aC q):=by
 have hl:0<(aC q).length:=zd.2 (iE q);have key:∀y:UInt8,fM (aC q++[114,y])=(jB y,aC q):=fun y=>by
  unfold fM;rw [(zB _ 114 y).1,(zB _ 114 y).2,om ⟨by rw [oh];simp only [od,ob];omega,rfl⟩,oQ]
 rcases (show i=0∨i=1∨i=2∨i=3 by omega) with rfl|rfl|rfl|rfl
 ·have e:aC q++mkN 0=aC q:=qo _;rw [e];unfold fM;rw [og];rintro⟨h1,h2⟩;refine no114 q ?_;rw [qh,oo oq,Option.getD_some]at h2;rw [←h2];exact wg _
 ·exact key 50
 ·exact key 51
 ·exact key 54
def lU (v:Q4):Nat→Rat
 | 0=>v.a
 | 1=>v.b
 | 2=>v.c
 | _=>v.d
def kH (v:Q4) (i:Nat) (q:Rat):Q4:=
 match i with
 | 0=>{ v with a:=q }
 | 1=>{ v with b:=q }
 | 2=>{ v with c:=q }
 | _=>{ v with d:=q }
def kG (x:Q4) (c:List UInt8):Option Q4:=
 if (cC (cY (dJ c)).2).1=0∧lU x (cY (dJ c)).1=0 then some (kH x (cY (dJ c)).1 (cC (cY (dJ c)).2).2) else none
def iQ (x:Q4) (c:List UInt8):Option Q4:=
 if (cC (fM (dJ c)).2).1=0 then some (kH x (fM (dJ c)).1 (lU x (fM (dJ c)).1+(cC (fM (dJ c)).2).2)) else none
def gD (f:Q4→List UInt8→Option Q4):List (List UInt8)→Q4→Option Q4
 | [],x=>some x
 | c :: l,x=>match f x c with|some y=>gD f l y|none=>none
def pK (s:List UInt8):Option Q4→Int×Q4
 | some x=>if aL x=s then (0,x) else (2,Q4.zero)
 | none=>(2,Q4.zero)
def iR (s:List UInt8):Int×Q4:=if 4096<s.length then (4,Q4.zero) else pK s (gD kG (chunks s) Q4.zero)
def mG (s:List UInt8):Int×Q4:=if 4096<s.length then (4,Q4.zero) else pK s (gD iQ (chunks s) Q4.zero)
theorem aFa {q:Rat}{i:Nat}{x:Q4}{c:List UInt8}(hi:i<4) (hc:dJ c=aC q++mkN i) (hl:(aC q).length≤4096) (hx:lU x i=0):kG x c=some (kH x i q)∧iQ x c=some (kH x i q):=by
 unfold kG iQ;rw [hc,aHz q hi,aIa q hi,aCb q hl];refine⟨om ⟨rfl,hx⟩,?_⟩;rw [om rfl];show some (kH x i (lU x i+q))=_;rw [hx,Rat.zero_add]
theorem mW {f:Q4→List UInt8→Option Q4}(hf:∀q i x c,i<4→dJ c=aC q++mkN i→(aC q).length≤4096→lU x i=0→f x c=some (kH x i q)) :
 ∀(L:List (Rat×List UInt8)) (ks:List Nat) (l:List (List UInt8)) (x:Q4),l.map dJ=items L→L.map Prod.snd=ks.map mkN→ks.Nodup→(∀i∈ks,i<4∧lU x i=0)→(∀y∈L,(aC y.1).length≤4096∨y.1=0)→
  gD f l x=some ((L.zip ks).foldl (fun x p=>kH x p.2 p.1.1) x)
 | [],[],l,x,h1,_,_,_,_=>by
  have:l=[]:=by simpa [items] using h1
  rw [this];rfl
 | [],_ :: _,_,_,_,h2,_,_,_=>by cases h2
 | _ :: _,[],_,_,_,h2,_,_,_=>by cases h2
 | (q,m) :: L,i :: ks,l,x,h1,h2,h3,h4,h5=>by
  injection h2 with h2 h2';rw [List.nodup_cons]at h3;have h2:m=mkN i:=h2;subst h2;obtain⟨hi,hx⟩:=h4 i (vd ..);have hks:∀k∈ks,k<4∧lU (kH x i q) k=0:=fun k hk=>by
   obtain⟨g1,g2⟩:=h4 k (zl _ hk);have hne:k≠i:=fun e=>h3.1 (e▸hk);refine⟨g1,?_⟩;rcases (show i=0∨i=1∨i=2∨i=3 by omega) with rfl|rfl|rfl|rfl <;> rcases (show k=0∨k=1∨k=2∨k=3 by omega) with rfl|rfl|rfl|rfl <;> first|exact absurd rfl hne|exact g2
  unfold items at h1
  by_cases h0:q=0
  ·rw [om h0]at h1;have e:kH x i q=x:=by
    rw [h0];rcases (show i=0∨i=1∨i=2∨i=3 by omega) with rfl|rfl|rfl|rfl
    ·have:x.a=0:=hx;exact Q4.ext' this.symm rfl rfl rfl
    ·have:x.b=0:=hx;exact Q4.ext' rfl this.symm rfl rfl
    ·have:x.c=0:=hx;exact Q4.ext' rfl rfl this.symm rfl
    ·have:x.d=0:=hx;exact Q4.ext' rfl rfl rfl this.symm
   have:=mW hf L ks l (kH x i q) (by exact h1) h2' h3.2 hks fun y hy=>h5 y (zl _ hy);rw [e]at this;rw [this];show _=some ((L.zip ks).foldl _ (kH x i q));rw [e]
  ·rw [og h0]at h1;cases l with
   | nil=>cases h1
   | cons c l=>
    injection h1 with hc h1;have:=hf q i x c hi hc ((h5 (q,mkN i) (vd ..)).resolve_right h0) hx;unfold gD;rw [this];exact mW hf L ks l (kH x i q) h1 h2' h3.2 hks fun y hy=>h5 y (zl _ hy)
theorem wF:∀(L:List (Rat×List UInt8)),∀y∈L,(aC y.1).length≤(tail1 L).length∨y.1=0
 | [],y,hy=>by cases hy
 | (q,m) :: l,y,hy=>by
  unfold tail1;rcases vw.1 hy with rfl|hy
  ·show (aC q).length≤_∨_
   by_cases h:q=0
   ·exact .inr h
   ·rw [og h,oh,oh,oh];exact .inl oq
  ·rcases wF l y hy with h|h
   ·left
    split
    ·exact h
    ·rw [oh,oh];omega
   ·exact .inr h
theorem wH:∀(L:List (Rat×List UInt8)),∀y∈L,(aC y.1).length≤(text1 L).length∨y.1=0
 | [],y,hy=>by cases hy
 | (q,m) :: l,y,hy=>by
  unfold text1;rcases vw.1 hy with rfl|hy
  ·show (aC q).length≤_∨_
   by_cases h:q=0
   ·exact .inr h
   ·rw [og h,oh,oh];exact .inl oq
  ·split
   ·exact wH l y hy
   ·rcases wF l y hy with h|h
    ·left;rw [oh];omega
    ·exact .inr h
theorem aAg {f:Q4→List UInt8→Option Q4}(hf:∀q i x c,i<4→dJ c=aC q++mkN i→(aC q).length≤4096→lU x i=0→f x c=some (kH x i q)) (v:Q4) (hl:(aL v).length≤4096) :
 gD f (chunks (aL v)) Q4.zero=some v:=by
 have hc:=yN v
 by_cases h:text1 (fF v)=[]
 ·rw [om h]at hc;have hi:=sT _ h;have hv:v=Q4.zero:=by
   have key:∀(q:Rat) (m:List UInt8),(q,m)∈fF v→q=0:=by
    have gen:∀L:List (Rat×List UInt8),items L=[]→∀q m,(q,m)∈L→q=0:=by
     intro L
     induction L with
     | nil=>intro _ q m h;cases h
     | cons y L ih=>
      obtain⟨p,n⟩:=y;intro e q m hm;unfold items at e
      by_cases h0:p=0
      ·rw [om h0]at e;rcases vw.1 hm with hm|hm
       ·injection hm with e1 _;rw [e1,h0]
       ·exact ih e q m hm
      ·rw [og h0]at e;cases e
    exact gen _ hi
   exact Q4.ext' (key v.a [] (by simp [fF])) (key v.b [114,50] (by simp [fF])) (key v.c [114,51] (by simp [fF])) (key v.d [114,54] (by simp [fF]))
  cases hl':chunks (aL v) with
  | nil=>rw [hl']at hc;cases hc
  | cons c l=>
   rw [hl']at hc;injection hc with hc hc';have hl0:l=[]:=by simpa using hc'
   subst hl0;have:=hf 0 0 Q4.zero c oz (by rw [hc,oI];rfl) (by rw [oI];decide) rfl;unfold gD;rw [this,hv];rfl
 ·rw [og h]at hc;have:=mW hf (fF v) [0,1,2,3] (chunks (aL v)) Q4.zero hc rfl oz oz fun y hy=>by
   rcases wH (fF v) y hy with g|g
   ·left
    unfold aL at hl;rw [uR,og h]at hl;omega
   ·exact .inr g
  rw [this];rfl
theorem mY (v:Q4) (hl:(aL v).length≤4096):iR (aL v)=(0,v):=by
 unfold iR;rw [og oq,aAg (fun q i x c hi hc h hx=>(aFa hi hc h hx).1) v hl];exact om rfl
theorem tZ (v:Q4) (hl:(aL v).length≤4096):mG (aL v)=(0,v):=by
 unfold mG;rw [og oq,aAg (fun q i x c hi hc h hx=>(aFa hi hc h hx).2) v hl];exact om rfl
theorem mV (s:List UInt8) (o:Option Q4):pK s o=(2,Q4.zero)∨∃x,pK s o=(0,x)∧aL x=s:=by
 cases o with
 | none=>exact .inl rfl
 | some x=>
  unfold pK
  by_cases h:aL x=s
  ·exact .inr ⟨x,om h,h⟩
  ·exact .inl (og h)
theorem aIb (s:List UInt8):iR s=mG s:=by
 by_cases hl:4096<s.length
 ·unfold iR mG;rw [om hl,om hl]
 ·have e1:iR s=pK s (gD kG (chunks s) Q4.zero):=og hl;have e2:mG s=pK s (gD iQ (chunks s) Q4.zero):=og hl;rcases mV s (gD kG (chunks s) Q4.zero) with h1|⟨x,h1,rfl⟩
  ·rcases mV s (gD iQ (chunks s) Q4.zero) with h2|⟨x,h2,rfl⟩
   ·rw [e1,e2,h1,h2]
   ·rw [mY x oq,tZ x oq]
  ·rw [mY x oq,tZ x oq]
theorem aDa {s:List UInt8}(h:(iR s).1=0):aL (iR s).2=s:=by
 unfold iR at h ⊢
 by_cases hl:4096<s.length
 ·rw [om hl]at h;exact absurd h oz
 ·rw [og hl]at h ⊢;rcases mV s (gD kG (chunks s) Q4.zero) with h1|⟨x,h1,h2⟩
  ·rw [h1]at h;exact absurd h oz
  ·rw [h1];exact h2
