/- Several texts in one. (Printed by prep.py.) -/
import Derived.Test.YtjgnlflbgmnfaaaGreatBsNI
namespace Go.Proofs.YtjgnlflbgmnfaaaGreat
open Go.RowKit
open Value (agg slice int bool tuple)
open Sy (Up Sees CallsG Seg execFn_use)
set_option maxRecDepth 100000
variable {k:World}{R:World→Value→Prop}
end Go.Proofs.YtjgnlflbgmnfaaaGreat

namespace Go.Proofs.YtjgnlflbgmnfaaaGreat.W32
open Go.RowKit Num
open Sy (Up Sees CallsG Seg)
theorem aWt (x p:Nat):4*(p*x)≤(x+p)*(x+p):=by
 rcases Nat.le_total x p with h|h
 ·obtain⟨d,rfl⟩:=Nat.exists_eq_add_of_le h;have e:(x+(x+d))*(x+(x+d))=4*((x+d)*x)+d*d:=by grind
  omega
 ·obtain⟨d,rfl⟩:=Nat.exists_eq_add_of_le h;have e:(p+d+p)*(p+d+p)=4*(p*(p+d))+d*d:=by grind
  omega
theorem aHw {a x:Nat}(hx:0<x):a<((x+a/x) / 2+1)*((x+a/x) / 2+1):=by
 have hq:a<(a/x+1)*x:=by rw [oc];exact Nat.lt_mul_div_succ a hx
 generalize a/x=q at hq ⊢;generalize hy:(x+q) / 2=y;have h1:x+(q+1)≤2*(y+1):=oq
 have h2:=aWt x (q+1);have h3:=xx h1 h1;have h4:2*(y+1)*(2*(y+1))=4*((y+1)*(y+1)):=by grind
 omega
theorem aAk {a x:Nat}(hx:0<x) (h:x≤(x+a/x) / 2):x*x≤a:=by
 have hq:x≤a/x:=oq
 exact (jr hx).1 hq
section
variable {k k':World}{A A':Option Addr}{n c m n' c' m' a b l l':Nat}{cs cs':Array Value}{R:World→Value→Prop}{x y q:Rat}{K L:Nat}
end
end Go.Proofs.YtjgnlflbgmnfaaaGreat.W32

namespace Go.Proofs.YtjgnlflbgmnfaaaGreat
open Go.RowKit
open Value (agg slice int bool tuple)
open Sy (Up Sees CallsG Seg execFn_use)
set_option maxRecDepth 100000
variable {k:World}{R:World→Value→Prop}
end Go.Proofs.YtjgnlflbgmnfaaaGreat

namespace Go.Proofs.YtjgnlflbgmnfaaaGreat
open Go.RowKit Num Plain
open Sy (Up Sees CallsG Seg)
def cat2 (c0 c1:Array Value):Array Value:=(c0.toList++(c1.toList++([]))).toArray
def aYa (k:World) (cs:Array Value) (w:W4) (K:Nat):Prop:=∃c0 c1:Array Value,cs=cat2 c0 c1∧SurdV k c0 w.re K∧SurdV k c1 w.im K
section
variable {k k':World}{cs cs' c0 c1:Array Value}{R:World→Value→Prop}{v v':Q4}{x y:W4}{K L:Nat}
end
end Go.Proofs.YtjgnlflbgmnfaaaGreat

namespace Go.Proofs.YtjgnlflbgmnfaaaGreat.W32
open Go.RowKit Num
open Sy (Up Sees CallsG Seg)
def cat4 (c0 c1 c2 c3:Array Value):Array Value:=(c0.toList++(c1.toList++(c2.toList++(c3.toList++([]))))).toArray
def SQ (k:World) (cs:Array Value) (v:Q4) (K:Nat):Prop:=∃c0 c1 c2 c3:Array Value,cs=cat4 c0 c1 c2 c3∧QV k c0 v.a K∧QV k c1 v.b K∧QV k c2 v.c K∧QV k c3 v.d K
section
variable {k k':World}{cs cs' c0 c1 c2 c3:Array Value}{R:World→Value→Prop}{x y q q':Rat}{v v':Q4}{K L:Nat}
end
end Go.Proofs.YtjgnlflbgmnfaaaGreat.W32

namespace Go.Proofs.YtjgnlflbgmnfaaaGreat
open Go.RowKit
open Value (agg slice int bool tuple)
open Sy (Up Sees CallsG Seg execFn_use)
set_option maxRecDepth 100000
variable {k:World}{R:World→Value→Prop}
end Go.Proofs.YtjgnlflbgmnfaaaGreat

namespace Go.Proofs.YtjgnlflbgmnfaaaGreat.W32
open Go.RowKit Num
open Sy (Up Sees CallsG Seg)
section
variable {k k':World}{cs cs' c0 c1 c2 c3:Array Value}{R:World→Value→Prop}{x y q q':Rat}{v v':Q4}{K L:Nat}
end
section
variable {k k':World}{cs cs' c0 c1 c2 c3:Array Value}{R:World→Value→Prop}{x y q q':Rat}{v v':Q4}{K L:Nat}
end
def WQ (k:World) (cs:Array Value) (w:W4) (K:Nat):Prop:=∃c0 c1:Array Value,cs=cat2 c0 c1∧SQ k c0 w.re K∧SQ k c1 w.im K
section
variable {k k':World}{cs cs' c0 c1:Array Value}{R:World→Value→Prop}{v v':Q4}{x y:W4}{q:Rat}{K L:Nat}
end
end Go.Proofs.YtjgnlflbgmnfaaaGreat.W32

namespace Go.Proofs.YtjgnlflbgmnfaaaGreat
open Go.RowKit
open Value (agg slice int bool tuple)
open Sy (Up Sees CallsG Seg execFn_use)
set_option maxRecDepth 100000
variable {k:World}{R:World→Value→Prop}{n0 n1 n2 n3 n4 n5 n6 n7:Int}
theorem aGg 
 (h:Cl k 52 #[agg #[int .i64 n0,int .i64 n1]] fun k1 r0=>Gt 3 r0 fun cs8=>
 Cl k1 52 #[agg #[int .i64 n2,int .i64 n3]] fun k3 r2=>Gt 3 r2 fun cs9=>
 Cl k3 52 #[agg #[int .i64 n4,int .i64 n5]] fun k5 r4=>Gt 3 r4 fun cs10=>
 Cl k5 52 #[agg #[int .i64 n6,int .i64 n7]] fun k7 r6=>Gt 3 r6 fun cs11=>
 Cl k7 26 #[Rg cs8 cs9 cs10 cs11] fun k9 r8=>Gt 9 r8 fun cs12=>
 Rt R k9 (agg cs12)) :
  CallsG Tryz.prog 31 #[agg #[int .i64 n0,int .i64 n1,int .i64 n2,int .i64 n3,int .i64 n4,int .i64 n5,int .i64 n6,int .i64 n7]] k R:=
  qY { opq:=[31,63] } h
theorem aOa 
 (h:Br (decide (((if (decide ((n0:Int)<n1))=true then n1 else n0):Int) > 1099511627776)) (Rt R k (bool false)) (Br (decide (((if (decide ((n1:Int)<n0))=true then n1 else n0):Int)<(-1099511627776))) (Rt R k (bool false)) (Br (decide (((if (decide ((n2:Int)<n3))=true then n3 else n2):Int) > 1099511627776)) (Rt R k (bool false)) (Br (decide (((if (decide ((n3:Int)<n2))=true then n3 else n2):Int)<(-1099511627776))) (Rt R k (bool false)) (Br (decide (((if (decide ((n4:Int)<n5))=true then n5 else n4):Int) > 1099511627776)) (Rt R k (bool false)) (Br (decide (((if (decide ((n5:Int)<n4))=true then n5 else n4):Int)<(-1099511627776))) (Rt R k (bool false)) (Br (decide (((if (decide ((n6:Int)<n7))=true then n7 else n6):Int) > 1099511627776)) (Rt R k (bool false)) (Br (decide (((if (decide ((n7:Int)<n6))=true then n7 else n6):Int)<(-1099511627776))) (Rt R k (bool false)) (Rt R k (bool true)))))))))) :
 CallsG Tryz.prog 25 #[agg #[int .i64 n0,int .i64 n1,int .i64 n2,int .i64 n3,int .i64 n4,int .i64 n5,int .i64 n6,int .i64 n7]] k R:=
 qY { opq:=[] } h
end Go.Proofs.YtjgnlflbgmnfaaaGreat

namespace Go.Proofs.YtjgnlflbgmnfaaaGreat
open Go.RowKit Num Plain W32
open Sy (Up Sees CallsG Seg)
section
variable {k k':World}{R:World→Value→Prop}{x q:Rat}{K L:Nat}{cs cs':Array Value}{v:Q4}{w:W4}
theorem aJs {n0 n1 n2 n3 n4 n5 n6 n7:Int}(h0:In64 n0) (h1:In64 n1) (h2:In64 n2) (h3:In64 n3) (h4:In64 n4) (h5:In64 n5) (h6:In64 n6) (h7:In64 n7) (C:∀k' ds,Up k k'→SurdV k' ds ⟨ofQ n0 n1,ofQ n2 n3,ofQ n4 n5,ofQ n6 n7⟩ 6→R k' (.agg ds)) :
 Cl k 31 #[.agg #[.int .i64 n0,.int .i64 n1,.int .i64 n2,.int .i64 n3,.int .i64 n4,.int .i64 n5,.int .i64 n6,.int .i64 n7]] R:=by
 intro k0 u0;replace C:=fun k' ds u=>C k' ds (u0.trans u);refine aGg ?_;refine aGh h0 h1 ?_;intro k1 c1 u1 q1;refine⟨c1,q1.seg,rfl,?_⟩;refine aGh h2 h3 ?_;intro k2 c2 u2 q2;refine⟨c2,q2.seg,rfl,?_⟩;refine aGh h4 h5 ?_;intro k3 c3 u3 q3;refine⟨c3,q3.seg,rfl,?_⟩;refine aGh h6 h7 ?_;intro k4 c4 u4 q4;refine⟨c4,q4.seg,rfl,?_⟩;refine aJq (((q1.up u2).up u3).up u4) ((q2.up u3).up u4) (q3.up u4) q4 oq oq ?_;intro k5 c5 u5 h5;refine⟨c5,h5.seg,rfl,?_⟩;intro k6 u6;exact C k6 c5 (((((u1.trans u2).trans u3).trans u4).trans u5).trans u6) (h5.up u6)
theorem aSl {n0 n1 n2 n3 n4 n5 n6 n7:Int}(C:∀k' b,Up k k'→R k' (.bool b)) :
 Cl k 25 #[.agg #[.int .i64 n0,.int .i64 n1,.int .i64 n2,.int .i64 n3,.int .i64 n4,.int .i64 n5,.int .i64 n6,.int .i64 n7]] R:=by
 intro k0 u0;replace C:=fun k' b u=>C k' b (u0.trans u);refine aOa ?_;refine⟨fun _ k1 u1=>C k1 _ u1,fun _=>?_⟩;refine⟨fun _ k1 u1=>C k1 _ u1,fun _=>?_⟩;refine⟨fun _ k1 u1=>C k1 _ u1,fun _=>?_⟩;refine⟨fun _ k1 u1=>C k1 _ u1,fun _=>?_⟩;refine⟨fun _ k1 u1=>C k1 _ u1,fun _=>?_⟩;refine⟨fun _ k1 u1=>C k1 _ u1,fun _=>?_⟩;refine⟨fun _ k1 u1=>C k1 _ u1,fun _=>?_⟩;refine⟨fun _ k1 u1=>C k1 _ u1,fun _=>?_⟩;exact fun k1 u1=>C k1 _ u1
end
end Go.Proofs.YtjgnlflbgmnfaaaGreat

namespace Go.Proofs.YtjgnlflbgmnfaaaGreat.W32
open Go.RowKit Num Plain
open Sy (Up Sees CallsG Seg)
section
variable {k k':World}{A A':Option Addr}{n c m n' c' m' a b l l':Nat}{cs cs' c0 c1:Array Value}{R:World→Value→Prop}{x y q p r lo hi:Rat}{K L M:Nat}{v v':Q4}
def aXt (n kk:Nat) (q:Rat):Prop:=∃r:Nat,q=(r:Rat) / ((2^kk:Nat):Rat)∧r*r≤n*2^(2*kk)∧n*2^(2*kk)<(r+1)*(r+1)
theorem rneg {q:Rat}:q.num<0↔q<0:=by rw [←Int.not_le,wm,uy]
theorem rpos {q:Rat}:0<q.num↔0<q:=by
 constructor
 ·intro h;have h1:0≤q:=wm.1 oq;rcases Rat.le_iff_lt_or_eq.1 h1 with h2|h2
  ·exact h2
  ·rw [←h2]at h;exact absurd h oz
 ·exact oF
theorem aWc {q:Rat}:q.num.sign<0↔q<0:=by
 rw [←rneg];rcases Int.lt_trichotomy q.num 0 with h|h|h
 ·rw [xi h];exact⟨fun _=>h,fun _=>oz⟩
 ·rw [h];exact Iff.rfl
 ·rw [xf h];exact⟨fun h=>absurd h oz,fun h=>oq⟩
theorem aWb {q:Rat}:q.num.sign > 0↔0<q:=by
 rw [←rpos];rcases Int.lt_trichotomy q.num 0 with h|h|h
 ·rw [xi h];exact⟨fun h=>absurd h oz,fun h=>oq⟩
 ·rw [h];exact Iff.rfl
 ·rw [xf h];exact⟨fun _=>h,fun _=>oz⟩
end
end Go.Proofs.YtjgnlflbgmnfaaaGreat.W32

namespace Go.Proofs.YtjgnlflbgmnfaaaGreat
open IntKind (wrap)
open Go.RowKit
open Value (agg slice int bool tuple)
open Sy (Up Sees CallsG Seg execFn_use)
set_option maxRecDepth 100000
variable {k:World}{R:World→Value→Prop}{b0 b2 b4 b6:Bool}{A1 A3 A5 A7 A8:Option Addr}{c1 c3 c5 c7 c8 l1 l3 l5 l7 l8:Nat}
theorem yP 
 (h:Tt∧(Tt∧(Tt∧(Br (decide (((wrap .i64 ((wrap .i64 ((l3:Nat)+(l5:Nat)))+(l7:Nat))):Int) > 0)) (Rt R k (tuple #[agg #[bool false,slice none 0 0,slice none 0 0],bool false])) (Rt R k (tuple #[agg #[bool b0,slice A1 l1 c1,slice A8 l8 c8],bool true])))))) :
 CallsG Tryz.prog 207 #[agg #[bool b0,slice A1 l1 c1,bool b2,slice A3 l3 c3,bool b4,slice A5 l5 c5,bool b6,slice A7 l7 c7,slice A8 l8 c8]] k R:=
 qY { opq:=[] } h
end Go.Proofs.YtjgnlflbgmnfaaaGreat

namespace Go.Proofs.YtjgnlflbgmnfaaaGreat
open Go.RowKit
open Value (agg slice int bool tuple)
open Sy (Up Sees CallsG Seg execFn_use)
set_option maxRecDepth 100000
variable {k:World}{R:World→Value→Prop}
end Go.Proofs.YtjgnlflbgmnfaaaGreat

namespace Go.Proofs.YtjgnlflbgmnfaaaGreat
open IntKind (wrap)
open Go.RowKit Num Plain W32
open Sy (Up Sees CallsG Seg)
section
variable {k k':World}{R:World→Value→Prop}{x q:Rat}{K L:Nat}{cs cs':Array Value}{v:Q4}{w:W4}
theorem RatV.nilz (K:Nat):RatV k #[.bool false,.slice none 0 0,.slice none 0 0] 0 K:=⟨_,_,_,_,_,_,_,rfl,⟨⟨rfl,LimR.nil⟩,LimR.nil⟩,zx _,zx _⟩
def irr (v:Q4):Bool:=decide (v.b=0) && (decide (v.c=0) && decide (v.d=0))
theorem aBo (hx:SurdV k cs v K) (hK:K≤268435456) (C:∀k' ds,Up k k'→RatV k' ds (if irr v then v.a else 0) K→R k' (.tuple #[.agg ds,.bool (irr v)])) :
 Cl k 207 #[.agg cs] R:=by
 intro k0 u0;obtain⟨c0,c1,c2,c3,D,d,e,x0,x1,x2,x3,m,rfl,hm,hg,rfl,⟨b0,A0,n0,e0,rfl,i0,l0⟩,⟨b1,A1,n1,e1,rfl,i1,l1⟩,⟨b2,A2,n2,e2,rfl,i2,l2⟩,⟨b3,A3,n3,e3,rfl,i3,l3⟩,lx,hd⟩:=hx;have hcs:mk9 #[.bool b0,.slice A0 n0 e0] #[.bool b1,.slice A1 n1 e1] #[.bool b2,.slice A2 n2 e2] #[.bool b3,.slice A3 n3 e3] (.slice D d e)=#[.bool b0,.slice A0 n0 e0,.bool b1,.slice A1 n1 e1,.bool b2,.slice A2 n2 e2,.bool b3,.slice A3 n3 e3,.slice D d e]:=rfl;rw [hcs];have q1:=i1.lim.zero_iff;have q2:=i2.lim.zero_iff;have q3:=i3.lim.zero_iff;have ee:wrap .i64 (wrap .i64 ((n1:Nat)+(n2:Nat))+(n3:Nat))=((n1+n2+n3:Nat):Int):=by
  rw [iJ (x:=(n1:Nat)+(n2:Nat)) oq oq,iJ (x:=(n1:Nat)+(n2:Nat)+(n3:Nat)) oq oq];omega
 have hirr:irr (mkQ x0 x1 x2 x3 m)=decide (x1=0∧x2=0∧x3=0):=by
  unfold irr mkQ;rw [xy];simp only [jv,decide_eq_true_eq,dT hm]
 refine yP ⟨rfl,rfl,rfl,fun h=>fun k1 u1=>?_,fun h=>fun k1 u1=>?_⟩
 ·rw [ee]at h;have h:=ow h;have er:irr (mkQ x0 x1 x2 x3 m)=false:=by rw [hirr];exact decide_eq_false oq
  have:=C k1 _ (u0.trans u1) (by rw [er];exact RatV.nilz K)
  rwa [er]at this
 ·rw [ee]at h;have h:=ov h;have hz:x1=0∧x2=0∧x3=0:=oq
  have er:irr (mkQ x0 x1 x2 x3 m)=true:=by rw [hirr];exact decide_eq_true hz
  obtain⟨z1,z2,z3⟩:=hz;have hgm:Nat.Coprime x0.natAbs m:=by
   unfold gcd5 at hg;rw [z1,z2,z3]at hg;simp only [Int.natAbs_zero,wy]at hg;rw [Nat.coprime_comm];exact hg
  have hn:(mkRat x0 m).num=x0∧(mkRat x0 m).den=m:=by
   rw [←Rat.mk_eq_mkRat x0 m oq hgm];exact⟨rfl,rfl⟩
  have u:=u0.trans u1
  have:=C k1 #[.bool b0,.slice A0 n0 e0,.slice D d e] u (by
   rw [er,og rfl];show RatV k1 _ (mkRat x0 m) K
   exact⟨b0,A0,n0,e0,D,d,_,rfl,⟨by rw [hn.1];exact i0.up u,by rw [hn.2];exact lx.up u⟩,l0,hd⟩)
  rwa [er]at this
end
