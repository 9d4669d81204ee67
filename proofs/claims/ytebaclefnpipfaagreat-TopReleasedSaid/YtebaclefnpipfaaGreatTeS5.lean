/- Several texts in one. (Printed by prep.py.) -/
import Derived.Test.YtebaclefnpipfaaGreatTeG
namespace Go.Proofs.YtebaclefnpipfaaGreat
open Go.RowKit Num
open Sy (Up Sees CallsG Seg)
structure Q4 where
 (a b c d:Rat)
def mkQ (x0 x1 x2 x3:Int) (m:Nat):Q4:=⟨mkRat x0 m,mkRat x1 m,mkRat x2 m,mkRat x3 m⟩
def gcd5 (m a b c d:Nat):Nat:=Nat.gcd (Nat.gcd (Nat.gcd (Nat.gcd m a) b) c) d
def mk9 (c0 c1 c2 c3:Array Value) (s:Value):Array Value:=(c0.toList++(c1.toList++(c2.toList++(c3.toList++(s :: []))))).toArray
def aXe (k:World) (cs:Array Value) (v:Q4) (K:Nat):Prop:=
 ∃(c0 c1 c2 c3:Array Value) (D:Option Addr) (d e:Nat) (y0 y1 y2 y3:Int) (m:Nat),cs=mk9 c0 c1 c2 c3 (.slice D d e)∧0<m∧gcd5 m y0.natAbs y1.natAbs y2.natAbs y3.natAbs=1∧v=mkQ y0 y1 y2 y3 m∧
  IntV k c0 y0 K∧IntV k c1 y1 K∧IntV k c2 y2 K∧IntV k c3 y3 K∧LimR k D d e (if m=1 then 0 else m)∧d≤K
section
variable {k:World}{R:World→Value→Prop}{K:Nat}
end
def Q4.add (x y:Q4):Q4:=⟨x.a+y.a,x.b+y.b,x.c+y.c,x.d+y.d⟩
def Q4.neg (x:Q4):Q4:=⟨-x.a,-x.b,-x.c,-x.d⟩
def Q4.mul (x y:Q4):Q4:=⟨x.a*y.a+2*(x.b*y.b)+3*(x.c*y.c)+6*(x.d*y.d),x.a*y.b+x.b*y.a+3*(x.c*y.d+x.d*y.c),x.a*y.c+x.c*y.a+2*(x.b*y.d+x.d*y.b),x.a*y.d+x.d*y.a+x.b*y.c+x.c*y.b⟩
def Q4.sub (x y:Q4):Q4:=x.add y.neg
def Q4.zero:Q4:=⟨0,0,0,0⟩
def Q4.real (x:Rat):Q4:=⟨x,0,0,0⟩
theorem aAt (x:Int) {m:Nat}(_h:0<m):mkRat x m=(x:Rat) / (m:Rat):=by
 rw [yy]
theorem tG {m:Nat}(h:0<m):(m:Rat)≠0:=by
 intro e;have:((m:Nat):Rat)=((0:Nat):Rat):=by rw [e];rfl
 have:=Rat.natCast_inj.1 this;omega
theorem aDr (x y:Int) {m n:Nat}(hm:0<m) (hn:0<n):mkRat (x*n+y*m) (m*n)=mkRat x m+mkRat y n:=by
 rw [Rat.mkRat_add_mkRat _ _ oq oq]
theorem tF (x:Int) (m:Nat):mkRat (-x) m=- mkRat x m:=by rw [Rat.neg_mkRat]
theorem aDs (x y:Int) (m n:Nat):mkRat (x*y) (m*n)=mkRat x m*mkRat y n:=by rw [Rat.mkRat_mul_mkRat]
section
variable {k:World}{R:World→Value→Prop}{K:Nat}{cs cs':Array Value}{v v':Q4}
end
open Value (agg slice int bool tuple)
open Sy (Up Sees CallsG Seg execFn_use)
set_option maxRecDepth 100000
variable {k:World}{R:World→Value→Prop}
end Go.Proofs.YtebaclefnpipfaaGreat

namespace Go.Proofs.YtebaclefnpipfaaGreat
open Go.RowKit Num
open Sy (Up Sees CallsG Seg)
section
variable {k:World}{R:World→Value→Prop}{K L:Nat}{cs cs':Array Value}{v v':Q4}
end
end Go.Proofs.YtebaclefnpipfaaGreat

namespace Go.Proofs.YtebaclefnpipfaaGreat.Plain
def aXd (s t q:Int):Int:=if s=t then s else if t=0 then s else if s=0 then t else s*q
structure Q2 where
 re:Rat
 im:Rat
theorem Q2.ext' {x y:Q2}(h1:x.re=y.re) (h2:x.im=y.im):x=y:=by cases x;cases y;simp_all
instance:Add Q2:=⟨fun x y=>⟨x.re+y.re,x.im+y.im⟩⟩
instance:Mul Q2:=⟨fun x y=>⟨x.re*y.re+2*(x.im*y.im),x.re*y.im+x.im*y.re⟩⟩
instance:Neg Q2:=⟨fun x=>⟨-x.re,-x.im⟩⟩
instance:Sub Q2:=⟨fun x y=>⟨x.re-y.re,x.im-y.im⟩⟩
instance:OfNat Q2 0:=⟨⟨0,0⟩⟩
instance:OfNat Q2 1:=⟨⟨1,0⟩⟩
instance:OfNat Q2 2:=⟨⟨2,0⟩⟩
instance:OfNat Q2 3:=⟨⟨3,0⟩⟩
theorem Q2.three_re:(3:Q2).re=3:=rfl
theorem Q2.three_im:(3:Q2).im=0:=rfl
theorem Q2.add_re (x y:Q2):(x+y).re=x.re+y.re:=rfl
theorem Q2.add_im (x y:Q2):(x+y).im=x.im+y.im:=rfl
theorem Q2.mul_re (x y:Q2):(x*y).re=x.re*y.re+2*(x.im*y.im):=rfl
theorem Q2.mul_im (x y:Q2):(x*y).im=x.re*y.im+x.im*y.re:=rfl
structure Q23 where
 re:Q2
 im:Q2
theorem Q23.ext' {x y:Q23}(h1:x.re=y.re) (h2:x.im=y.im):x=y:=by cases x;cases y;simp_all
instance:Add Q23:=⟨fun x y=>⟨x.re+y.re,x.im+y.im⟩⟩
instance:Mul Q23:=⟨fun x y=>⟨x.re*y.re+3*(x.im*y.im),x.re*y.im+x.im*y.re⟩⟩
instance:Neg Q23:=⟨fun x=>⟨-x.re,-x.im⟩⟩
instance:Sub Q23:=⟨fun x y=>⟨x.re-y.re,x.im-y.im⟩⟩
instance:OfNat Q23 0:=⟨⟨0,0⟩⟩
instance:OfNat Q23 1:=⟨⟨1,0⟩⟩
theorem Q23.mul_re (x y:Q23):(x*y).re=x.re*y.re+3*(x.im*y.im):=rfl
theorem Q23.mul_im (x y:Q23):(x*y).im=x.re*y.im+x.im*y.re:=rfl
namespace A
def pos (x:Rat):Prop:=0<x
open Classical in
noncomputable def sg (x:Rat):Int:=if pos x then 1 else if pos (-x) then -1 else 0
end A
namespace B
def NN (x:Q2):Rat:=x.re*x.re-2*(x.im*x.im)
def pos (x:Q2):Prop:=(A.pos (NN x)∧A.pos x.re)∨(A.pos (-NN x)∧A.pos x.im)
open Classical in
noncomputable def sg (x:Q2):Int:=if pos x then 1 else if pos (-x) then -1 else 0
end B
namespace C
def NN (x:Q23):Q2:=x.re*x.re-3*(x.im*x.im)
def pos (x:Q23):Prop:=(B.pos (NN x)∧B.pos x.re)∨(B.pos (-NN x)∧B.pos x.im)
open Classical in
noncomputable def sg (x:Q23):Int:=if pos x then 1 else if pos (-x) then -1 else 0
end C
theorem aJm (a b c:Q23):a*b*c=a*(b*c):=by (refine Q23.ext' (Q2.ext' ?_ ?_) (Q2.ext' ?_ ?_) <;> (simp only [Q23.mul_re,Q23.mul_im,Q2.add_re,Q2.add_im,Q2.mul_re,Q2.mul_im,Q2.three_re,Q2.three_im];grind))
theorem aOm (a b:Q23):a*b=b*a:=by (refine Q23.ext' (Q2.ext' ?_ ?_) (Q2.ext' ?_ ?_) <;> (simp only [Q23.mul_re,Q23.mul_im,Q2.add_re,Q2.add_im,Q2.mul_re,Q2.mul_im,Q2.three_re,Q2.three_im];grind))
instance:Std.Associative (α:=Q23) (·*·):=⟨aJm⟩
instance:Std.Commutative (α:=Q23) (·*·):=⟨aOm⟩
def e4 (a b c d:Rat):Q23:=⟨⟨a,b⟩,⟨c,d⟩⟩
end Go.Proofs.YtebaclefnpipfaaGreat.Plain

namespace Go.Proofs.YtebaclefnpipfaaGreat
open Go.RowKit Num Plain
open Sy (Up Sees CallsG Seg)
def Q4.toQ (v:Q4):Q23:=e4 v.a v.b v.c v.d
section
variable {k:World}{R:World→Value→Prop}{K L:Nat}{cs cs':Array Value}{v v':Q4}
def Box1 (k:World) (p:Nat) (x:Int) (K:Nat):Prop:=∃c:Array Value,Sy.Blk k p 38 (c.toList++([])).toArray∧IntV k c x K
end
open Value (agg slice int bool tuple)
open Sy (Up Sees CallsG Seg execFn_use)
set_option maxRecDepth 100000
variable {k:World}{R:World→Value→Prop}
end Go.Proofs.YtebaclefnpipfaaGreat

namespace Go.Proofs.YtebaclefnpipfaaGreat
open Go.RowKit Num Plain
open Sy (Up Sees CallsG Seg)
def em (r:Rat):Q23:=e4 r 0 0 0
section
variable {k:World}{R:World→Value→Prop}{K L:Nat}{cs cs':Array Value}{v v':Q4}
end
