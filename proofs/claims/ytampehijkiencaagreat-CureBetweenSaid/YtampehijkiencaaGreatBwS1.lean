/- Surds: the predicate; lowest terms. -/
import Derived.Test.YtampehijkiencaaGreatBwG
import Derived.Test.YtampehijkiencaaGreatBwVS
namespace Go.Proofs.YtampehijkiencaaGreat
open Go.RowKit Num
open Sy (Up Sees CallsG Seg)
structure Q4 where
 (a b c d : Rat)
def mkQ (x0 x1 x2 x3 : Int) (m : Nat) : Q4:=⟨mkRat x0 m,mkRat x1 m,mkRat x2 m,mkRat x3 m⟩
def gcd5 (m a b c d : Nat) : Nat:=Nat.gcd (Nat.gcd (Nat.gcd (Nat.gcd m a) b) c) d
def mk9 (c0 c1 c2 c3 : Array Value) (s : Value) : Array Value:=(c0.toList ++ (c1.toList ++ (c2.toList ++ (c3.toList ++ (s :: []))))).toArray
def aPt (k : World) (cs : Array Value) (v : Q4) (K : Nat) : Prop :=
 ∃ (c0 c1 c2 c3 : Array Value) (D : Option Addr) (d e : Nat) (y0 y1 y2 y3 : Int) (m : Nat),cs = mk9 c0 c1 c2 c3 (.slice D d e)∧0 < m∧gcd5 m y0.natAbs y1.natAbs y2.natAbs y3.natAbs = 1∧v = mkQ y0 y1 y2 y3 m ∧
  aCh k c0 y0 K∧aCh k c1 y1 K∧aCh k c2 y2 K∧aCh k c3 y3 K∧LimR k D d e (if m = 1 then 0 else m)∧d≤K
section
variable {k : World} {R : World→Value→Prop} {K : Nat}
end
end Go.Proofs.YtampehijkiencaaGreat
