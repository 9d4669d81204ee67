/- Several texts in one. (Printed by prep.py.) -/
import Derived.Test.YtpeakfmjibfkpaaGreatJuS5
import Derived.Test.YtpeakfmjibfkpaaGreatProg
import Derived.Test.YtpeakfmjibfkpaaGreatJuSy14
import Derived.Test.YtpeakfmjibfkpaaGreatJuG2
import Derived.Test.YtpeakfmjibfkpaaGreatJuQ5
namespace Go.Proofs.YtpeakfmjibfkpaaGreat
open Num
def flr (q:Rat):Int:=q.num/(q.den:Int)
def aIh (q:Rat) (k:Nat):Rat:=mkRat (q.num*((2^k:Nat):Int) / (q.den:Int)) (2^k)
def aSa (n:Int):Nat:=(min 1000 (max 0 n)).toNat
def rcmp (y:Rat):Int:=(y-(flr y:Rat)-mkRat 1 2).num.sign
def rup (y:Rat):Bool:=decide (0<rcmp y) || (decide (rcmp y=0) && decide (flr y % 2=1))
def aQm (x s:Rat):Rat:=(if rup (x/s)=true then (flr (x/s):Rat)+1 else (flr (x/s):Rat))*s
def aSf (x s:Rat):Rat:=if s.num.sign≤0 then 0 else aQm x s
def halved (x:Rat):Nat→Rat
 | 0=>x
 | j+1=>halved x j/2
end Go.Proofs.YtpeakfmjibfkpaaGreat

namespace Go.Proofs.YtpeakfmjibfkpaaGreat
open Go.RowKit
open Value (agg slice int bool tuple)
open Sy (Up Sees CallsG Seg execFn_use)
set_option maxRecDepth 100000
variable {k:World}{R:World→Value→Prop}
end Go.Proofs.YtpeakfmjibfkpaaGreat

namespace Go.Proofs.YtpeakfmjibfkpaaGreat
open Go.RowKit Num
open Sy (Up Sees CallsG Seg)
section
variable {k k':World}{A A':Option Addr}{n n' c c' a b:Nat}{cs cs':Array Value}{bz:Bool}{R:World→Value→Prop}{x y q:Rat}{z:Int}{K L:Nat}
end
end Go.Proofs.YtpeakfmjibfkpaaGreat

namespace Go.Proofs.YtpeakfmjibfkpaaGreat
open Go.RowKit
open Value (agg slice int bool tuple)
open Sy (Up Sees CallsG Seg execFn_use)
set_option maxRecDepth 100000
variable {k:World}{R:World→Value→Prop}
end Go.Proofs.YtpeakfmjibfkpaaGreat

namespace Go.Proofs.YtpeakfmjibfkpaaGreat.W32
open Go.RowKit Num
open Sy (Up Sees CallsG Seg)
section
variable {k k':World}{cs cs':Array Value}{R:World→Value→Prop}{x y q q':Rat}{K L:Nat}{b:Bool}{A A':Option Addr}{l c l' c':Nat}
end
