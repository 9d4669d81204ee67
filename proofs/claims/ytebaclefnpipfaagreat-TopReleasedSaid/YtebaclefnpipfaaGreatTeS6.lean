/- Surds: texts. (Printed by gen/surd6.py.) -/
import Derived.Test.YtebaclefnpipfaaGreatTeS5
import Derived.Test.YtebaclefnpipfaaGreatTeG2
import Derived.Test.YtebaclefnpipfaaGreatTeVX
namespace Go.Proofs.YtebaclefnpipfaaGreat
open Go.RowKit Num Plain
open Sy (Up Sees CallsG Seg)
def str (l:List UInt8):ByteArray:=⟨l.toArray⟩
def fH (s:List UInt8) (q:Rat) (m:List UInt8):List UInt8:=
 if q=0 then s else (if s≠[]∧0<q.num.sign then s++[43] else s)++(cT q++m)
def body (v:Q4):Nat→List UInt8
 | 0=>[]
 | 1=>fH [] v.a []
 | 2=>fH (fH [] v.a []) v.b [114,50]
 | 3=>fH (fH (fH [] v.a []) v.b [114,50]) v.c [114,51]
 | _=>fH (fH (fH (fH [] v.a []) v.b [114,50]) v.c [114,51]) v.d [114,54]
def aWn (v:Q4):List UInt8:=if body v 4=[] then [48] else body v 4
section
variable {k:World}{R:World→Value→Prop}{K L:Nat}{cs cs':Array Value}{v v':Q4}
end
