/- Surds: texts. (Printed by gen/surd6.py.) -/
import Derived.Test.YtpeakfmjibfkpaaGreatFoS5
import Derived.Test.YtpeakfmjibfkpaaGreatFoG2
import Derived.Test.YtpeakfmjibfkpaaGreatFoVX
namespace Go.Proofs.YtpeakfmjibfkpaaGreat
open Go.RowKit Num Plain
open Sy (Up Sees CallsG Seg)
def str (l:List UInt8):ByteArray:=⟨l.toArray⟩
theorem qZ (bs:ByteArray):∀(n i:Nat) (r:List UInt8),bs.size-i=n→ByteArray.toList.loop bs i r=r.reverse++bs.data.toList.drop i
 | 0,i,r,h=>by
  unfold ByteArray.toList.loop;have hs:bs.size=bs.data.size:=rfl;rw [if_neg (by omega),List.drop_eq_nil_of_le (by simp;omega)];simp
 | n+1,i,r,h=>by
  unfold ByteArray.toList.loop;have hs:bs.size=bs.data.size:=rfl;have hl:i<bs.data.toList.length:=by simp;omega
  rw [if_pos (by omega),qZ bs n (i+1) _ (by omega),List.drop_eq_getElem_cons hl];have:bs.get! i=bs.data.toList[i]:=by
   have hl':i<bs.data.size:=by simpa using hl
   rw [ByteArray.get!,getElem!_pos bs.data i hl'];simp
  rw [this];simp
theorem qW (bs:ByteArray):bs.toList=bs.data.toList:=by
 unfold ByteArray.toList;rw [qZ bs _ 0 [] rfl];simp
def fK (s:List UInt8) (q:Rat) (m:List UInt8):List UInt8:=
 if q=0 then s else (if s≠[]∧0<q.num.sign then s++[43] else s)++(bK q++m)
def body (v:Q4):Nat→List UInt8
 | 0=>[]
 | 1=>fK [] v.a []
 | 2=>fK (fK [] v.a []) v.b [114,50]
 | 3=>fK (fK (fK [] v.a []) v.b [114,50]) v.c [114,51]
 | _=>fK (fK (fK (fK [] v.a []) v.b [114,50]) v.c [114,51]) v.d [114,54]
def aYo (v:Q4):List UInt8:=if body v 4=[] then [48] else body v 4
section
variable {k:World}{R:World→Value→Prop}{K L:Nat}{cs cs':Array Value}{v v':Q4}
end
