/- Surds: quotients. (Printed by gen/surd5.py.) -/
import Derived.Test.YtmilhgkacmofmaaGreatCeS4
import Derived.Test.YtmilhgkacmofmaaGreatCeVD
namespace Go.Proofs.YtmilhgkacmofmaaGreat
open Go.RowKit Num Plain
open Sy (Up Sees CallsG Seg)
def em (r : Rat) : Q23:=e4 r 0 0 0
theorem e4_ne {y : Q4} : y.toQ ≠ 0↔y ≠ Q4.zero:=by
 constructor
 ·intro h e; exact h (by rw [e]; rfl)
 ·intro h e; exact h (toQ_inj (e.trans toQ_zero.symm))
section
variable {k : World} {R : World→Value→Prop} {K L : Nat} {cs cs' : Array Value} {v v' : Q4}
theorem SurdV.nil (hK : 0≤K) : SurdV k #[.bool false,.slice none 0 0,.bool false,.slice none 0 0,.bool false,.slice none 0 0,.bool false,.slice none 0 0,.slice none 0 0] Q4.zero K :=
 ⟨_,_,_,_,none,0,0,0,0,0,0,1,rfl,by omega,by decide,by unfold mkQ Q4.zero; simp,IntV.nil,IntV.nil,IntV.nil,IntV.nil,LimR.nil,hK⟩
end
end Go.Proofs.YtmilhgkacmofmaaGreat
