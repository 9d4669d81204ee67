/- Short words. -/
import Derived.KernelRfl
import Derived.Lib.Hide
namespace Go.Proofs.YtpeakfmjibfkpaaGreat
theorem oq {p:Prop}(h:p:=by omega):p:=h
theorem oz {p:Prop}(h:p:=by decide):p:=h
theorem ox {p:Prop}(h:p:=by kernel_rfl):p:=h
theorem ov {p:Prop}[Decidable p] (h:decide p=false):¬p:=of_decide_eq_false h
theorem ow {p:Prop}[Decidable p] (h:decide p=true):p:=of_decide_eq_true h
theorem oy (n:Nat):n≤n:=Nat.le_refl n
theorem ou {p:Prop}(h:p):RowKit.Hid p:=Lib.hid h
