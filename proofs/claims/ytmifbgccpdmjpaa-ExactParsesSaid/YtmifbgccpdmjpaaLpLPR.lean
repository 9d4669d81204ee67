/- Several texts in one. (Printed by prep.py.) -/
import Derived.ProofKit
import Derived.OpenShut
import Derived.Carry
import Derived.Test.YtmifbgccpdmjpaaLpLPZ
set_option maxRecDepth 100000
namespace Go.Proofs.Ytmifbgccpdmjpaa.Row
open Go.ChangeShapes Go.WideShapes Go.ChangeAt Go.RowKit
theorem own:ownKnob Try.prog.godebug=none:=by kernel_rfl
theorem laid:laidOutB Try.prog=true:=by kernel_rfl
theorem aKz {W:World}{base:Nat}{v:Value}(h:Value.okWide Try.prog W .any base 9 v):∃l:List UInt8,v=.string (str l):=by
 obtain⟨s,rfl⟩:=okWide_string Try.underlying9 h;exact⟨s.data.toList,rfl⟩
end Go.Proofs.Ytmifbgccpdmjpaa.Row

namespace Go.Proofs.Ytmifbgccpdmjpaa.parsesz
open Go.ChangeShapes Go.WideShapes Go.ChangeAt Go.RowKit
open Sy (Up Sees CallsG Seg)
open Go.Proofs.Ytmifbgccpdmjpaa.Row
theorem lifted (os:Os) (started:os.Started) (H:Type) (enc:TypeId×Value→H) :
 ReturnsInHanded {} Try.checked os 3 .any (Rows.exactParsesSpec.pre6 enc Try.prog Try.f3 Rows.exactParsesRow.domain false) (Rows.exactParsesSpec.post enc Try.prog Try.f3 false true false false):=by
 refine returnsInHanded_of_change (C:=Try.checked) own started ox Try.func3
  (ChangeSpec.witness6 (enc:=enc) (C:=Try.checked) false ⟨#[],#[.string ⟨#[]⟩],[]⟩ 8 ox ox ox ox) ?_
 intro W base args ds gs before hval0 hW hcnd _;have hval:∀(j:Nat) t v,Try.f3.params[j]?=some t→args[j]?=some v→Value.okWide Try.prog W .any base t v:=hval0;have hW':=hW;obtain⟨p,q,hA0,hV,rfl,hfz,hnd⟩:=hW;have hA:DataW.TrodAll enc Try.prog W 0 (fun _=>true) true Try.f3.params.toList args.toList ds p:=hA0;rw [Try.params3]at hA hval;obtain⟨v0,vs0,d0,ds0,p0,q0,hargs,rfl,rfl,h0,r0⟩:=trodAll_cons hA;obtain⟨rfl,rfl,rfl⟩:=trodAll_nil r0;obtain rfl:args=#[v0]:=by cases args;simp_all
 obtain⟨rfl,rfl⟩:=trodVars_none hV;obtain⟨l0,rfl⟩:=aKz (hval 0 9 v0 rfl rfl);clear hA0 hval0;have hlt:∀x∈p0++[],x.block<W.heap.size:=fun x hx=>by simpa using hW'.lt x (by simpa using hx)
 have hc:CallsG Try.prog 3 #[.string (str l0)] W fun _ v=>v=.bool true:=aGn (k:=W) (R:=fun _ v=>v=.bool true)  (fun _ _=>rfl) W (Up.refl W);have hcall:=hc W (Sees.refl W);refine hcall.mono fun e W' he=>?_;obtain⟨v,k',rfl,_,_,hB,rfl⟩:=he;refine⟨_,rfl,_,_,_,[],p0++[],[],hW',?_,?_,?_,hB.frame _,fun h=>by cases h⟩
 ·exact trodAll_mk1 (shut_bool Try.underlying4 _)
 ·exact trodAll_cons_mk (Below.trod laid ox (ow ox) h0 hB (fun x hx=>hlt x (by simp [hx]))) trodAll_mk0
 ·exact rfl
theorem aOo:Try.prog.inPlace 3=Rows.exactParsesRow.inPlace:=by kernel_rfl
theorem aOp:Try.prog.unfollowed 3=Rows.exactParsesRow.unfollowed:=by kernel_rfl
theorem aOq:Try.prog.recurses 3=Rows.exactParsesRow.recurses:=by kernel_rfl
theorem aOr:Try.prog.varsNamed 3=Rows.exactParsesRow.named:=by kernel_rfl
theorem aOs:joinedFacts Try.prog 3 Try.f3 Rows.exactParsesSpec Rows.exactParsesRow=true:=by
 unfold joinedFacts;rw [aOo,aOp,aOq,aOr]
 kernel_rfl
theorem aOt:Try.f3.isWrapper Try.prog Rows.exactParsesRow.wrapper Rows.exactParsesRow.mainSum:=by
 unfold Func.isWrapper
 first|(rw [og (by decide +kernel)];kernel_rfl)|(rw [oh (by decide +kernel)];exact⟨rfl,rfl⟩)
theorem over:Rows.exactParsesRow.holds Try.pinned (OpenSpec.ofChange Rows.exactParsesSpec):=
 OpenClaim.holds_of_wide 3 Try.f3 rfl rfl rfl rfl rfl rfl rfl ⟨rfl,rfl,rfl,rfl,rfl⟩ rfl rfl rfl rfl rfl ox Try.func3 aOs
  (ow ox) aOt (fun os started H enc _=>lifted os started H enc)
theorem proved:Rows.ExactParsesSaid:=over
#print axioms proved
end Go.Proofs.Ytmifbgccpdmjpaa.parsesz

