/- Several texts in one. (Printed by prep.py.) -/
import Derived.ProofKit
import Derived.OpenShut
import Derived.Carry
import Derived.Test.YtjgnlflbgmnfaaaGreatFfNJ
set_option maxRecDepth 100000
namespace Go.Proofs.YtjgnlflbgmnfaaaGreat.Row
open Go.ChangeShapes Go.WideShapes Go.ChangeAt Go.RowKit
theorem own:ownKnob Tryz.prog.godebug=none:=by kernel_rfl
theorem laid:laidOutB Tryz.prog=true:=by kernel_rfl
end Go.Proofs.YtjgnlflbgmnfaaaGreat.Row

namespace Go.Proofs.YtjgnlflbgmnfaaaGreat.floats
open Go.ChangeShapes Go.WideShapes Go.ChangeAt Go.RowKit
open Sy (Up Sees CallsG Seg)
open Go.Proofs.YtjgnlflbgmnfaaaGreat.Row
theorem argu32 {W:World}{base:Nat}{v:Value}(h:Value.okWide Tryz.prog W .any base 46 v):∃n,v=.int .u32 n∧0≤n∧n≤4294967295:=by
 obtain⟨n,rfl⟩:=okWide_int Tryz.underlying46 h;refine⟨n,rfl,?_⟩;simp only [Value.okWide,Tryz.underlying46,Cell.okWide,Cell.ok]at h;obtain⟨_,h1,h2⟩:=h;have e1:IntKind.u32.min=0:=rfl;have e2:IntKind.u32.max=4294967295:=rfl;rw [e1]at h1;rw [e2]at h2;exact⟨h1,h2⟩
theorem argu64 {W:World}{base:Nat}{v:Value}(h:Value.okWide Tryz.prog W .any base 45 v):∃n,v=.int .u64 n∧0≤n∧n≤18446744073709551615:=by
 obtain⟨n,rfl⟩:=okWide_int Tryz.underlying45 h;refine⟨n,rfl,?_⟩;simp only [Value.okWide,Tryz.underlying45,Cell.okWide,Cell.ok]at h;obtain⟨_,h1,h2⟩:=h;have e1:IntKind.u64.min=0:=rfl;have e2:IntKind.u64.max=18446744073709551615:=rfl;rw [e1]at h1;rw [e2]at h2;exact⟨h1,h2⟩
theorem lifted (os:Os) (started:os.Started) (H:Type) (enc:TypeId×Value→H) :
 ReturnsInHanded {} Tryz.checked os 4 .any (Rows.exactFloatsSpec.pre6 enc Tryz.prog Tryz.f4 Rows.exactFloatsRow.domain false) (Rows.exactFloatsSpec.post enc Tryz.prog Tryz.f4 false true false false):=by
 refine returnsInHanded_of_change (C:=Tryz.checked) own started ox Tryz.func4
  (ChangeSpec.witness6 (enc:=enc) (C:=Tryz.checked) false ⟨#[],#[.int .u64 0,.int .u32 0],[]⟩ 8 ox ox ox ox) ?_
 intro W base args ds gs before hval0 hW hcnd _;have hval:∀(j:Nat) t v,Tryz.f4.params[j]?=some t→args[j]?=some v→Value.okWide Tryz.prog W .any base t v:=hval0;have hW':=hW;obtain⟨p,q,hA0,hV,rfl,hfz,hnd⟩:=hW;have hA:DataW.TrodAll enc Tryz.prog W 0 (fun _=>true) true Tryz.f4.params.toList args.toList ds p:=hA0;rw [Tryz.params4]at hA hval;obtain⟨v0,vs0,d0,ds0,p0,q0,hargs,rfl,rfl,h0,r0⟩:=trodAll_cons hA;obtain⟨v1,vs1,d1,ds1,p1,q1,rfl,rfl,rfl,h1,r1⟩:=trodAll_cons r0;obtain⟨rfl,rfl,rfl⟩:=trodAll_nil r1;obtain rfl:args=#[v0,v1]:=by cases args;simp_all
 obtain⟨rfl,rfl⟩:=trodVars_none hV;obtain⟨a0,rfl,ia0⟩:=argu64 (hval 0 45 v0 rfl rfl);obtain⟨a1,rfl,ia1⟩:=argu32 (hval 1 46 v1 rfl rfl);clear hA0 hval0;have hlt:∀x∈p0++(p1++[]),x.block<W.heap.size:=fun x hx=>by simpa using hW'.lt x (by simpa using hx)
 have hcall:=aDu (k:=W) (R:=fun _ v=>v=.bool true) ia0 ia1 (fun _ _=>rfl) W (Up.refl W) W (Sees.refl W);refine hcall.mono fun e W' he=>?_;obtain⟨v,k',rfl,_,_,hB,rfl⟩:=he;refine⟨_,rfl,_,_,_,[],p0++(p1++[]),[],hW',?_,?_,?_,hB.frame _,fun h=>by cases h⟩
 ·exact trodAll_mk1 (shut_bool Tryz.underlying4 _)
 ·exact trodAll_cons_mk (Below.trod laid ox (ow ox) h0 hB (fun x hx=>hlt x (by simp [hx]))) (trodAll_cons_mk (Below.trod laid ox (ow ox) h1 hB (fun x hx=>hlt x (by simp [hx]))) trodAll_mk0)
 ·exact rfl
theorem over:Rows.exactFloatsRow.holds Tryz.pinned (OpenSpec.ofChange Rows.exactFloatsSpec):=
 OpenClaim.holds_of_wide 4 Tryz.f4 rfl rfl rfl rfl rfl rfl rfl ⟨rfl,rfl,rfl,rfl,rfl⟩ rfl rfl rfl rfl rfl ox Tryz.func4 ox
  (ow ox) (by unfold Func.isWrapper;first|(rw [og (by decide +kernel)];kernel_rfl)|(rw [oh (by decide +kernel)];exact⟨rfl,rfl⟩))
  (fun os started H enc _=>lifted os started H enc)
theorem proved:Rows.ExactFloatsSaid:=over
#print axioms proved
end Go.Proofs.YtjgnlflbgmnfaaaGreat.floats

