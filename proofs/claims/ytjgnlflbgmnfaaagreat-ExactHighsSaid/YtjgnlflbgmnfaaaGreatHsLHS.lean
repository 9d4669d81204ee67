/- Several texts in one. (Printed by prep.py.) -/
import Derived.ProofKit
import Derived.OpenShut
import Derived.Carry
import Derived.Test.YtjgnlflbgmnfaaaGreatHsNQ
set_option maxRecDepth 100000
namespace Go.Proofs.YtjgnlflbgmnfaaaGreat.Row
open Go.ChangeShapes Go.WideShapes Go.ChangeAt Go.RowKit
theorem own:ownKnob Tryz.prog.godebug=none:=by kernel_rfl
theorem laid:laidOutB Tryz.prog=true:=by kernel_rfl
theorem cell64 {W:World}{base:Nat}{v:Value}(h:Cell.okWide Tryz.prog W .any base 2 v):∃n,v=.int .i64 n∧In64 n:=by
 have hv:Value.okWide Tryz.prog W .any base 2 v:=by
  simp only [Value.okWide,Tryz.underlying2];exact h
 obtain⟨n,rfl⟩:=okWide_int Tryz.underlying2 hv;refine⟨n,rfl,?_⟩;simp only [Cell.okWide,Tryz.underlying2,Cell.ok]at h;obtain⟨_,h1,h2⟩:=h;have e1:IntKind.i64.min=-9223372036854775808:=rfl;have e2:IntKind.i64.max=9223372036854775807:=rfl;rw [e1]at h1;rw [e2]at h2;exact⟨h1,oq⟩
theorem cells {W:World}{base m:Nat}{cs:Array Value}{ts:List TypeId}(hsz:cs.size=m) (hts:ts=List.replicate m 2)
 (hc:∀(i:Nat) (v:Value),cs[i]?=some v→∃u,ts[i % ts.length]?=some u∧Cell.okWide Tryz.prog W .any base u v) :
 ∃l:List Int,l.length=m∧cs=(l.map (Value.int .i64)).toArray∧∀x∈l,In64 x:=by
 have key:∀i,(hi:i<cs.size)→∃n,cs[i]=.int .i64 n∧In64 n:=fun i hi=>by
  obtain⟨u,hu,hk⟩:=hc i cs[i] (qd hi);rw [hts]at hu;have hm:=kf hu;rw [List.mem_replicate]at hm;obtain⟨_,rfl⟩:=hm;exact cell64 hk
 have gen:∀l:List Value,(∀v∈l,∃n,v=Value.int .i64 n∧In64 n)→∃l':List Int,l'.length=l.length∧l=l'.map (Value.int .i64)∧∀x∈l',In64 x:=by
  intro l
  induction l with
  | nil=>intro _;exact⟨[],rfl,rfl,fun x hx=>by cases hx⟩
  | cons v l ih=>
   intro h;obtain⟨n,rfl,hn⟩:=h v (by simp);obtain⟨l',e1,e2,e3⟩:=ih fun v hv=>h v (by simp [hv])
   exact⟨n :: l',by simp [e1],by rw [List.map_cons,←e2],fun x hx=>by
    rw [uy]at hx;rcases hx with rfl|hx
    ·exact hn
    ·exact e3 x hx⟩
 obtain⟨l',e1,e2,e3⟩:=gen cs.toList fun v hv=>by
  obtain⟨i,hi,rfl⟩:=List.getElem_of_mem hv;rw [Array.getElem_toList];exact key i (by simpa using hi)
 refine⟨l',by rw [e1,xi,hsz],?_,e3⟩;rw [←e2,xx]
theorem aNb:Tryz.prog.cellTypes Tryz.prog.depth 80=some (List.replicate 16 2):=by kernel_rfl
theorem aNa:Tryz.prog.cellsOf 80=16:=by kernel_rfl
theorem wave {W:World}{base:Nat}{v:Value}(h:Value.okWide Tryz.prog W .any base 80 v):∃n0 n1 n2 n3 n4 n5 n6 n7 n8 n9 n10 n11 n12 n13 n14 n15:Int,v=.agg #[.int .i64 n0,.int .i64 n1,.int .i64 n2,.int .i64 n3,.int .i64 n4,.int .i64 n5,.int .i64 n6,.int .i64 n7,.int .i64 n8,.int .i64 n9,.int .i64 n10,.int .i64 n11,.int .i64 n12,.int .i64 n13,.int .i64 n14,.int .i64 n15]∧
 In64 n0∧In64 n1∧In64 n2∧In64 n3∧In64 n4∧In64 n5∧In64 n6∧In64 n7∧In64 n8∧In64 n9∧In64 n10∧In64 n11∧In64 n12∧In64 n13∧In64 n14∧In64 n15:=by
 simp only [Value.okWide,Tryz.underlying80]at h;obtain⟨cs,rfl,hsz,ts,hts,_,hc⟩:=h;rw [aNb]at hts;injection hts with hts;rw [aNa]at hsz;obtain⟨l,hl,rfl,hx⟩:=cells hsz hts.symm hc;rcases l with _|⟨x0,_|⟨x1,_|⟨x2,_|⟨x3,_|⟨x4,_|⟨x5,_|⟨x6,_|⟨x7,_|⟨x8,_|⟨x9,_|⟨x10,_|⟨x11,_|⟨x12,_|⟨x13,_|⟨x14,_|⟨x15,_|⟨x16,l⟩⟩⟩⟩⟩⟩⟩⟩⟩⟩⟩⟩⟩⟩⟩⟩⟩ <;> first
  | (simp only [om,ob]at hl;omega)
  | exact⟨x0,x1,x2,x3,x4,x5,x6,x7,x8,x9,x10,x11,x12,x13,x14,x15,rfl,hx _ (by simp),hx _ (by simp),hx _ (by simp),hx _ (by simp),hx _ (by simp),hx _ (by simp),hx _ (by simp),hx _ (by simp),hx _ (by simp),hx _ (by simp),hx _ (by simp),hx _ (by simp),hx _ (by simp),hx _ (by simp),hx _ (by simp),hx _ (by simp)⟩
end Go.Proofs.YtjgnlflbgmnfaaaGreat.Row

namespace Go.Proofs.YtjgnlflbgmnfaaaGreat.highs
open Go.ChangeShapes Go.WideShapes Go.ChangeAt Go.RowKit
open Sy (Up Sees CallsG Seg)
open Go.Proofs.YtjgnlflbgmnfaaaGreat.Row
theorem lifted (os:Os) (started:os.Started) (H:Type) (enc:TypeId×Value→H) :
 ReturnsInHanded {} Tryz.checked os 6 .any (Rows.exactHighsSpec.pre6 enc Tryz.prog Tryz.f6 Rows.exactHighsRow.domain false) (Rows.exactHighsSpec.post enc Tryz.prog Tryz.f6 false true false false):=by
 refine returnsInHanded_of_change (C:=Tryz.checked) own started ox Tryz.func6
  (ChangeSpec.witness6 (enc:=enc) (C:=Tryz.checked) false ⟨#[],#[.agg #[.int .i64 0,.int .i64 0,.int .i64 0,.int .i64 0,.int .i64 0,.int .i64 0,.int .i64 0,.int .i64 0,.int .i64 0,.int .i64 0,.int .i64 0,.int .i64 0,.int .i64 0,.int .i64 0,.int .i64 0,.int .i64 0]],[]⟩ 8 ox ox ox ox) ?_
 intro W base args ds gs before hval0 hW hcnd _;have hval:∀(j:Nat) t v,Tryz.f6.params[j]?=some t→args[j]?=some v→Value.okWide Tryz.prog W .any base t v:=hval0;have hW':=hW;obtain⟨p,q,hA0,hV,rfl,hfz,hnd⟩:=hW;have hA:DataW.TrodAll enc Tryz.prog W 0 (fun _=>true) true Tryz.f6.params.toList args.toList ds p:=hA0;rw [Tryz.params6]at hA hval;obtain⟨v0,vs0,d0,ds0,p0,q0,hargs,rfl,rfl,h0,r0⟩:=trodAll_cons hA;obtain⟨rfl,rfl,rfl⟩:=trodAll_nil r0;obtain rfl:args=#[v0]:=by cases args;simp_all
 obtain⟨rfl,rfl⟩:=trodVars_none hV;obtain⟨a0_0,a0_1,a0_2,a0_3,a0_4,a0_5,a0_6,a0_7,a0_8,a0_9,a0_10,a0_11,a0_12,a0_13,a0_14,a0_15,rfl,ia0_0,ia0_1,ia0_2,ia0_3,ia0_4,ia0_5,ia0_6,ia0_7,ia0_8,ia0_9,ia0_10,ia0_11,ia0_12,ia0_13,ia0_14,ia0_15⟩:=wave (hval 0 80 v0 rfl rfl);clear hA0 hval0;have hlt:∀x∈p0++[],x.block<W.heap.size:=fun x hx=>by simpa using hW'.lt x (by simpa using hx)
 have hcall:=aXh (k:=W) (R:=fun _ v=>v=.bool true) ia0_0 ia0_1 ia0_2 ia0_3 ia0_4 ia0_5 ia0_6 ia0_7 ia0_8 ia0_9 ia0_10 ia0_11 ia0_12 ia0_13 ia0_14 ia0_15 (fun _ _=>rfl) W (Up.refl W) W (Sees.refl W);refine hcall.mono fun e W' he=>?_;obtain⟨v,k',rfl,_,_,hB,rfl⟩:=he;refine⟨_,rfl,_,_,_,[],p0++[],[],hW',?_,?_,?_,hB.frame _,fun h=>by cases h⟩
 ·exact trodAll_mk1 (shut_bool Tryz.underlying4 _)
 ·exact trodAll_cons_mk (Below.trod laid ox (ow ox) h0 hB (fun x hx=>hlt x (by simp [hx]))) trodAll_mk0
 ·exact rfl
theorem over:Rows.exactHighsRow.holds Tryz.pinned (OpenSpec.ofChange Rows.exactHighsSpec):=
 OpenClaim.holds_of_wide 6 Tryz.f6 rfl rfl rfl rfl rfl rfl rfl ⟨rfl,rfl,rfl,rfl,rfl⟩ rfl rfl rfl rfl rfl ox Tryz.func6 ox
  (ow ox) (by unfold Func.isWrapper;first|(rw [od (by decide +kernel)];kernel_rfl)|(rw [oh (by decide +kernel)];exact⟨rfl,rfl⟩))
  (fun os started H enc _=>lifted os started H enc)
theorem proved:Rows.ExactHighsSaid:=over
#print axioms proved
end Go.Proofs.YtjgnlflbgmnfaaaGreat.highs

