/- Several texts in one. (Printed by prep.py.) -/
import Derived.ProofKit
import Derived.OpenShut
import Derived.Carry
import Derived.Test.YtjgnlflbgmnfaaaGreatBsNBL
set_option maxRecDepth 100000
namespace Go.Proofs.YtjgnlflbgmnfaaaGreat.Row
open Go.ChangeShapes Go.WideShapes Go.ChangeAt Go.RowKit
theorem own:ownKnob Tryz.prog.godebug=none:=by kernel_rfl
theorem laid:laidOutB Tryz.prog=true:=by kernel_rfl
theorem cell64 {W:World}{base:Nat}{v:Value}(h:Cell.okWide Tryz.prog W .any base 2 v):∃n,v=.int .i64 n∧In64 n:=by
 have hv:Value.okWide Tryz.prog W .any base 2 v:=by
  simp only [Value.okWide,Tryz.underlying2];exact h
 obtain⟨n,rfl⟩:=okWide_int Tryz.underlying2 hv;refine⟨n,rfl,?_⟩;simp only [Cell.okWide,Tryz.underlying2,Cell.ok]at h;obtain⟨_,h1,h2⟩:=h;have e1:IntKind.i64.min=-9223372036854775808:=rfl;have e2:IntKind.i64.max=9223372036854775807:=rfl;rw [e1]at h1;rw [e2]at h2;exact⟨h1,oq⟩
theorem cells {W:World}{base m:Nat}{cs:Array Value}{ts:List TypeId}(hsz:cs.size=m) (hts:ts=List.replicate m 2)
 (hc:∀(i:Nat) (v:Value),cs[i]?=some v→∃u,ts[i % ts.length]?=some u∧Cell.okWide Tryz.prog W .any base u v) :
 ∃l:List Int,l.length=m∧cs=(l.map (Value.int .i64)).toArray∧∀x∈l,In64 x:=by
 have key:∀i,(hi:i<cs.size)→∃n,cs[i]=.int .i64 n∧In64 n:=fun i hi=>by
  obtain⟨u,hu,hk⟩:=hc i cs[i] (qf hi);rw [hts]at hu;have hm:=xc hu;rw [List.mem_replicate]at hm;obtain⟨_,rfl⟩:=hm;exact cell64 hk
 have gen:∀l:List Value,(∀v∈l,∃n,v=Value.int .i64 n∧In64 n)→∃l':List Int,l'.length=l.length∧l=l'.map (Value.int .i64)∧∀x∈l',In64 x:=by
  intro l
  induction l with
  | nil=>intro _;exact⟨[],rfl,rfl,fun x hx=>by cases hx⟩
  | cons v l ih=>
   intro h;obtain⟨n,rfl,hn⟩:=h v (by simp);obtain⟨l',e1,e2,e3⟩:=ih fun v hv=>h v (by simp [hv])
   exact⟨n :: l',by simp [e1],by rw [List.map_cons,←e2],fun x hx=>by
    rw [uw]at hx;rcases hx with rfl|hx
    ·exact hn
    ·exact e3 x hx⟩
 obtain⟨l',e1,e2,e3⟩:=gen cs.toList fun v hv=>by
  obtain⟨i,hi,rfl⟩:=List.getElem_of_mem hv;rw [Array.getElem_toList];exact key i (by simpa using hi)
 refine⟨l',by rw [e1,xm,hsz],?_,e3⟩;rw [←e2,vt]
theorem aIl:Tryz.prog.cellTypes Tryz.prog.depth 59=some (List.replicate 8 2):=by kernel_rfl
theorem aIk:Tryz.prog.cellsOf 59=8:=by kernel_rfl
theorem quad {W:World}{base:Nat}{v:Value}(h:Value.okWide Tryz.prog W .any base 59 v):∃n0 n1 n2 n3 n4 n5 n6 n7:Int,v=.agg #[.int .i64 n0,.int .i64 n1,.int .i64 n2,.int .i64 n3,.int .i64 n4,.int .i64 n5,.int .i64 n6,.int .i64 n7]∧
 In64 n0∧In64 n1∧In64 n2∧In64 n3∧In64 n4∧In64 n5∧In64 n6∧In64 n7:=by
 simp only [Value.okWide,Tryz.underlying59]at h;obtain⟨cs,rfl,hsz,ts,hts,_,hc⟩:=h;rw [aIl]at hts;injection hts with hts;rw [aIk]at hsz;obtain⟨l,hl,rfl,hx⟩:=cells hsz hts.symm hc;rcases l with _|⟨x0,_|⟨x1,_|⟨x2,_|⟨x3,_|⟨x4,_|⟨x5,_|⟨x6,_|⟨x7,_|⟨x8,l⟩⟩⟩⟩⟩⟩⟩⟩⟩ <;> first
  | (simp only [qt,qc]at hl;omega)
  | exact⟨x0,x1,x2,x3,x4,x5,x6,x7,rfl,hx _ (by simp),hx _ (by simp),hx _ (by simp),hx _ (by simp),hx _ (by simp),hx _ (by simp),hx _ (by simp),hx _ (by simp)⟩
end Go.Proofs.YtjgnlflbgmnfaaaGreat.Row

namespace Go.Proofs.YtjgnlflbgmnfaaaGreat.bounds
open Go.ChangeShapes Go.WideShapes Go.ChangeAt Go.RowKit
open Sy (Up Sees CallsG Seg)
open Go.Proofs.YtjgnlflbgmnfaaaGreat.Row
theorem arg8 {W:World}{base:Nat}{v:Value}(h:Value.okWide Tryz.prog W .any base 5 v):∃n,v=.int .u8 n∧0≤n∧n≤255:=by
 obtain⟨n,rfl⟩:=okWide_int Tryz.underlying5 h;refine⟨n,rfl,?_⟩;simp only [Value.okWide,Tryz.underlying5,Cell.okWide,Cell.ok]at h;obtain⟨_,h1,h2⟩:=h;have e1:IntKind.u8.min=0:=rfl;have e2:IntKind.u8.max=255:=rfl;rw [e1]at h1;rw [e2]at h2;exact⟨h1,h2⟩
theorem lifted (os:Os) (started:os.Started) (H:Type) (enc:TypeId×Value→H) :
 ReturnsInHanded {} Tryz.checked os 7 .any (Rows.exactBoundsSpec.pre6 enc Tryz.prog Tryz.f7 Rows.exactBoundsRow.domain false) (Rows.exactBoundsSpec.post enc Tryz.prog Tryz.f7 false true false false):=by
 refine returnsInHanded_of_change (C:=Tryz.checked) own started ox Tryz.func7
  (ChangeSpec.witness6 (enc:=enc) (C:=Tryz.checked) false ⟨#[],#[.agg #[.int .i64 0,.int .i64 0,.int .i64 0,.int .i64 0,.int .i64 0,.int .i64 0,.int .i64 0,.int .i64 0],.int .u8 0],[]⟩ 8 ox ox ox ox) ?_
 intro W base args ds gs before hval0 hW hcnd _;have hval:∀(j:Nat) t v,Tryz.f7.params[j]?=some t→args[j]?=some v→Value.okWide Tryz.prog W .any base t v:=hval0;have hW':=hW;obtain⟨p,q,hA0,hV,rfl,hfz,hnd⟩:=hW;have hA:DataW.TrodAll enc Tryz.prog W 0 (fun _=>true) true Tryz.f7.params.toList args.toList ds p:=hA0;rw [Tryz.params7]at hA hval;obtain⟨v0,vs0,d0,ds0,p0,q0,hargs,rfl,rfl,h0,r0⟩:=trodAll_cons hA;obtain⟨v1,vs1,d1,ds1,p1,q1,rfl,rfl,rfl,h1,r1⟩:=trodAll_cons r0;obtain⟨rfl,rfl,rfl⟩:=trodAll_nil r1;obtain rfl:args=#[v0,v1]:=by cases args;simp_all
 obtain⟨rfl,rfl⟩:=trodVars_none hV;obtain⟨a0_0,a0_1,a0_2,a0_3,a0_4,a0_5,a0_6,a0_7,rfl,ia0_0,ia0_1,ia0_2,ia0_3,ia0_4,ia0_5,ia0_6,ia0_7⟩:=quad (hval 0 59 v0 rfl rfl);obtain⟨a1,rfl,ia1⟩:=arg8 (hval 1 5 v1 rfl rfl);clear hA0 hval0;have hlt:∀x∈p0++(p1++[]),x.block<W.heap.size:=fun x hx=>by simpa using hW'.lt x (by simpa using hx)
 have hcall:=aKi (k:=W) (R:=fun _ v=>v=.bool true) ia0_0 ia0_1 ia0_2 ia0_3 ia0_4 ia0_5 ia0_6 ia0_7 ia1 (fun _ _=>rfl) W (Up.refl W) W (Sees.refl W);refine hcall.mono fun e W' he=>?_;obtain⟨v,k',rfl,_,_,hB,rfl⟩:=he;refine⟨_,rfl,_,_,_,[],p0++(p1++[]),[],hW',?_,?_,?_,hB.frame _,fun h=>by cases h⟩
 ·exact trodAll_mk1 (shut_bool Tryz.underlying4 _)
 ·exact trodAll_cons_mk (Below.trod laid ox (ow ox) h0 hB (fun x hx=>hlt x (by simp [hx]))) (trodAll_cons_mk (Below.trod laid ox (ow ox) h1 hB (fun x hx=>hlt x (by simp [hx]))) trodAll_mk0)
 ·exact rfl
theorem over:Rows.exactBoundsRow.holds Tryz.pinned (OpenSpec.ofChange Rows.exactBoundsSpec):=
 OpenClaim.holds_of_wide 7 Tryz.f7 rfl rfl rfl rfl rfl rfl rfl ⟨rfl,rfl,rfl,rfl,rfl⟩ rfl rfl rfl rfl rfl ox Tryz.func7 ox
  (ow ox) (by unfold Func.isWrapper;first|(rw [og (by decide +kernel)];kernel_rfl)|(rw [oh (by decide +kernel)];exact⟨rfl,rfl⟩))
  (fun os started H enc _=>lifted os started H enc)
theorem proved:Rows.ExactBoundsSaid:=over
#print axioms proved
end Go.Proofs.YtjgnlflbgmnfaaaGreat.bounds

