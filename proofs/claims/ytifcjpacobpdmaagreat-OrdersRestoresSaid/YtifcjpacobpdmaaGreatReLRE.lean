/- Several texts in one. (Printed by prep.py.) -/
import Derived.ProofKit
import Derived.OpenShut
import Derived.Carry
import Derived.Test.YtifcjpacobpdmaaGreatReRE
set_option maxRecDepth 100000
namespace Go.Proofs.YtifcjpacobpdmaaGreat.Row
open Go.ChangeShapes Go.WideShapes Go.ChangeAt Go.RowKit
theorem own:ownKnob Tryz.prog.godebug=none:=by kernel_rfl
theorem laid:laidOutB Tryz.prog=true:=by kernel_rfl
theorem bAq {W:World}{base:Nat}{v:Value}(h:Cell.okWide Tryz.prog W .any base 64 v):∃n:Nat,v=.int .u32 (n:Int)∧n<2^32:=by
 have hv:Value.okWide Tryz.prog W .any base 64 v:=by
  simp only [Value.okWide,Tryz.underlying64];exact h
 obtain⟨n,rfl⟩:=okWide_int Tryz.underlying64 hv;simp only [Cell.okWide,Tryz.underlying64,Cell.ok]at h;obtain⟨_,h1,h2⟩:=h;have e1:IntKind.u32.min=0:=rfl;have e2:IntKind.u32.max=4294967295:=rfl;rw [e1]at h1;rw [e2]at h2;have e3:(2:Nat)^32=4294967296:=rfl;exact⟨n.toNat,by rw [Int.toNat_of_nonneg h1],oq⟩
theorem aMp:Tryz.prog.cellTypes Tryz.prog.depth 66=some (List.replicate 26 64):=by kernel_rfl
theorem aMo:Tryz.prog.cellsOf 66=26:=by kernel_rfl
theorem words {W:World}{base:Nat}{v:Value}(h:Value.okWide Tryz.prog W .any base 66 v):∃cs f,v=.agg cs∧ArrV 13 2 bAi cs f:=by
 simp only [Value.okWide,Tryz.underlying66]at h;obtain⟨cs,rfl,hsz,ts,hts,_,hc⟩:=h;rw [aMp]at hts;injection hts with hts;rw [aMo]at hsz;have key:∀i,i<26→∃n:Nat,cs[i]?=some (.int .u32 (n:Int))∧n<2^32:=fun i hi=>by
  have hi':i<cs.size:=oq
  obtain⟨u,hu,hk⟩:=hc i cs[i] (qx hi');rw [←hts]at hu;have hm:=xv hu;rw [List.mem_replicate]at hm;obtain⟨_,rfl⟩:=hm;obtain⟨n,e,hn⟩:=bAq hk;exact⟨n,by rw [qx hi',e],hn⟩
 obtain⟨g,hg⟩:∃g:Nat→Nat,∀i,i<26→cs[i]?=some (.int .u32 (g i:Int))∧g i<2^32:=
  ⟨fun i=>if h:i<26 then (key i h).choose else 0,fun i hi=>by simp only [dif_pos hi];exact (key i hi).choose_spec⟩
 refine⟨cs,fun i=>(g (i*2+0),g (i*2+1)),rfl,hsz,fun i hi=>⟨sG rfl fun q hq=>?_,(hg _ oq).2,(hg _ oq).2⟩⟩;rw [lQ _ _ _ _ hq oq]
 match q,hq with
 | 0,_=>exact (hg _ oq).1
 | 1,_=>exact (hg _ oq).1
end Go.Proofs.YtifcjpacobpdmaaGreat.Row

namespace Go.Proofs.YtifcjpacobpdmaaGreat.orestores
open Go.ChangeShapes Go.WideShapes Go.ChangeAt Go.RowKit
open Sy (Up Sees CallsG Seg)
open Go.Proofs.YtifcjpacobpdmaaGreat.Row
theorem lifted (os:Os) (started:os.Started) (H:Type) (enc:TypeId×Value→H) :
 ReturnsInHanded {} Tryz.checked os 4 .any (Rows.ordersRestoresSpec.pre6 enc Tryz.prog Tryz.f4 Rows.ordersRestoresRow.domain false) (Rows.ordersRestoresSpec.post enc Tryz.prog Tryz.f4 false true false false):=by
 refine returnsInHanded_of_change (C:=Tryz.checked) own started ox Tryz.func4
  (ChangeSpec.witness6 (enc:=enc) (C:=Tryz.checked) false ⟨#[],#[.agg (List.replicate 26 (.int .u32 0)).toArray],[]⟩ 8 ox ox ox ox) ?_
 intro W base args ds gs before hval0 hW hcnd _;have hval:∀(j:Nat) t v,Tryz.f4.params[j]?=some t→args[j]?=some v→Value.okWide Tryz.prog W .any base t v:=hval0;have hW':=hW;obtain⟨p,q,hA0,hV,rfl,hfz,hnd⟩:=hW;have hA:DataW.TrodAll enc Tryz.prog W 0 (fun _=>true) true Tryz.f4.params.toList args.toList ds p:=hA0;rw [Tryz.params4]at hA hval;obtain⟨v0,vs0,d0,ds0,p0,q0,hargs,rfl,rfl,h0,r0⟩:=trodAll_cons hA;obtain⟨rfl,rfl,rfl⟩:=trodAll_nil r0;obtain rfl:args=#[v0]:=by cases args;simp_all
 obtain⟨rfl,rfl⟩:=trodVars_none hV;obtain⟨a0,f0,rfl,ia0⟩:=words (hval 0 66 v0 rfl rfl);clear hA0 hval0;have hlt:∀x∈p0++[],x.block<W.heap.size:=fun x hx=>by simpa using hW'.lt x (by simpa using hx)
 have hcall:=aBw (k:=W) (R:=fun _ v=>v=.bool true) ia0 (fun _ _=>rfl) W (Up.refl W) W (Sees.refl W);refine hcall.mono fun e W' he=>?_;obtain⟨v,k',rfl,_,_,hB,rfl⟩:=he;refine⟨_,rfl,_,_,_,[],p0++[],[],hW',?_,?_,?_,hB.frame _,fun h=>by cases h⟩
 ·exact trodAll_mk1 (shut_bool Tryz.underlying4 _)
 ·exact trodAll_cons_mk (Below.trod laid ox (ow ox) h0 hB (fun x hx=>hlt x (by simp [hx]))) trodAll_mk0
 ·exact rfl
theorem bAv:Tryz.prog.inPlace 4=Rows.ordersRestoresRow.inPlace:=by kernel_rfl
theorem bAw:Tryz.prog.unfollowed 4=Rows.ordersRestoresRow.unfollowed:=by kernel_rfl
theorem bAx:Tryz.prog.recurses 4=Rows.ordersRestoresRow.recurses:=by kernel_rfl
theorem bAy:Tryz.prog.varsNamed 4=Rows.ordersRestoresRow.named:=by kernel_rfl
theorem bAz:joinedFacts Tryz.prog 4 Tryz.f4 Rows.ordersRestoresSpec Rows.ordersRestoresRow=true:=by
 unfold joinedFacts;rw [bAv,bAw,bAx,bAy]
 kernel_rfl
theorem bBa:Tryz.f4.isWrapper Tryz.prog Rows.ordersRestoresRow.wrapper Rows.ordersRestoresRow.mainSum:=by
 unfold Func.isWrapper
 first|(rw [od (by decide +kernel)];kernel_rfl)|(rw [oh (by decide +kernel)];exact⟨rfl,rfl⟩)
theorem over:Rows.ordersRestoresRow.holds Tryz.pinned (OpenSpec.ofChange Rows.ordersRestoresSpec):=
 OpenClaim.holds_of_wide 4 Tryz.f4 rfl rfl rfl rfl rfl rfl rfl ⟨rfl,rfl,rfl,rfl,rfl⟩ rfl rfl rfl rfl rfl ox Tryz.func4 bAz
  (ow ox) bBa (fun os started H enc _=>lifted os started H enc)
theorem proved:Rows.OrdersRestoresSaid:=over
#print axioms proved
end Go.Proofs.YtifcjpacobpdmaaGreat.orestores

