/- Several texts in one. (Printed by prep.py.) -/
import Derived.Test.YtifcjpacobpdmaaGreatTtRowZ
import Derived.Test.YtifcjpacobpdmaaGreatTtTT
set_option maxRecDepth 100000
namespace Go.Proofs.YtifcjpacobpdmaaGreat.Row
open Go.ChangeShapes Go.WideShapes Go.ChangeAt Go.RowKit
section
variable {W:World}{base:Nat}{v:Value}
theorem aIg (h:Cell.okWide Tryz.prog W .any base 96 v):∃z:Int,v=.int .i8 z∧-128≤z∧z≤127:=by
 have hv:Value.okWide Tryz.prog W .any base 96 v:=by
  simp only [Value.okWide,Tryz.underlying96];exact h
 obtain⟨n,rfl⟩:=okWide_int Tryz.underlying96 hv;simp only [Cell.okWide,Tryz.underlying96,Cell.ok]at h;obtain⟨_,h1,h2⟩:=h;have e1:IntKind.i8.min=-128:=rfl;have e2:IntKind.i8.max=127:=rfl;rw [e1]at h1;rw [e2]at h2;exact⟨n,rfl,h1,h2⟩
theorem aTj (h:Value.okWide Tryz.prog W .any base 96 v):∃z:Int,v=.int .i8 z∧-128≤z∧z≤127:=by
 simp only [Value.okWide,Tryz.underlying96]at h;exact aIg h
theorem aQv (h:Value.okWide Tryz.prog W .any base 5 v):∃n:Nat,v=.int .u8 (n:Int):=by
 have hv:=h;simp only [Value.okWide,Tryz.underlying5]at h;obtain⟨n,rfl⟩:=okWide_int Tryz.underlying5 hv;simp only [Cell.okWide,Tryz.underlying5,Cell.ok]at h;obtain⟨_,h1,_⟩:=h;have e1:IntKind.u8.min=0:=rfl;rw [e1]at h1;exact⟨n.toNat,by rw [Int.toNat_of_nonneg h1]⟩
theorem aJc:Tryz.prog.cellTypes Tryz.prog.depth 97=some (List.replicate 24 96):=by kernel_rfl
theorem aJb:Tryz.prog.cellsOf 97=24:=by kernel_rfl
theorem vJ (h:Value.okWide Tryz.prog W .any base 97 v):∃cs f,v=.agg cs∧ArrV 24 1 I8V cs f:=by
 simp only [Value.okWide,Tryz.underlying97]at h;obtain⟨cs,rfl,hsz,ts,hts,_,hc⟩:=h;rw [aJc]at hts;injection hts with hts;rw [aJb]at hsz;have key:∀i,i<24→∃z:Int,cs[i]?=some (.int .i8 z)∧-128≤z∧z≤127:=fun i hi=>by
  have hi':i<cs.size:=oq
  obtain⟨u,hu,hk⟩:=hc i cs[i] (ot hi');rw [←hts]at hu;have hm:=zf hu;rw [List.mem_replicate]at hm;obtain⟨_,rfl⟩:=hm;obtain⟨n,e,hn⟩:=aIg hk;exact⟨n,by rw [ot hi',e],hn⟩
 obtain⟨g,hg⟩:∃g:Nat→Int,∀i,i<24→cs[i]?=some (.int .i8 (g i))∧-128≤g i∧g i≤127:=
  ⟨fun i=>if h:i<24 then (key i h).choose else 0,fun i hi=>by simp only [dif_pos hi];exact (key i hi).choose_spec⟩
 refine⟨cs,g,rfl,hsz,fun i hi=>⟨kI rfl fun q hq=>?_,(hg _ hi).2⟩⟩;rw [eB _ _ _ _ hq oq]
 match q,hq with
 | 0,_=>rw [zr];exact (hg _ hi).1
end
end Go.Proofs.YtifcjpacobpdmaaGreat.Row

namespace Go.Proofs.YtifcjpacobpdmaaGreat.turned
open Go.ChangeShapes Go.WideShapes Go.ChangeAt Go.RowKit
open Sy (Up Sees CallsG Seg)
open Go.Proofs.YtifcjpacobpdmaaGreat.Row
theorem lifted (os:Os) (started:os.Started) (H:Type) (enc:TypeId×Value→H) :
 ReturnsInHanded {} Tryz.checked os 6 .any (Rows.topTurnedRoundSpec.pre6 enc Tryz.prog Tryz.f6 Rows.topTurnedRoundRow.domain false) (Rows.topTurnedRoundSpec.post enc Tryz.prog Tryz.f6 false true false false):=by
 refine returnsInHanded_of_change (C:=Tryz.checked) own started ox Tryz.func6
  (ChangeSpec.witness6 (enc:=enc) (C:=Tryz.checked) false ⟨#[],#[.agg (List.replicate 24 (.int .i8 0)).toArray,.agg (List.replicate 24 (.int .i8 0)).toArray,.agg (List.replicate 24 (.int .i8 0)).toArray,.int .i8 0,.int .u8 0],[]⟩ 8 ox ox ox ox) ?_
 intro W base args ds gs before hval0 hW hcnd _;have hval:∀(j:Nat) t v,Tryz.f6.params[j]?=some t→args[j]?=some v→Value.okWide Tryz.prog W .any base t v:=hval0;have hW':=hW;obtain⟨p,q,hA0,hV,rfl,hfz,hnd⟩:=hW;have hA:DataW.TrodAll enc Tryz.prog W 0 (fun _=>true) true Tryz.f6.params.toList args.toList ds p:=hA0;rw [Tryz.params6]at hA hval;obtain⟨v0,vs0,d0,ds0,p0,q0,hargs,rfl,rfl,h0,r0⟩:=trodAll_cons hA;obtain⟨v1,vs1,d1,ds1,p1,q1,rfl,rfl,rfl,h1,r1⟩:=trodAll_cons r0;obtain⟨v2,vs2,d2,ds2,p2,q2,rfl,rfl,rfl,h2,r2⟩:=trodAll_cons r1;obtain⟨v3,vs3,d3,ds3,p3,q3,rfl,rfl,rfl,h3,r3⟩:=trodAll_cons r2;obtain⟨v4,vs4,d4,ds4,p4,q4,rfl,rfl,rfl,h4,r4⟩:=trodAll_cons r3;obtain⟨rfl,rfl,rfl⟩:=trodAll_nil r4;obtain rfl:args=#[v0,v1,v2,v3,v4]:=by cases args;simp_all
 obtain⟨rfl,rfl⟩:=trodVars_none hV;obtain⟨x0,f0,rfl,sx0⟩:=vJ (hval 0 97 v0 rfl rfl);obtain⟨x1,f1,rfl,sx1⟩:=vJ (hval 1 97 v1 rfl rfl);obtain⟨x2,f2,rfl,sx2⟩:=vJ (hval 2 97 v2 rfl rfl);obtain⟨i3,rfl,ii3⟩:=aTj (hval 3 96 v3 rfl rfl);obtain⟨i4,rfl⟩:=aQv (hval 4 5 v4 rfl rfl);clear hA0 hval0;have hlt:∀x∈p0++(p1++(p2++(p3++(p4++[])))),x.block<W.heap.size:=fun x hx=>by simpa using hW'.lt x (by simpa using hx)
 have hc:CallsG Tryz.prog 6 #[.agg x0,.agg x1,.agg x2,.int .i8 i3,.int .u8 (i4:Int)] W fun _ v=>v=.bool true:=aUi (k:=W) (R:=fun _ v=>v=.bool true) sx0 sx1 sx2 ii3 (fun _ _=>rfl) W (Up.refl W);have hcall:=hc W (Sees.refl W);refine hcall.mono fun e W' he=>?_;obtain⟨v,k',rfl,_,_,hB,rfl⟩:=he;refine⟨_,rfl,_,_,_,[],p0++(p1++(p2++(p3++(p4++[])))),[],hW',?_,?_,?_,hB.frame _,fun h=>by cases h⟩
 ·exact trodAll_mk1 (shut_bool Tryz.underlying4 _)
 ·exact trodAll_cons_mk (Below.trod laid ox (ow ox) h0 hB (fun x hx=>hlt x (by simp [hx]))) (trodAll_cons_mk (Below.trod laid ox (ow ox) h1 hB (fun x hx=>hlt x (by simp [hx]))) (trodAll_cons_mk (Below.trod laid ox (ow ox) h2 hB (fun x hx=>hlt x (by simp [hx]))) (trodAll_cons_mk (Below.trod laid ox (ow ox) h3 hB (fun x hx=>hlt x (by simp [hx]))) (trodAll_cons_mk (Below.trod laid ox (ow ox) h4 hB (fun x hx=>hlt x (by simp [hx]))) trodAll_mk0))))
 ·exact rfl
theorem aVm:Tryz.prog.inPlace 6=Rows.topTurnedRoundRow.inPlace:=by kernel_rfl
theorem aVn:Tryz.prog.unfollowed 6=Rows.topTurnedRoundRow.unfollowed:=by kernel_rfl
theorem aVo:Tryz.prog.recurses 6=Rows.topTurnedRoundRow.recurses:=by kernel_rfl
theorem aVp:Tryz.prog.varsNamed 6=Rows.topTurnedRoundRow.named:=by kernel_rfl
theorem aVq:joinedFacts Tryz.prog 6 Tryz.f6 Rows.topTurnedRoundSpec Rows.topTurnedRoundRow=true:=by
 unfold joinedFacts;rw [aVm,aVn,aVo,aVp]
 kernel_rfl
theorem aVr:Tryz.f6.isWrapper Tryz.prog Rows.topTurnedRoundRow.wrapper Rows.topTurnedRoundRow.mainSum:=by
 unfold Func.isWrapper
 first|(rw [og (by decide +kernel)];kernel_rfl)|(rw [oh (by decide +kernel)];exact⟨rfl,rfl⟩)
theorem over:Rows.topTurnedRoundRow.holds Tryz.pinned (OpenSpec.ofChange Rows.topTurnedRoundSpec):=
 OpenClaim.holds_of_wide 6 Tryz.f6 rfl rfl rfl rfl rfl rfl rfl ⟨rfl,rfl,rfl,rfl,rfl⟩ rfl rfl rfl rfl rfl ox Tryz.func6 aVq
  (ow ox) aVr (fun os started H enc _=>lifted os started H enc)
theorem proved:Rows.TopTurnedRoundSaid:=over
#print axioms proved
end Go.Proofs.YtifcjpacobpdmaaGreat.turned

