/- Several texts in one. (Printed by prep.py.) -/
import Derived.ProofKit
import Derived.OpenShut
import Derived.Carry
import Derived.Test.YtifcjpacobpdmaaGreatRpRP
set_option maxRecDepth 100000
namespace Go.Proofs.YtifcjpacobpdmaaGreat.Row
open Go.ChangeShapes Go.WideShapes Go.ChangeAt Go.RowKit
theorem own:ownKnob Tryz.prog.godebug=none:=by kernel_rfl
theorem laid:laidOutB Tryz.prog=true:=by kernel_rfl
theorem cell64 {W:World}{base:Nat}{v:Value}(h:Cell.okWide Tryz.prog W .any base 2 v):∃n,v=.int .i64 n∧In64 n:=by
 have hv:Value.okWide Tryz.prog W .any base 2 v:=by
  simp only [Value.okWide,Tryz.underlying2];exact h
 obtain⟨n,rfl⟩:=okWide_int Tryz.underlying2 hv;refine⟨n,rfl,?_⟩;simp only [Cell.okWide,Tryz.underlying2,Cell.ok]at h;obtain⟨_,h1,h2⟩:=h;have e1:IntKind.i64.min=-9223372036854775808:=rfl;have e2:IntKind.i64.max=9223372036854775807:=rfl;rw [e1]at h1;rw [e2]at h2;exact⟨h1,oq⟩
theorem cells {W:World}{base m:Nat}{cs:Array Value}{ts:List TypeId}(hsz:cs.size=m) (hts:ts=List.replicate m 2)
 (hc:∀(i:Nat) (v:Value),cs[i]?=some v→∃u,ts[i % ts.length]?=some u∧Cell.okWide Tryz.prog W .any base u v) :
 ∃l:List Int,l.length=m∧cs=(l.map (Value.int .i64)).toArray∧∀x∈l,In64 x:=by
 have key:∀i,(hi:i<cs.size)→∃n,cs[i]=.int .i64 n∧In64 n:=fun i hi=>by
  obtain⟨u,hu,hk⟩:=hc i cs[i] (oc hi);rw [hts]at hu;have hm:=xp hu;rw [List.mem_replicate]at hm;obtain⟨_,rfl⟩:=hm;exact cell64 hk
 have gen:∀l:List Value,(∀v∈l,∃n,v=Value.int .i64 n∧In64 n)→∃l':List Int,l'.length=l.length∧l=l'.map (Value.int .i64)∧∀x∈l',In64 x:=by
  intro l
  induction l with
  | nil=>intro _;exact⟨[],rfl,rfl,fun x hx=>by cases hx⟩
  | cons v l ih=>
   intro h;obtain⟨n,rfl,hn⟩:=h v (by simp);obtain⟨l',e1,e2,e3⟩:=ih fun v hv=>h v (by simp [hv])
   exact⟨n :: l',by simp [e1],by rw [List.map_cons,←e2],fun x hx=>by
    rw [uf]at hx;rcases hx with rfl|hx
    ·exact hn
    ·exact e3 x hx⟩
 obtain⟨l',e1,e2,e3⟩:=gen cs.toList fun v hv=>by
  obtain⟨i,hi,rfl⟩:=List.getElem_of_mem hv;rw [Array.getElem_toList];exact key i (by simpa using hi)
 refine⟨l',by rw [e1,zb,hsz],?_,e3⟩;rw [←e2,xq]
theorem aPl {n:Nat}(l:List Int) (hl:l.length=n*16) (hx:∀x∈l,In64 x):∃f,ArrV n 16 IsPair (l.map (Value.int .i64)).toArray f:=by
 have hin:∀j,In64 (l.getD j 0):=fun j=>by
  rw [zl]
  by_cases h:j<l.length
  ·rw [ju h];exact hx _ (List.getElem_mem h)
  ·rw [qz oq];exact⟨oz,oz⟩
 refine⟨fun i=>⟨⟨ofQ (l.getD (i*16+0) 0) (l.getD (i*16+1) 0),ofQ (l.getD (i*16+2) 0) (l.getD (i*16+3) 0),ofQ (l.getD (i*16+4) 0) (l.getD (i*16+5) 0),ofQ (l.getD (i*16+6) 0) (l.getD (i*16+7) 0)⟩,⟨ofQ (l.getD (i*16+8) 0) (l.getD (i*16+9) 0),ofQ (l.getD (i*16+10) 0) (l.getD (i*16+11) 0),ofQ (l.getD (i*16+12) 0) (l.getD (i*16+13) 0),ofQ (l.getD (i*16+14) 0) (l.getD (i*16+15) 0)⟩⟩,by simpa using hl,fun i hi=>⟨_,_,_,_,_,_,_,_,_,_,_,_,_,_,_,_,⟨hin _,hin _,hin _,hin _,hin _,hin _,hin _,hin _,hin _,hin _,hin _,hin _,hin _,hin _,hin _,hin _⟩,?_,rfl⟩⟩;have hb:(i+1)*16≤l.length:=by rw [hl];exact od 16 hi
 refine rO rfl fun q hq=>?_;rw [lI _ _ _ _ hq (by simpa using hb)];have e:((l.map (Value.int .i64)).toArray)[i*16+q]?=some (Value.int .i64 (l.getD (i*16+q) 0)):=by
  have hlt:i*16+q<l.length:=oq
  simp [List.getD_eq_getElem?_getD,hlt]
 rw [e]
 match q,hq with
 | 0,_=>rfl
 | 1,_=>rfl
 | 2,_=>rfl
 | 3,_=>rfl
 | 4,_=>rfl
 | 5,_=>rfl
 | 6,_=>rfl
 | 7,_=>rfl
 | 8,_=>rfl
 | 9,_=>rfl
 | 10,_=>rfl
 | 11,_=>rfl
 | 12,_=>rfl
 | 13,_=>rfl
 | 14,_=>rfl
 | 15,_=>rfl
 | q+16,h=>omega
theorem uY:Tryz.prog.cellTypes Tryz.prog.depth 28=some (List.replicate 208 2):=by kernel_rfl
theorem uX:Tryz.prog.cellsOf 28=208:=by kernel_rfl
theorem spectrum {W:World}{base:Nat}{v:Value}(h:Value.okWide Tryz.prog W .any base 28 v):∃cs f,v=.agg cs∧ArrV 13 16 IsPair cs f:=by
 simp only [Value.okWide,Tryz.underlying28]at h;obtain⟨cs,rfl,hsz,ts,hts,_,hc⟩:=h;rw [uY]at hts;injection hts with hts;rw [uX]at hsz;obtain⟨l,hl,rfl,hx⟩:=cells hsz hts.symm hc;obtain⟨f,hf⟩:=aPl (n:=13) l hl hx;exact⟨_,f,rfl,hf⟩
end Go.Proofs.YtifcjpacobpdmaaGreat.Row

namespace Go.Proofs.YtifcjpacobpdmaaGreat.oreports
open Go.ChangeShapes Go.WideShapes Go.ChangeAt Go.RowKit
open Sy (Up Sees CallsG Seg)
open Go.Proofs.YtifcjpacobpdmaaGreat.Row
theorem lifted (os:Os) (started:os.Started) (H:Type) (enc:TypeId×Value→H) :
 ReturnsInHanded {} Tryz.checked os 3 .any (Rows.ordersReportsSpec.pre6 enc Tryz.prog Tryz.f3 Rows.ordersReportsRow.domain false) (Rows.ordersReportsSpec.post enc Tryz.prog Tryz.f3 false true false false):=by
 refine returnsInHanded_of_change (C:=Tryz.checked) own started ox Tryz.func3
  (ChangeSpec.witness6 (enc:=enc) (C:=Tryz.checked) false ⟨#[],#[.agg (List.replicate 208 (.int .i64 0)).toArray],[]⟩ 8 ox ox ox ox) ?_
 intro W base args ds gs before hval0 hW hcnd _;have hval:∀(j:Nat) t v,Tryz.f3.params[j]?=some t→args[j]?=some v→Value.okWide Tryz.prog W .any base t v:=hval0;have hW':=hW;obtain⟨p,q,hA0,hV,rfl,hfz,hnd⟩:=hW;have hA:DataW.TrodAll enc Tryz.prog W 0 (fun _=>true) true Tryz.f3.params.toList args.toList ds p:=hA0;rw [Tryz.params3]at hA hval;obtain⟨v0,vs0,d0,ds0,p0,q0,hargs,rfl,rfl,h0,r0⟩:=trodAll_cons hA;obtain⟨rfl,rfl,rfl⟩:=trodAll_nil r0;obtain rfl:args=#[v0]:=by cases args;simp_all
 obtain⟨rfl,rfl⟩:=trodVars_none hV;obtain⟨a0,f0,rfl,ia0⟩:=spectrum (hval 0 28 v0 rfl rfl);clear hA0 hval0;have hlt:∀x∈p0++[],x.block<W.heap.size:=fun x hx=>by simpa using hW'.lt x (by simpa using hx)
 have hcall:=aEi (k:=W) (R:=fun _ v=>v=.bool true) ia0 (fun _ _=>rfl) W (Up.refl W) W (Sees.refl W);refine hcall.mono fun e W' he=>?_;obtain⟨v,k',rfl,_,_,hB,rfl⟩:=he;refine⟨_,rfl,_,_,_,[],p0++[],[],hW',?_,?_,?_,hB.frame _,fun h=>by cases h⟩
 ·exact trodAll_mk1 (shut_bool Tryz.underlying4 _)
 ·exact trodAll_cons_mk (Below.trod laid ox (ow ox) h0 hB (fun x hx=>hlt x (by simp [hx]))) trodAll_mk0
 ·exact rfl
theorem bBi:Tryz.prog.inPlace 3=Rows.ordersReportsRow.inPlace:=by kernel_rfl
theorem bBj:Tryz.prog.unfollowed 3=Rows.ordersReportsRow.unfollowed:=by kernel_rfl
theorem bBk:Tryz.prog.recurses 3=Rows.ordersReportsRow.recurses:=by kernel_rfl
theorem bBl:Tryz.prog.varsNamed 3=Rows.ordersReportsRow.named:=by kernel_rfl
theorem bBm:joinedFacts Tryz.prog 3 Tryz.f3 Rows.ordersReportsSpec Rows.ordersReportsRow=true:=by
 unfold joinedFacts;rw [bBi,bBj,bBk,bBl]
 kernel_rfl
theorem bBn:Tryz.f3.isWrapper Tryz.prog Rows.ordersReportsRow.wrapper Rows.ordersReportsRow.mainSum:=by
 unfold Func.isWrapper
 first|(rw [og (by decide +kernel)];kernel_rfl)|(rw [oh (by decide +kernel)];exact⟨rfl,rfl⟩)
theorem over:Rows.ordersReportsRow.holds Tryz.pinned (OpenSpec.ofChange Rows.ordersReportsSpec):=
 OpenClaim.holds_of_wide 3 Tryz.f3 rfl rfl rfl rfl rfl rfl rfl ⟨rfl,rfl,rfl,rfl,rfl⟩ rfl rfl rfl rfl rfl ox Tryz.func3 bBm
  (ow ox) bBn (fun os started H enc _=>lifted os started H enc)
theorem proved:Rows.OrdersReportsSaid:=over
#print axioms proved
end Go.Proofs.YtifcjpacobpdmaaGreat.oreports

