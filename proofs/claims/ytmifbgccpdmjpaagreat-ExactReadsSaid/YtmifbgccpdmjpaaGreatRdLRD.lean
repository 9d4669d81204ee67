/- Several texts in one. (Printed by prep.py.) -/
import Derived.ProofKit
import Derived.OpenShut
import Derived.Carry
import Derived.Test.YtmifbgccpdmjpaaGreatRdSPI
set_option maxRecDepth 100000
namespace Go.Proofs.YtmifbgccpdmjpaaGreat.Row
open Go.ChangeShapes Go.WideShapes Go.ChangeAt Go.RowKit
theorem own:ownKnob Tryz.prog.godebug=none:=by kernel_rfl
theorem laid:laidOutB Tryz.prog=true:=by kernel_rfl
theorem cell64 {W:World}{base:Nat}{v:Value}(h:Cell.okWide Tryz.prog W .any base 2 v):∃n,v=.int .i64 n∧In64 n:=by
 have hv:Value.okWide Tryz.prog W .any base 2 v:=by
  simp only [Value.okWide,Tryz.underlying2];exact h
 obtain⟨n,rfl⟩:=okWide_int Tryz.underlying2 hv;refine⟨n,rfl,?_⟩;simp only [Cell.okWide,Tryz.underlying2,Cell.ok]at h;obtain⟨_,h1,h2⟩:=h;have e1:IntKind.i64.min=-9223372036854775808:=rfl;have e2:IntKind.i64.max=9223372036854775807:=rfl;rw [e1]at h1;rw [e2]at h2;exact⟨h1,oq⟩
theorem cells {W:World}{base m:Nat}{cs:Array Value}{ts:List TypeId}(hsz:cs.size=m) (hts:ts=List.replicate m 2)
 (hc:∀(i:Nat) (v:Value),cs[i]?=some v→∃u,ts[i % ts.length]?=some u∧Cell.okWide Tryz.prog W .any base u v) :
 ∃l:List Int,l.length=m∧cs=(l.map (Value.int .i64)).toArray∧∀x∈l,In64 x:=by
 have key:∀i,(hi:i<cs.size)→∃n,cs[i]=.int .i64 n∧In64 n:=fun i hi=>by
  obtain⟨u,hu,hk⟩:=hc i cs[i] (oi hi);rw [hts]at hu;have hm:=vq hu;rw [List.mem_replicate]at hm;obtain⟨_,rfl⟩:=hm;exact cell64 hk
 have gen:∀l:List Value,(∀v∈l,∃n,v=Value.int .i64 n∧In64 n)→∃l':List Int,l'.length=l.length∧l=l'.map (Value.int .i64)∧∀x∈l',In64 x:=by
  intro l
  induction l with
  | nil=>intro _;exact⟨[],rfl,rfl,fun x hx=>by cases hx⟩
  | cons v l ih=>
   intro h;obtain⟨n,rfl,hn⟩:=h v (by simp);obtain⟨l',e1,e2,e3⟩:=ih fun v hv=>h v (by simp [hv])
   exact⟨n :: l',by simp [e1],by rw [List.map_cons,←e2],fun x hx=>by
    rw [vw]at hx;rcases hx with rfl|hx
    ·exact hn
    ·exact e3 x hx⟩
 obtain⟨l',e1,e2,e3⟩:=gen cs.toList fun v hv=>by
  obtain⟨i,hi,rfl⟩:=List.getElem_of_mem hv;rw [Array.getElem_toList];exact key i (by simpa using hi)
 refine⟨l',by rw [e1,zr,hsz],?_,e3⟩;rw [←e2,zx]
theorem aHe:Tryz.prog.cellTypes Tryz.prog.depth 81=some (List.replicate 8 2):=by kernel_rfl
theorem aHd:Tryz.prog.cellsOf 81=8:=by kernel_rfl
theorem quad {W:World}{base:Nat}{v:Value}(h:Value.okWide Tryz.prog W .any base 81 v):∃n0 n1 n2 n3 n4 n5 n6 n7:Int,v=.agg #[.int .i64 n0,.int .i64 n1,.int .i64 n2,.int .i64 n3,.int .i64 n4,.int .i64 n5,.int .i64 n6,.int .i64 n7]∧
 In64 n0∧In64 n1∧In64 n2∧In64 n3∧In64 n4∧In64 n5∧In64 n6∧In64 n7:=by
 simp only [Value.okWide,Tryz.underlying81]at h;obtain⟨cs,rfl,hsz,ts,hts,_,hc⟩:=h;rw [aHe]at hts;injection hts with hts;rw [aHd]at hsz;obtain⟨l,hl,rfl,hx⟩:=cells hsz hts.symm hc;rcases l with _|⟨x0,_|⟨x1,_|⟨x2,_|⟨x3,_|⟨x4,_|⟨x5,_|⟨x6,_|⟨x7,_|⟨x8,l⟩⟩⟩⟩⟩⟩⟩⟩⟩ <;> first
  | (simp only [od,ob]at hl;omega)
  | exact⟨x0,x1,x2,x3,x4,x5,x6,x7,rfl,hx _ (by simp),hx _ (by simp),hx _ (by simp),hx _ (by simp),hx _ (by simp),hx _ (by simp),hx _ (by simp),hx _ (by simp)⟩
theorem aPz {W:World}{base:Nat}{v:Value}(h:Value.okWide Tryz.prog W .any base 9 v):∃l:List UInt8,v=.string (str l):=by
 obtain⟨s,rfl⟩:=okWide_string Tryz.underlying9 h;exact⟨s.data.toList,rfl⟩
end Go.Proofs.YtmifbgccpdmjpaaGreat.Row

namespace Go.Proofs.YtmifbgccpdmjpaaGreat.readsz
open Go.ChangeShapes Go.WideShapes Go.ChangeAt Go.RowKit
open Sy (Up Sees CallsG Seg)
open Go.Proofs.YtmifbgccpdmjpaaGreat.Row
theorem lifted (os:Os) (started:os.Started) (H:Type) (enc:TypeId×Value→H) :
 ReturnsInHanded {} Tryz.checked os 6 .any (Rows.exactReadsSpec.pre6 enc Tryz.prog Tryz.f6 Rows.exactReadsRow.domain false) (Rows.exactReadsSpec.post enc Tryz.prog Tryz.f6 false true false false):=by
 refine returnsInHanded_of_change (C:=Tryz.checked) own started ox Tryz.func6
  (ChangeSpec.witness6 (enc:=enc) (C:=Tryz.checked) false ⟨#[],#[.string ⟨#[]⟩,.agg #[.int .i64 0,.int .i64 0,.int .i64 0,.int .i64 0,.int .i64 0,.int .i64 0,.int .i64 0,.int .i64 0]],[]⟩ 8 ox ox ox ox) ?_
 intro W base args ds gs before hval0 hW hcnd _;have hval:∀(j:Nat) t v,Tryz.f6.params[j]?=some t→args[j]?=some v→Value.okWide Tryz.prog W .any base t v:=hval0;have hW':=hW;obtain⟨p,q,hA0,hV,rfl,hfz,hnd⟩:=hW;have hA:DataW.TrodAll enc Tryz.prog W 0 (fun _=>true) true Tryz.f6.params.toList args.toList ds p:=hA0;rw [Tryz.params6]at hA hval;obtain⟨v0,vs0,d0,ds0,p0,q0,hargs,rfl,rfl,h0,r0⟩:=trodAll_cons hA;obtain⟨v1,vs1,d1,ds1,p1,q1,rfl,rfl,rfl,h1,r1⟩:=trodAll_cons r0;obtain⟨rfl,rfl,rfl⟩:=trodAll_nil r1;obtain rfl:args=#[v0,v1]:=by cases args;simp_all
 obtain⟨rfl,rfl⟩:=trodVars_none hV;obtain⟨l0,rfl⟩:=aPz (hval 0 9 v0 rfl rfl);obtain⟨a1_0,a1_1,a1_2,a1_3,a1_4,a1_5,a1_6,a1_7,rfl,ia1_0,ia1_1,ia1_2,ia1_3,ia1_4,ia1_5,ia1_6,ia1_7⟩:=quad (hval 1 81 v1 rfl rfl);clear hA0 hval0;have hlt:∀x∈p0++(p1++[]),x.block<W.heap.size:=fun x hx=>by simpa using hW'.lt x (by simpa using hx)
 have hc:CallsG Tryz.prog 6 #[.string (str l0),.agg #[.int .i64 a1_0,.int .i64 a1_1,.int .i64 a1_2,.int .i64 a1_3,.int .i64 a1_4,.int .i64 a1_5,.int .i64 a1_6,.int .i64 a1_7]] W fun _ v=>v=.bool true:=aKe (k:=W) (R:=fun _ v=>v=.bool true) aVd ia1_0 ia1_1 ia1_2 ia1_3 ia1_4 ia1_5 ia1_6 ia1_7 (fun _ _=>rfl) W (Up.refl W);have hcall:=hc W (Sees.refl W);refine hcall.mono fun e W' he=>?_;obtain⟨v,k',rfl,_,_,hB,rfl⟩:=he;refine⟨_,rfl,_,_,_,[],p0++(p1++[]),[],hW',?_,?_,?_,hB.frame _,fun h=>by cases h⟩
 ·exact trodAll_mk1 (shut_bool Tryz.underlying4 _)
 ·exact trodAll_cons_mk (Below.trod laid ox (ow ox) h0 hB (fun x hx=>hlt x (by simp [hx]))) (trodAll_cons_mk (Below.trod laid ox (ow ox) h1 hB (fun x hx=>hlt x (by simp [hx]))) trodAll_mk0)
 ·exact rfl
theorem aUg:Tryz.prog.inPlace 6=Rows.exactReadsRow.inPlace:=by kernel_rfl
theorem aUh:Tryz.prog.unfollowed 6=Rows.exactReadsRow.unfollowed:=by kernel_rfl
theorem aUi:Tryz.prog.recurses 6=Rows.exactReadsRow.recurses:=by kernel_rfl
theorem aUj:Tryz.prog.varsNamed 6=Rows.exactReadsRow.named:=by kernel_rfl
theorem aUk:joinedFacts Tryz.prog 6 Tryz.f6 Rows.exactReadsSpec Rows.exactReadsRow=true:=by
 unfold joinedFacts;rw [aUg,aUh,aUi,aUj]
 kernel_rfl
theorem aUl:Tryz.f6.isWrapper Tryz.prog Rows.exactReadsRow.wrapper Rows.exactReadsRow.mainSum:=by
 unfold Func.isWrapper
 first|(rw [om (by decide +kernel)];kernel_rfl)|(rw [og (by decide +kernel)];exact⟨rfl,rfl⟩)
theorem over:Rows.exactReadsRow.holds Tryz.pinned (OpenSpec.ofChange Rows.exactReadsSpec):=
 OpenClaim.holds_of_wide 6 Tryz.f6 rfl rfl rfl rfl rfl rfl rfl ⟨rfl,rfl,rfl,rfl,rfl⟩ rfl rfl rfl rfl rfl ox Tryz.func6 aUk
  (ow ox) aUl (fun os started H enc _=>lifted os started H enc)
theorem proved:Rows.ExactReadsSaid:=over
#print axioms proved
end Go.Proofs.YtmifbgccpdmjpaaGreat.readsz

