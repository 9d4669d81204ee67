/- Several texts in one. (Printed by prep.py.) -/
import Derived.Test.YtlginncipdaifaaGreatRows
import Derived.WalkKit
import Derived.ProofKit
import Derived.OpenShut
import Derived.Carry
import Derived.Test.YtlginncipdaifaaGreatMbMB
namespace Go.Proofs.YtlginncipdaifaaGreat.Row
open Go.ChangeShapes Go.WideShapes Go.ChangeAt Go.RowKit
theorem own : ownKnob Tryz.prog.godebug = none:=by kernel_rfl
theorem laid : laidOutB Tryz.prog = true:=by kernel_rfl
set_option maxRecDepth 100000 in
theorem cell8 {W : World} {base : Nat} {v : Value} (h : Cell.okWide Tryz.prog W .any base 22 v) : ∃ n,v = .int .i8 n∧In8 n:=by
 have hv : Value.okWide Tryz.prog W .any base 22 v:=by
  simp only [Value.okWide,Tryz.underlying22]
  exact h
 obtain ⟨n,rfl⟩:=okWide_int Tryz.underlying22 hv
 refine ⟨n,rfl,?_⟩
 simp only [Cell.okWide,Tryz.underlying22,Cell.ok] at h
 obtain ⟨_,h1,h2⟩:=h
 have e1 : IntKind.i8.min = -128:=rfl
 have e2 : IntKind.i8.max = 127:=rfl
 rw [e1] at h1
 rw [e2] at h2
 exact ⟨h1,h2⟩
set_option maxRecDepth 100000 in
theorem cells {W : World} {base m : Nat} {cs : Array Value} {ts : List TypeId} (hsz : cs.size = m) (hts : ts = List.replicate m 22)
 (hc : ∀ (i : Nat) (v : Value),cs[i]? = some v→∃ u,ts[i % ts.length]? = some u∧Cell.okWide Tryz.prog W .any base u v) :
 ∃ l : List Int,l.length = m∧cs = (l.map (Value.int .i8)).toArray∧∀ x ∈ l,In8 x:=by
 have key : ∀ i,(hi : i < cs.size)→∃ n,cs[i] = .int .i8 n∧In8 n:=fun i hi=>by
  obtain ⟨u,hu,hk⟩:=hc i cs[i] (Array.getElem?_eq_getElem hi)
  rw [hts] at hu
  have hm:=List.mem_of_getElem? hu
  rw [List.mem_replicate] at hm
  obtain ⟨_,rfl⟩:=hm
  exact cell8 hk
 have gen : ∀ l : List Value,(∀ v ∈ l,∃ n,v = Value.int .i8 n∧In8 n)→∃ l' : List Int,l'.length = l.length∧l = l'.map (Value.int .i8)∧∀ x ∈ l',In8 x:=by
  intro l
  induction l with
  | nil=>intro _; exact ⟨[],rfl,rfl,fun x hx=>by cases hx⟩
  | cons v l ih =>
   intro h
   obtain ⟨n,rfl,hn⟩:=h v (by simp)
   obtain ⟨l',e1,e2,e3⟩:=ih fun v hv=>h v (by simp [hv])
   exact ⟨n :: l',by simp [e1],by rw [List.map_cons,← e2],fun x hx=>by
    rw [List.mem_cons] at hx
    rcases hx with rfl | hx
    ·exact hn
    ·exact e3 x hx⟩
 obtain ⟨l',e1,e2,e3⟩:=gen cs.toList fun v hv=>by
  obtain ⟨i,hi,rfl⟩:=List.getElem_of_mem hv
  rw [Array.getElem_toList]
  exact key i (by simpa using hi)
 refine ⟨l',by rw [e1,Array.length_toList,hsz],?_,e3⟩
 rw [← e2,Array.toArray_toList]
theorem forceTypes : Tryz.prog.cellTypes Tryz.prog.depth 25 = some (List.replicate 6 22):=by kernel_rfl
theorem forceCells : Tryz.prog.cellsOf 25 = 6:=by kernel_rfl
set_option maxRecDepth 100000 in
theorem force {W : World} {base : Nat} {v : Value} (h : Value.okWide Tryz.prog W .any base 25 v) : ∃ n0 n1 n2 n3 n4 n5 : Int,v = .agg #[.int .i8 n0,.int .i8 n1,.int .i8 n2,.int .i8 n3,.int .i8 n4,.int .i8 n5]∧In8 n0∧In8 n1∧In8 n2∧In8 n3∧In8 n4∧In8 n5:=by
 simp only [Value.okWide,Tryz.underlying25] at h
 obtain ⟨cs,rfl,hsz,ts,hts,_,hc⟩:=h
 rw [forceTypes] at hts
 injection hts with hts
 rw [forceCells] at hsz
 obtain ⟨l,hl,rfl,hx⟩:=cells hsz hts.symm hc
 rcases l with _ | ⟨x0,_ | ⟨x1,_ | ⟨x2,_ | ⟨x3,_ | ⟨x4,_ | ⟨x5,_ | ⟨x6,l⟩⟩⟩⟩⟩⟩⟩ <;> first
  | (simp only [List.length_cons,List.length_nil] at hl; omega)
  | exact ⟨x0,x1,x2,x3,x4,x5,rfl,hx _ (by simp),hx _ (by simp),hx _ (by simp),hx _ (by simp),hx _ (by simp),hx _ (by simp)⟩
end Go.Proofs.YtlginncipdaifaaGreat.Row

namespace Go.Proofs.YtlginncipdaifaaGreat.mbests
open Go.ChangeShapes Go.WideShapes Go.ChangeAt Go.RowKit
open Sy (Up Sees CallsG Seg)
open Go.Proofs.YtlginncipdaifaaGreat.Row
set_option maxRecDepth 100000 in
theorem lifted (os : Os) (started : os.Started) (H : Type) (enc : TypeId × Value→H) :
 ReturnsInHanded {} Tryz.checked os 3 .any (Rows.mountBestSpec.pre6 enc Tryz.prog Tryz.f3 Rows.mountBestRow.domain false) (Rows.mountBestSpec.post enc Tryz.prog Tryz.f3 false true false false):=by
 refine returnsInHanded_of_change (C:=Tryz.checked) own started (by kernel_rfl) Tryz.func3
  (ChangeSpec.witness6 (enc:=enc) (C:=Tryz.checked) false ⟨#[],#[.agg #[.int .i8 0,.int .i8 0,.int .i8 0,.int .i8 0,.int .i8 0,.int .i8 0],.agg #[.int .i8 0,.int .i8 0,.int .i8 0,.int .i8 0,.int .i8 0,.int .i8 0],.int .i64 0],[]⟩ 8 (by kernel_rfl) (by kernel_rfl) (by kernel_rfl) (by kernel_rfl)) ?_
 intro W base args ds gs before hval0 hW hcnd _
 have hval : ∀ (j : Nat) t v,Tryz.f3.params[j]? = some t→args[j]? = some v→Value.okWide Tryz.prog W .any base t v:=hval0
 have hW':=hW
 obtain ⟨p,q,hA0,hV,rfl,hfz,hnd⟩:=hW
 have hA : DataW.TrodAll enc Tryz.prog W 0 (fun _=>true) true Tryz.f3.params.toList args.toList ds p:=hA0
 rw [Tryz.params3] at hA hval
 obtain ⟨v0,vs0,d0,ds0,p0,q0,hargs,rfl,rfl,h0,r0⟩:=trodAll_cons hA
 obtain ⟨v1,vs1,d1,ds1,p1,q1,rfl,rfl,rfl,h1,r1⟩:=trodAll_cons r0
 obtain ⟨v2,vs2,d2,ds2,p2,q2,rfl,rfl,rfl,h2,r2⟩:=trodAll_cons r1
 obtain ⟨rfl,rfl,rfl⟩:=trodAll_nil r2
 obtain rfl : args = #[v0,v1,v2]:=by cases args; simp_all
 obtain ⟨rfl,rfl⟩:=trodVars_none hV
 obtain ⟨a0_0,a0_1,a0_2,a0_3,a0_4,a0_5,rfl,ia0_0,ia0_1,ia0_2,ia0_3,ia0_4,ia0_5⟩:=force (hval 0 25 v0 rfl rfl)
 obtain ⟨a1_0,a1_1,a1_2,a1_3,a1_4,a1_5,rfl,ia1_0,ia1_1,ia1_2,ia1_3,ia1_4,ia1_5⟩:=force (hval 1 25 v1 rfl rfl)
 obtain ⟨a2,rfl⟩:=okWide_int Tryz.underlying3 (hval 2 3 v2 rfl rfl)
 clear hA0 hval0
 have hlt : ∀ x ∈ p0 ++ (p1 ++ (p2 ++ [])),x.block < W.heap.size:=fun x hx=>by simpa using hW'.lt x (by simpa using hx)
 have hcall:=mbest_s (k:=W) (R:=fun _ v=>v = .bool true) ia0_0 ia0_1 ia0_2 ia0_3 ia0_4 ia0_5 ia1_0 ia1_1 ia1_2 ia1_3 ia1_4 ia1_5 a2 (fun _ _=>rfl) W (Up.refl W) W (Sees.refl W)
 refine hcall.mono fun e W' he=>?_
 obtain ⟨v,k',rfl,_,_,hB,rfl⟩:=he
 refine ⟨_,rfl,_,_,_,[],p0 ++ (p1 ++ (p2 ++ [])),[],hW',?_,?_,?_,hB.frame _,fun h=>by cases h⟩
 ·exact trodAll_mk1 (shut_bool Tryz.underlying4 _)
 ·exact trodAll_cons_mk (Below.trod laid (by kernel_rfl) (of_decide_eq_true (by kernel_rfl)) h0 hB (fun x hx=>hlt x (by simp [hx]))) (trodAll_cons_mk (Below.trod laid (by kernel_rfl) (of_decide_eq_true (by kernel_rfl)) h1 hB (fun x hx=>hlt x (by simp [hx]))) (trodAll_cons_mk (Below.trod laid (by kernel_rfl) (of_decide_eq_true (by kernel_rfl)) h2 hB (fun x hx=>hlt x (by simp [hx]))) trodAll_mk0))
 ·exact rfl
theorem over : Rows.mountBestRow.holds Tryz.pinned (OpenSpec.ofChange Rows.mountBestSpec) :=
 OpenClaim.holds_of_wide 3 Tryz.f3 rfl rfl rfl rfl rfl rfl rfl ⟨rfl,rfl,rfl,rfl,rfl⟩ rfl rfl rfl rfl rfl (by kernel_rfl) Tryz.func3 (by kernel_rfl)
  (of_decide_eq_true (by kernel_rfl)) (by unfold Func.isWrapper; first | (rw [if_pos (by decide +kernel)]; kernel_rfl) | (rw [if_neg (by decide +kernel)]; exact ⟨rfl,rfl⟩))
  (fun os started H enc _=>lifted os started H enc)
theorem proved : Rows.MountBestSaid:=over
#print axioms proved
end Go.Proofs.YtlginncipdaifaaGreat.mbests

