/- Several texts in one. (Printed by prep.py.) -/
import Derived.Test.YtmilhgkacmofmaaGreatRows
import Derived.WalkKit
import Derived.ProofKit
import Derived.OpenShut
import Derived.Carry
import Derived.Test.YtmilhgkacmofmaaGreatCeQ5
import Derived.Test.YtmilhgkacmofmaaGreatCeCE
namespace Go.Proofs.YtmilhgkacmofmaaGreat.Row
open Go.ChangeShapes Go.WideShapes Go.ChangeAt Go.RowKit
theorem own : ownKnob Tryz.prog.godebug = none:=by kernel_rfl
theorem laid : laidOutB Tryz.prog = true:=by kernel_rfl
set_option maxRecDepth 100000 in
theorem cell64 {W : World} {base : Nat} {v : Value} (h : Cell.okWide Tryz.prog W .any base 2 v) : ∃ n,v = .int .i64 n∧In64 n:=by
 have hv : Value.okWide Tryz.prog W .any base 2 v:=by
  simp only [Value.okWide,Tryz.underlying2]
  exact h
 obtain ⟨n,rfl⟩:=okWide_int Tryz.underlying2 hv
 refine ⟨n,rfl,?_⟩
 simp only [Cell.okWide,Tryz.underlying2,Cell.ok] at h
 obtain ⟨_,h1,h2⟩:=h
 have e1 : IntKind.i64.min = -9223372036854775808:=rfl
 have e2 : IntKind.i64.max = 9223372036854775807:=rfl
 rw [e1] at h1
 rw [e2] at h2
 exact ⟨h1,by omega⟩
set_option maxRecDepth 100000 in
theorem cells {W : World} {base m : Nat} {cs : Array Value} {ts : List TypeId} (hsz : cs.size = m) (hts : ts = List.replicate m 2)
 (hc : ∀ (i : Nat) (v : Value),cs[i]? = some v→∃ u,ts[i % ts.length]? = some u∧Cell.okWide Tryz.prog W .any base u v) :
 ∃ l : List Int,l.length = m∧cs = (l.map (Value.int .i64)).toArray∧∀ x ∈ l,In64 x:=by
 have key : ∀ i,(hi : i < cs.size)→∃ n,cs[i] = .int .i64 n∧In64 n:=fun i hi=>by
  obtain ⟨u,hu,hk⟩:=hc i cs[i] (Array.getElem?_eq_getElem hi)
  rw [hts] at hu
  have hm:=List.mem_of_getElem? hu
  rw [List.mem_replicate] at hm
  obtain ⟨_,rfl⟩:=hm
  exact cell64 hk
 have gen : ∀ l : List Value,(∀ v ∈ l,∃ n,v = Value.int .i64 n∧In64 n)→∃ l' : List Int,l'.length = l.length∧l = l'.map (Value.int .i64)∧∀ x ∈ l',In64 x:=by
  intro l
  induction l with
  | nil=>intro _; exact ⟨[],rfl,rfl,fun x hx=>by cases hx⟩
  | cons v l ih =>
   intro h
   obtain ⟨n,rfl,hn⟩:=h v (by simp)
   obtain ⟨l',e1,e2,e3⟩:=ih fun v hv=>h v (by simp [hv])
   exact ⟨n :: l',by simp [e1],by rw [List.map_cons,← e2],fun x hx=>by
    rw [List.mem_cons] at hx
    rcases hx with rfl | hx
    ·exact hn
    ·exact e3 x hx⟩
 obtain ⟨l',e1,e2,e3⟩:=gen cs.toList fun v hv=>by
  obtain ⟨i,hi,rfl⟩:=List.getElem_of_mem hv
  rw [Array.getElem_toList]
  exact key i (by simpa using hi)
 refine ⟨l',by rw [e1,Array.length_toList,hsz],?_,e3⟩
 rw [← e2,Array.toArray_toList]
theorem ratioTypes : Tryz.prog.cellTypes Tryz.prog.depth 23 = some (List.replicate 2 2):=by kernel_rfl
theorem ratioCells : Tryz.prog.cellsOf 23 = 2:=by kernel_rfl
set_option maxRecDepth 100000 in
theorem ratio {W : World} {base : Nat} {v : Value} (h : Value.okWide Tryz.prog W .any base 23 v) : ∃ n0 n1 : Int,v = .agg #[.int .i64 n0,.int .i64 n1]∧In64 n0∧In64 n1:=by
 simp only [Value.okWide,Tryz.underlying23] at h
 obtain ⟨cs,rfl,hsz,ts,hts,_,hc⟩:=h
 rw [ratioTypes] at hts
 injection hts with hts
 rw [ratioCells] at hsz
 obtain ⟨l,hl,rfl,hx⟩:=cells hsz hts.symm hc
 rcases l with _ | ⟨x0,_ | ⟨x1,_ | ⟨x2,l⟩⟩⟩ <;> first
  | (simp only [List.length_cons,List.length_nil] at hl; omega)
  | exact ⟨x0,x1,rfl,hx _ (by simp),hx _ (by simp)⟩
end Go.Proofs.YtmilhgkacmofmaaGreat.Row

namespace Go.Proofs.YtmilhgkacmofmaaGreat.Row
open Go.ChangeShapes Go.WideShapes Go.ChangeAt Go.RowKit
theorem quads_of {n : Nat} (l : List Int) (hl : l.length = n*8) (hx : ∀ x ∈ l,In64 x) : ∃ f,ArrV n 8 IsQuad (l.map (Value.int .i64)).toArray f:=by
 have hin : ∀ j,In64 (l.getD j 0):=fun j=>by
  rw [List.getD_eq_getElem?_getD]
  by_cases h : j < l.length
  ·rw [List.getElem?_eq_getElem h]; exact hx _ (List.getElem_mem h)
  ·rw [List.getElem?_eq_none (by omega)]; exact ⟨by decide,by decide⟩
 refine ⟨fun i=>⟨ofQ (l.getD (i*8+0) 0) (l.getD (i*8+1) 0),ofQ (l.getD (i*8+2) 0) (l.getD (i*8+3) 0),ofQ (l.getD (i*8+4) 0) (l.getD (i*8+5) 0),ofQ (l.getD (i*8+6) 0) (l.getD (i*8+7) 0)⟩,by simpa using hl,fun i hi=>⟨_,_,_,_,_,_,_,_,⟨hin _,hin _,hin _,hin _,hin _,hin _,hin _,hin _⟩,?_,rfl⟩⟩
 have hb : (i+1)*8≤l.length:=by rw [hl]; exact Nat.mul_le_mul_right 8 hi
 refine elt_ext rfl fun q hq=>?_
 rw [elt_get _ _ _ _ hq (by simpa using hb)]
 have e : ((l.map (Value.int .i64)).toArray)[i*8+q]? = some (Value.int .i64 (l.getD (i*8+q) 0)):=by
  have hlt : i*8+q < l.length:=by omega
  simp [List.getD_eq_getElem?_getD,hlt]
 rw [e]
 match q,hq with
 | 0,_=>rfl
 | 1,_=>rfl
 | 2,_=>rfl
 | 3,_=>rfl
 | 4,_=>rfl
 | 5,_=>rfl
 | 6,_=>rfl
 | 7,_=>rfl
theorem roundTypes : Tryz.prog.cellTypes Tryz.prog.depth 27 = some (List.replicate 192 2):=by kernel_rfl
theorem roundCells : Tryz.prog.cellsOf 27 = 192:=by kernel_rfl
set_option maxRecDepth 100000 in
theorem round {W : World} {base : Nat} {v : Value} (h : Value.okWide Tryz.prog W .any base 27 v) : ∃ cs f,v = .agg cs∧ArrV 24 8 IsQuad cs f:=by
 simp only [Value.okWide,Tryz.underlying27] at h
 obtain ⟨cs,rfl,hsz,ts,hts,_,hc⟩:=h
 rw [roundTypes] at hts
 injection hts with hts
 rw [roundCells] at hsz
 obtain ⟨l,hl,rfl,hx⟩:=cells hsz hts.symm hc
 obtain ⟨f,hf⟩:=quads_of (n:=24) l hl hx
 exact ⟨_,f,rfl,hf⟩
end Go.Proofs.YtmilhgkacmofmaaGreat.Row

namespace Go.Proofs.YtmilhgkacmofmaaGreat.Row
open Go.ChangeShapes Go.WideShapes Go.ChangeAt Go.RowKit
theorem waveTypes : Tryz.prog.cellTypes Tryz.prog.depth 28 = some (List.replicate 16 2):=by kernel_rfl
theorem waveCells : Tryz.prog.cellsOf 28 = 16:=by kernel_rfl
set_option maxRecDepth 100000 in
theorem wave {W : World} {base : Nat} {v : Value} (h : Value.okWide Tryz.prog W .any base 28 v) : ∃ n0 n1 n2 n3 n4 n5 n6 n7 n8 n9 n10 n11 n12 n13 n14 n15 : Int,v = .agg #[.int .i64 n0,.int .i64 n1,.int .i64 n2,.int .i64 n3,.int .i64 n4,.int .i64 n5,.int .i64 n6,.int .i64 n7,.int .i64 n8,.int .i64 n9,.int .i64 n10,.int .i64 n11,.int .i64 n12,.int .i64 n13,.int .i64 n14,.int .i64 n15] ∧
 In64 n0∧In64 n1∧In64 n2∧In64 n3∧In64 n4∧In64 n5∧In64 n6∧In64 n7∧In64 n8∧In64 n9∧In64 n10∧In64 n11∧In64 n12∧In64 n13∧In64 n14∧In64 n15:=by
 simp only [Value.okWide,Tryz.underlying28] at h
 obtain ⟨cs,rfl,hsz,ts,hts,_,hc⟩:=h
 rw [waveTypes] at hts
 injection hts with hts
 rw [waveCells] at hsz
 obtain ⟨l,hl,rfl,hx⟩:=cells hsz hts.symm hc
 rcases l with _ | ⟨x0,_ | ⟨x1,_ | ⟨x2,_ | ⟨x3,_ | ⟨x4,_ | ⟨x5,_ | ⟨x6,_ | ⟨x7,_ | ⟨x8,_ | ⟨x9,_ | ⟨x10,_ | ⟨x11,_ | ⟨x12,_ | ⟨x13,_ | ⟨x14,_ | ⟨x15,_ | ⟨x16,l⟩⟩⟩⟩⟩⟩⟩⟩⟩⟩⟩⟩⟩⟩⟩⟩⟩ <;> first
  | (simp only [List.length_cons,List.length_nil] at hl; omega)
  | exact ⟨x0,x1,x2,x3,x4,x5,x6,x7,x8,x9,x10,x11,x12,x13,x14,x15,rfl,hx _ (by simp),hx _ (by simp),hx _ (by simp),hx _ (by simp),hx _ (by simp),hx _ (by simp),hx _ (by simp),hx _ (by simp),hx _ (by simp),hx _ (by simp),hx _ (by simp),hx _ (by simp),hx _ (by simp),hx _ (by simp),hx _ (by simp),hx _ (by simp)⟩
end Go.Proofs.YtmilhgkacmofmaaGreat.Row

namespace Go.Proofs.YtmilhgkacmofmaaGreat.ocert
open Go.ChangeShapes Go.WideShapes Go.ChangeAt Go.RowKit
open Sy (Up Sees CallsG Seg)
open Go.Proofs.YtmilhgkacmofmaaGreat.Row
set_option maxRecDepth 100000 in
theorem lifted (os : Os) (started : os.Started) (H : Type) (enc : TypeId × Value→H) :
 ReturnsInHanded {} Tryz.checked os 3 .any (Rows.ordersCertifiedSpec.pre6 enc Tryz.prog Tryz.f3 Rows.ordersCertifiedRow.domain false) (Rows.ordersCertifiedSpec.post enc Tryz.prog Tryz.f3 false true false false):=by
 refine returnsInHanded_of_change (C:=Tryz.checked) own started (by kernel_rfl) Tryz.func3
  (ChangeSpec.witness6 (enc:=enc) (C:=Tryz.checked) false ⟨#[],#[.agg (List.replicate 192 (.int .i64 0)).toArray,.agg #[.int .i64 0,.int .i64 0,.int .i64 0,.int .i64 0,.int .i64 0,.int .i64 0,.int .i64 0,.int .i64 0,.int .i64 0,.int .i64 0,.int .i64 0,.int .i64 0,.int .i64 0,.int .i64 0,.int .i64 0,.int .i64 0],.int .i64 0,.agg #[.int .i64 0,.int .i64 0],.agg #[.int .i64 0,.int .i64 0,.int .i64 0,.int .i64 0,.int .i64 0,.int .i64 0,.int .i64 0,.int .i64 0,.int .i64 0,.int .i64 0,.int .i64 0,.int .i64 0,.int .i64 0,.int .i64 0,.int .i64 0,.int .i64 0],.bool false],[]⟩ 8 (by kernel_rfl) (by kernel_rfl) (by kernel_rfl) (by kernel_rfl)) ?_
 intro W base args ds gs before hval0 hW hcnd _
 have hval : ∀ (j : Nat) t v,Tryz.f3.params[j]? = some t→args[j]? = some v→Value.okWide Tryz.prog W .any base t v:=hval0
 have hW':=hW
 obtain ⟨p,q,hA0,hV,rfl,hfz,hnd⟩:=hW
 have hA : DataW.TrodAll enc Tryz.prog W 0 (fun _=>true) true Tryz.f3.params.toList args.toList ds p:=hA0
 rw [Tryz.params3] at hA hval
 obtain ⟨v0,vs0,d0,ds0,p0,q0,hargs,rfl,rfl,h0,r0⟩:=trodAll_cons hA
 obtain ⟨v1,vs1,d1,ds1,p1,q1,rfl,rfl,rfl,h1,r1⟩:=trodAll_cons r0
 obtain ⟨v2,vs2,d2,ds2,p2,q2,rfl,rfl,rfl,h2,r2⟩:=trodAll_cons r1
 obtain ⟨v3,vs3,d3,ds3,p3,q3,rfl,rfl,rfl,h3,r3⟩:=trodAll_cons r2
 obtain ⟨v4,vs4,d4,ds4,p4,q4,rfl,rfl,rfl,h4,r4⟩:=trodAll_cons r3
 obtain ⟨v5,vs5,d5,ds5,p5,q5,rfl,rfl,rfl,h5,r5⟩:=trodAll_cons r4
 obtain ⟨rfl,rfl,rfl⟩:=trodAll_nil r5
 obtain rfl : args = #[v0,v1,v2,v3,v4,v5]:=by cases args; simp_all
 obtain ⟨rfl,rfl⟩:=trodVars_none hV
 obtain ⟨a0,f0,rfl,ia0⟩:=round (hval 0 27 v0 rfl rfl)
 obtain ⟨a1_0,a1_1,a1_2,a1_3,a1_4,a1_5,a1_6,a1_7,a1_8,a1_9,a1_10,a1_11,a1_12,a1_13,a1_14,a1_15,rfl,ia1_0,ia1_1,ia1_2,ia1_3,ia1_4,ia1_5,ia1_6,ia1_7,ia1_8,ia1_9,ia1_10,ia1_11,ia1_12,ia1_13,ia1_14,ia1_15⟩:=wave (hval 1 28 v1 rfl rfl)
 obtain ⟨a2,rfl⟩:=okWide_int Tryz.underlying3 (hval 2 3 v2 rfl rfl)
 obtain ⟨a3_0,a3_1,rfl,ia3_0,ia3_1⟩:=ratio (hval 3 23 v3 rfl rfl)
 obtain ⟨a4_0,a4_1,a4_2,a4_3,a4_4,a4_5,a4_6,a4_7,a4_8,a4_9,a4_10,a4_11,a4_12,a4_13,a4_14,a4_15,rfl,ia4_0,ia4_1,ia4_2,ia4_3,ia4_4,ia4_5,ia4_6,ia4_7,ia4_8,ia4_9,ia4_10,ia4_11,ia4_12,ia4_13,ia4_14,ia4_15⟩:=wave (hval 4 28 v4 rfl rfl)
 obtain ⟨a5,rfl⟩:=okWide_bool Tryz.underlying4 (hval 5 4 v5 rfl rfl)
 clear hA0 hval0
 have hlt : ∀ x ∈ p0 ++ (p1 ++ (p2 ++ (p3 ++ (p4 ++ (p5 ++ []))))),x.block < W.heap.size:=fun x hx=>by simpa using hW'.lt x (by simpa using hx)
 have hcall:=ocertified_s (k:=W) (R:=fun _ v=>v = .bool true) ia0 ia1_0 ia1_1 ia1_2 ia1_3 ia1_4 ia1_5 ia1_6 ia1_7 ia1_8 ia1_9 ia1_10 ia1_11 ia1_12 ia1_13 ia1_14 ia1_15 a2 ia3_0 ia3_1 ia4_0 ia4_1 ia4_2 ia4_3 ia4_4 ia4_5 ia4_6 ia4_7 ia4_8 ia4_9 ia4_10 ia4_11 ia4_12 ia4_13 ia4_14 ia4_15 a5 (fun _ _=>rfl) W (Up.refl W) W (Sees.refl W)
 refine hcall.mono fun e W' he=>?_
 obtain ⟨v,k',rfl,_,_,hB,rfl⟩:=he
 refine ⟨_,rfl,_,_,_,[],p0 ++ (p1 ++ (p2 ++ (p3 ++ (p4 ++ (p5 ++ []))))),[],hW',?_,?_,?_,hB.frame _,fun h=>by cases h⟩
 ·exact trodAll_mk1 (shut_bool Tryz.underlying4 _)
 ·exact trodAll_cons_mk (Below.trod laid (by kernel_rfl) (of_decide_eq_true (by kernel_rfl)) h0 hB (fun x hx=>hlt x (by simp [hx]))) (trodAll_cons_mk (Below.trod laid (by kernel_rfl) (of_decide_eq_true (by kernel_rfl)) h1 hB (fun x hx=>hlt x (by simp [hx]))) (trodAll_cons_mk (Below.trod laid (by kernel_rfl) (of_decide_eq_true (by kernel_rfl)) h2 hB (fun x hx=>hlt x (by simp [hx]))) (trodAll_cons_mk (Below.trod laid (by kernel_rfl) (of_decide_eq_true (by kernel_rfl)) h3 hB (fun x hx=>hlt x (by simp [hx]))) (trodAll_cons_mk (Below.trod laid (by kernel_rfl) (of_decide_eq_true (by kernel_rfl)) h4 hB (fun x hx=>hlt x (by simp [hx]))) (trodAll_cons_mk (Below.trod laid (by kernel_rfl) (of_decide_eq_true (by kernel_rfl)) h5 hB (fun x hx=>hlt x (by simp [hx]))) trodAll_mk0)))))
 ·exact rfl
theorem over : Rows.ordersCertifiedRow.holds Tryz.pinned (OpenSpec.ofChange Rows.ordersCertifiedSpec) :=
 OpenClaim.holds_of_wide 3 Tryz.f3 rfl rfl rfl rfl rfl rfl rfl ⟨rfl,rfl,rfl,rfl,rfl⟩ rfl rfl rfl rfl rfl (by kernel_rfl) Tryz.func3 (by kernel_rfl)
  (of_decide_eq_true (by kernel_rfl)) (by unfold Func.isWrapper; first | (rw [if_pos (by decide +kernel)]; kernel_rfl) | (rw [if_neg (by decide +kernel)]; exact ⟨rfl,rfl⟩))
  (fun os started H enc _=>lifted os started H enc)
theorem proved : Rows.OrdersCertifiedSaid:=over
#print axioms proved
end Go.Proofs.YtmilhgkacmofmaaGreat.ocert

