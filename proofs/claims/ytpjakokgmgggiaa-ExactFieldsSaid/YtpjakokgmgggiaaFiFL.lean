/- Several texts in one. (Printed by prep.py.) -/
import Derived.Test.YtpjakokgmgggiaaRows
import Derived.WalkKit
import Derived.ProofKit
import Derived.OpenShut
import Derived.Carry
import Derived.Test.YtpjakokgmgggiaaFiFR
/- Arguments of the statements: integers, and aggregates of integers. -/
namespace Go.Proofs.Ytpjakokgmgggiaa.Row
open Go.ChangeShapes Go.WideShapes Go.ChangeAt Go.RowKit
theorem own : ownKnob Try.prog.godebug = none := by kernel_rfl
theorem laid : laidOutB Try.prog = true := by kernel_rfl
set_option maxRecDepth 100000 in
theorem cell64 {W : World} {base : Nat} {v : Value} (h : Cell.okWide Try.prog W .any base 2 v) : ∃ n, v = .int .i64 n ∧ In64 n := by
 have hv : Value.okWide Try.prog W .any base 2 v := by
   simp only [Value.okWide, Try.underlying2]
   exact h
 obtain ⟨n, rfl⟩ := okWide_int Try.underlying2 hv
 refine ⟨n, rfl, ?_⟩
 simp only [Cell.okWide, Try.underlying2, Cell.ok] at h
 obtain ⟨_, h1, h2⟩ := h
 have e1 : IntKind.i64.min = -9223372036854775808 := rfl
 have e2 : IntKind.i64.max = 9223372036854775807 := rfl
 rw [e1] at h1
 rw [e2] at h2
 exact ⟨h1, by omega⟩
set_option maxRecDepth 100000 in
theorem cells {W : World} {base m : Nat} {cs : Array Value} {ts : List TypeId} (hsz : cs.size = m) (hts : ts = List.replicate m 2)
   (hc : ∀ (i : Nat) (v : Value), cs[i]? = some v → ∃ u, ts[i % ts.length]? = some u ∧ Cell.okWide Try.prog W .any base u v) :
   ∃ l : List Int, l.length = m ∧ cs = (l.map (Value.int .i64)).toArray ∧ ∀ x ∈ l, In64 x := by
 have key : ∀ i, (hi : i < cs.size) → ∃ n, cs[i] = .int .i64 n ∧ In64 n := fun i hi => by
   obtain ⟨u, hu, hk⟩ := hc i cs[i] (Array.getElem?_eq_getElem hi)
   rw [hts] at hu
   have hm := List.mem_of_getElem? hu
   rw [List.mem_replicate] at hm
   obtain ⟨_, rfl⟩ := hm
   exact cell64 hk
 have gen : ∀ l : List Value, (∀ v ∈ l, ∃ n, v = Value.int .i64 n ∧ In64 n) → ∃ l' : List Int, l'.length = l.length ∧ l = l'.map (Value.int .i64) ∧ ∀ x ∈ l', In64 x := by
   intro l
   induction l with
   | nil => intro _; exact ⟨[], rfl, rfl, fun x hx => by cases hx⟩
   | cons v l ih =>
     intro h
     obtain ⟨n, rfl, hn⟩ := h v (by simp)
     obtain ⟨l', e1, e2, e3⟩ := ih fun v hv => h v (by simp [hv])
     exact ⟨n :: l', by simp [e1], by rw [List.map_cons, ← e2], fun x hx => by
       rw [List.mem_cons] at hx
       rcases hx with rfl | hx
       · exact hn
       · exact e3 x hx⟩
 obtain ⟨l', e1, e2, e3⟩ := gen cs.toList fun v hv => by
   obtain ⟨i, hi, rfl⟩ := List.getElem_of_mem hv
   rw [Array.getElem_toList]
   exact key i (by simpa using hi)
 refine ⟨l', by rw [e1, Array.length_toList, hsz], ?_, e3⟩
 rw [← e2, Array.toArray_toList]
end Go.Proofs.Ytpjakokgmgggiaa.Row

/- Arguments of the statements: two Quads. -/
namespace Go.Proofs.Ytpjakokgmgggiaa.Row
open Go.ChangeShapes Go.WideShapes Go.ChangeAt Go.RowKit
theorem waveTypes : Try.prog.cellTypes Try.prog.depth 63 = some (List.replicate 16 2) := by kernel_rfl
theorem waveCells : Try.prog.cellsOf 63 = 16 := by kernel_rfl
set_option maxRecDepth 100000 in
theorem wave {W : World} {base : Nat} {v : Value} (h : Value.okWide Try.prog W .any base 63 v) : ∃ n0 n1 n2 n3 n4 n5 n6 n7 n8 n9 n10 n11 n12 n13 n14 n15 : Int, v = .agg #[.int .i64 n0, .int .i64 n1, .int .i64 n2, .int .i64 n3, .int .i64 n4, .int .i64 n5, .int .i64 n6, .int .i64 n7, .int .i64 n8, .int .i64 n9, .int .i64 n10, .int .i64 n11, .int .i64 n12, .int .i64 n13, .int .i64 n14, .int .i64 n15] ∧
   In64 n0 ∧ In64 n1 ∧ In64 n2 ∧ In64 n3 ∧ In64 n4 ∧ In64 n5 ∧ In64 n6 ∧ In64 n7 ∧ In64 n8 ∧ In64 n9 ∧ In64 n10 ∧ In64 n11 ∧ In64 n12 ∧ In64 n13 ∧ In64 n14 ∧ In64 n15 := by
 simp only [Value.okWide, Try.underlying63] at h
 obtain ⟨cs, rfl, hsz, ts, hts, _, hc⟩ := h
 rw [waveTypes] at hts
 injection hts with hts
 rw [waveCells] at hsz
 obtain ⟨l, hl, rfl, hx⟩ := cells hsz hts.symm hc
 rcases l with _ | ⟨x0, _ | ⟨x1, _ | ⟨x2, _ | ⟨x3, _ | ⟨x4, _ | ⟨x5, _ | ⟨x6, _ | ⟨x7, _ | ⟨x8, _ | ⟨x9, _ | ⟨x10, _ | ⟨x11, _ | ⟨x12, _ | ⟨x13, _ | ⟨x14, _ | ⟨x15, _ | ⟨x16, l⟩⟩⟩⟩⟩⟩⟩⟩⟩⟩⟩⟩⟩⟩⟩⟩⟩ <;> first
   | (simp only [List.length_cons, List.length_nil] at hl; omega)
   | exact ⟨x0, x1, x2, x3, x4, x5, x6, x7, x8, x9, x10, x11, x12, x13, x14, x15, rfl, hx _ (by simp), hx _ (by simp), hx _ (by simp), hx _ (by simp), hx _ (by simp), hx _ (by simp), hx _ (by simp), hx _ (by simp), hx _ (by simp), hx _ (by simp), hx _ (by simp), hx _ (by simp), hx _ (by simp), hx _ (by simp), hx _ (by simp), hx _ (by simp)⟩
end Go.Proofs.Ytpjakokgmgggiaa.Row

/- The statement ExactFields. (Printed by gen/row.py.) -/
namespace Go.Proofs.Ytpjakokgmgggiaa.fields
open Go.ChangeShapes Go.WideShapes Go.ChangeAt Go.RowKit
open Sy (Up Sees CallsG Seg)
open Go.Proofs.Ytpjakokgmgggiaa.Row
set_option maxRecDepth 100000 in
theorem lifted (os : Os) (started : os.Started) (H : Type) (enc : TypeId × Value → H) :
   ReturnsInHanded {} Try.checked os 6 .any (Rows.exactFieldsSpec.pre6 enc Try.prog Try.f6 Rows.exactFieldsRow.domain false) (Rows.exactFieldsSpec.post enc Try.prog Try.f6 false true false false) := by
 refine returnsInHanded_of_change (C := Try.checked) own started (by kernel_rfl) Try.func6
   (ChangeSpec.witness6 (enc := enc) (C := Try.checked) false ⟨#[], #[.agg #[.int .i64 0, .int .i64 0, .int .i64 0, .int .i64 0, .int .i64 0, .int .i64 0, .int .i64 0, .int .i64 0, .int .i64 0, .int .i64 0, .int .i64 0, .int .i64 0, .int .i64 0, .int .i64 0, .int .i64 0, .int .i64 0], .agg #[.int .i64 0, .int .i64 0, .int .i64 0, .int .i64 0, .int .i64 0, .int .i64 0, .int .i64 0, .int .i64 0, .int .i64 0, .int .i64 0, .int .i64 0, .int .i64 0, .int .i64 0, .int .i64 0, .int .i64 0, .int .i64 0], .agg #[.int .i64 0, .int .i64 0, .int .i64 0, .int .i64 0, .int .i64 0, .int .i64 0, .int .i64 0, .int .i64 0, .int .i64 0, .int .i64 0, .int .i64 0, .int .i64 0, .int .i64 0, .int .i64 0, .int .i64 0, .int .i64 0]], []⟩ 8 (by kernel_rfl) (by kernel_rfl) (by kernel_rfl) (by kernel_rfl)) ?_
 intro W base args ds gs before hval0 hW hcnd _
 have hval : ∀ (j : Nat) t v, Try.f6.params[j]? = some t → args[j]? = some v → Value.okWide Try.prog W .any base t v := hval0
 have hW' := hW
 obtain ⟨p, q, hA0, hV, rfl, hfz, hnd⟩ := hW
 have hA : DataW.TrodAll enc Try.prog W 0 (fun _ => true) true Try.f6.params.toList args.toList ds p := hA0
 rw [Try.params6] at hA hval
 obtain ⟨v0, vs0, d0, ds0, p0, q0, hargs, rfl, rfl, h0, r0⟩ := trodAll_cons hA
 obtain ⟨v1, vs1, d1, ds1, p1, q1, rfl, rfl, rfl, h1, r1⟩ := trodAll_cons r0
 obtain ⟨v2, vs2, d2, ds2, p2, q2, rfl, rfl, rfl, h2, r2⟩ := trodAll_cons r1
 obtain ⟨rfl, rfl, rfl⟩ := trodAll_nil r2
 obtain rfl : args = #[v0, v1, v2] := by cases args; simp_all
 obtain ⟨rfl, rfl⟩ := trodVars_none hV
 obtain ⟨a0_0, a0_1, a0_2, a0_3, a0_4, a0_5, a0_6, a0_7, a0_8, a0_9, a0_10, a0_11, a0_12, a0_13, a0_14, a0_15, rfl, ia0_0, ia0_1, ia0_2, ia0_3, ia0_4, ia0_5, ia0_6, ia0_7, ia0_8, ia0_9, ia0_10, ia0_11, ia0_12, ia0_13, ia0_14, ia0_15⟩ := wave (hval 0 63 v0 rfl rfl)
 obtain ⟨a1_0, a1_1, a1_2, a1_3, a1_4, a1_5, a1_6, a1_7, a1_8, a1_9, a1_10, a1_11, a1_12, a1_13, a1_14, a1_15, rfl, ia1_0, ia1_1, ia1_2, ia1_3, ia1_4, ia1_5, ia1_6, ia1_7, ia1_8, ia1_9, ia1_10, ia1_11, ia1_12, ia1_13, ia1_14, ia1_15⟩ := wave (hval 1 63 v1 rfl rfl)
 obtain ⟨a2_0, a2_1, a2_2, a2_3, a2_4, a2_5, a2_6, a2_7, a2_8, a2_9, a2_10, a2_11, a2_12, a2_13, a2_14, a2_15, rfl, ia2_0, ia2_1, ia2_2, ia2_3, ia2_4, ia2_5, ia2_6, ia2_7, ia2_8, ia2_9, ia2_10, ia2_11, ia2_12, ia2_13, ia2_14, ia2_15⟩ := wave (hval 2 63 v2 rfl rfl)
 clear hA0 hval0
 have hlt : ∀ x ∈ p0 ++ (p1 ++ (p2 ++ [])), x.block < W.heap.size := fun x hx => by simpa using hW'.lt x (by simpa using hx)
 have hcall := fieldlaw_s (k := W) (R := fun _ v => v = .bool true) ia0_0 ia0_1 ia0_2 ia0_3 ia0_4 ia0_5 ia0_6 ia0_7 ia0_8 ia0_9 ia0_10 ia0_11 ia0_12 ia0_13 ia0_14 ia0_15 ia1_0 ia1_1 ia1_2 ia1_3 ia1_4 ia1_5 ia1_6 ia1_7 ia1_8 ia1_9 ia1_10 ia1_11 ia1_12 ia1_13 ia1_14 ia1_15 ia2_0 ia2_1 ia2_2 ia2_3 ia2_4 ia2_5 ia2_6 ia2_7 ia2_8 ia2_9 ia2_10 ia2_11 ia2_12 ia2_13 ia2_14 ia2_15 (fun _ _ => rfl) W (Up.refl W) W (Sees.refl W)
 refine hcall.mono fun e W' he => ?_
 obtain ⟨v, k', rfl, _, _, hB, rfl⟩ := he
 refine ⟨_, rfl, _, _, _, [], p0 ++ (p1 ++ (p2 ++ [])), [], hW', ?_, ?_, ?_, hB.frame _, fun h => by cases h⟩
 · exact trodAll_mk1 (shut_bool Try.underlying4 _)
 · exact trodAll_cons_mk (Below.trod laid (by kernel_rfl) (of_decide_eq_true (by kernel_rfl)) h0 hB (fun x hx => hlt x (by simp [hx]))) (trodAll_cons_mk (Below.trod laid (by kernel_rfl) (of_decide_eq_true (by kernel_rfl)) h1 hB (fun x hx => hlt x (by simp [hx]))) (trodAll_cons_mk (Below.trod laid (by kernel_rfl) (of_decide_eq_true (by kernel_rfl)) h2 hB (fun x hx => hlt x (by simp [hx]))) trodAll_mk0))
 · exact rfl
theorem over : Rows.exactFieldsRow.holds Try.pinned (OpenSpec.ofChange Rows.exactFieldsSpec) :=
 OpenClaim.holds_of_wide 6 Try.f6 rfl rfl rfl rfl rfl rfl rfl ⟨rfl, rfl, rfl, rfl, rfl⟩ rfl rfl rfl rfl rfl (by kernel_rfl) Try.func6 (by kernel_rfl)
   (of_decide_eq_true (by kernel_rfl)) (by unfold Func.isWrapper; first | (rw [if_pos (by decide +kernel)]; kernel_rfl) | (rw [if_neg (by decide +kernel)]; exact ⟨rfl, rfl⟩))
   (fun os started H enc _ => lifted os started H enc)
theorem proved : Rows.ExactFieldsSaid := over
#print axioms proved
end Go.Proofs.Ytpjakokgmgggiaa.fields

