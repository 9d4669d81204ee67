/- The statement about the order of fractions and Surds. -/
import Derived.Test.YtpjakokgmgggiaaRows
import Derived.Test.YtpjakokgmgggiaaL2
import Derived.WalkKit
import Derived.ProofKit
import Derived.OpenShut
import Derived.Carry
namespace Go.Proofs.Ytpjakokgmgggiaa.order
open Go.ChangeShapes Go.WideShapes Go.ChangeAt Go.RowKit
open Sy (Up Sees CallsG Seg)

theorem own : ownKnob Try.prog.godebug = none := by kernel_rfl
theorem laid : laidOutB Try.prog = true := by kernel_rfl
set_option maxRecDepth 100000 in
theorem cell64 {W : World} {base : Nat} {v : Value} (h : Cell.okWide Try.prog W .any base 2 v) : ∃ n, v = .int .i64 n ∧ In64 n := by
  have hv : Value.okWide Try.prog W .any base 2 v := by
    simp only [Value.okWide, Try.underlying2]
    exact h
  obtain ⟨n, rfl⟩ := okWide_int Try.underlying2 hv
  refine ⟨n, rfl, ?_⟩
  simp only [Cell.okWide, Try.underlying2, Cell.ok] at h
  obtain ⟨_, h1, h2⟩ := h
  have e1 : IntKind.i64.min = -9223372036854775808 := rfl
  have e2 : IntKind.i64.max = 9223372036854775807 := rfl
  rw [e1] at h1
  rw [e2] at h2
  exact ⟨h1, by omega⟩
theorem quadTypes : Try.prog.cellTypes Try.prog.depth 50 = some [2, 2, 2, 2, 2, 2, 2, 2] := by kernel_rfl
theorem quadCells : Try.prog.cellsOf 50 = 8 := by kernel_rfl
set_option maxRecDepth 100000 in
theorem quad {W : World} {base : Nat} {v : Value} (h : Value.okWide Try.prog W .any base 50 v) : ∃ n0 n1 n2 n3 n4 n5 n6 n7 : Int, v = .agg #[.int .i64 n0, .int .i64 n1, .int .i64 n2, .int .i64 n3, .int .i64 n4, .int .i64 n5, .int .i64 n6, .int .i64 n7] ∧
    In64 n0 ∧ In64 n1 ∧ In64 n2 ∧ In64 n3 ∧ In64 n4 ∧ In64 n5 ∧ In64 n6 ∧ In64 n7 := by
  simp only [Value.okWide, Try.underlying50] at h
  obtain ⟨cs, rfl, hsz, ts, hts, _, hc⟩ := h
  rw [quadTypes] at hts
  injection hts with hts
  subst hts
  rw [quadCells] at hsz
  have key : ∀ i, (hi : i < 8) → ∃ n, cs[i]'(by omega) = .int .i64 n ∧ In64 n := fun i hi => by
    obtain ⟨u, hu, hk⟩ := hc i (cs[i]'(by omega)) (Array.getElem?_eq_getElem (by omega))
    have hm : ∀ x : TypeId, x ∈ [2, 2, 2, 2, 2, 2, 2, 2] → x = 2 := by
      intro x hx
      simpa using hx
    obtain rfl := hm u (List.mem_of_getElem? hu)
    exact cell64 hk
  obtain ⟨n0, e0, h0⟩ := key 0 (by omega)
  obtain ⟨n1, e1, h1⟩ := key 1 (by omega)
  obtain ⟨n2, e2, h2⟩ := key 2 (by omega)
  obtain ⟨n3, e3, h3⟩ := key 3 (by omega)
  obtain ⟨n4, e4, h4⟩ := key 4 (by omega)
  obtain ⟨n5, e5, h5⟩ := key 5 (by omega)
  obtain ⟨n6, e6, h6⟩ := key 6 (by omega)
  obtain ⟨n7, e7, h7⟩ := key 7 (by omega)
  refine ⟨n0, n1, n2, n3, n4, n5, n6, n7, ?_, h0, h1, h2, h3, h4, h5, h6, h7⟩
  congr 1
  obtain ⟨l⟩ := cs
  simp only [List.size_toArray] at hsz
  rcases l with _ | ⟨x0, _ | ⟨x1, _ | ⟨x2, _ | ⟨x3, _ | ⟨x4, _ | ⟨x5, _ | ⟨x6, _ | ⟨x7, _ | ⟨x8, l⟩⟩⟩⟩⟩⟩⟩⟩⟩ <;> first
    | (simp only [List.length_cons, List.length_nil] at hsz; omega)
    | (simp only [List.getElem_toArray, List.getElem_cons_zero, List.getElem_cons_succ] at e0 e1 e2 e3 e4 e5 e6 e7
       rw [e0, e1, e2, e3, e4, e5, e6, e7])

set_option maxRecDepth 100000 in
theorem lifted (os : Os) (started : os.Started) (H : Type) (enc : TypeId × Value → H) :
    ReturnsInHanded {} Try.checked os 7 .any (Rows.exactOrderSpec.pre6 enc Try.prog Try.f7 Rows.exactOrderRow.domain false) (Rows.exactOrderSpec.post enc Try.prog Try.f7 false true false false) := by
  refine returnsInHanded_of_change (C := Try.checked) own started (by kernel_rfl) Try.func7
    (ChangeSpec.witness6 (enc := enc) (C := Try.checked) false ⟨#[], #[.agg #[.int .i64 0, .int .i64 0, .int .i64 0, .int .i64 0, .int .i64 0, .int .i64 0, .int .i64 0, .int .i64 0], .agg #[.int .i64 0, .int .i64 0, .int .i64 0, .int .i64 0, .int .i64 0, .int .i64 0, .int .i64 0, .int .i64 0], .agg #[.int .i64 0, .int .i64 0, .int .i64 0, .int .i64 0, .int .i64 0, .int .i64 0, .int .i64 0, .int .i64 0]], []⟩ 8 (by kernel_rfl) (by kernel_rfl) (by kernel_rfl) (by kernel_rfl)) ?_
  intro W base args ds gs before hval0 hW hcnd _
  have hval : ∀ (j : Nat) t v, Try.f7.params[j]? = some t → args[j]? = some v → Value.okWide Try.prog W .any base t v := hval0
  have hW' := hW
  obtain ⟨p, q, hA0, hV, rfl, hfz, hnd⟩ := hW
  have hA : DataW.TrodAll enc Try.prog W 0 (fun _ => true) true Try.f7.params.toList args.toList ds p := hA0
  rw [Try.params7] at hA hval
  obtain ⟨v0, vs0, d0, ds0, p0, q0, hargs, rfl, rfl, h0, r0⟩ := trodAll_cons hA
  obtain ⟨v1, vs1, d1, ds1, p1, q1, rfl, rfl, rfl, h1, r1⟩ := trodAll_cons r0
  obtain ⟨v2, vs2, d2, ds2, p2, q2, rfl, rfl, rfl, h2, r2⟩ := trodAll_cons r1
  obtain ⟨rfl, rfl, rfl⟩ := trodAll_nil r2
  obtain rfl : args = #[v0, v1, v2] := by cases args; simp_all
  obtain ⟨rfl, rfl⟩ := trodVars_none hV
  obtain ⟨a0, a1, a2, a3, a4, a5, a6, a7, rfl, i0, i1, i2, i3, i4, i5, i6, i7⟩ := quad (hval 0 50 v0 rfl rfl)
  obtain ⟨b0, b1, b2, b3, b4, b5, b6, b7, rfl, j0, j1, j2, j3, j4, j5, j6, j7⟩ := quad (hval 1 50 v1 rfl rfl)
  obtain ⟨c0, c1, c2, c3, c4, c5, c6, c7, rfl, k0, k1, k2, k3, k4, k5, k6, k7⟩ := quad (hval 2 50 v2 rfl rfl)
  clear hA0 hval0
  have hlt : ∀ x ∈ p0 ++ (p1 ++ (p2 ++ [])), x.block < W.heap.size := fun x hx => by simpa using hW'.lt x (by simpa using hx)
  have hcall := order_s (k := W) (R := fun _ v => v = .bool true) i0 i1 i2 i3 i4 i5 i6 i7 j0 j1 j2 j3 j4 j5 j6 j7 k0 k1 k2 k3 k4 k5 k6 k7 (fun _ _ => rfl) W (Up.refl W) W (Sees.refl W)
  refine hcall.mono fun e W' he => ?_
  obtain ⟨v, k', rfl, _, _, hB, rfl⟩ := he
  refine ⟨_, rfl, _, _, _, [], p0 ++ (p1 ++ (p2 ++ [])), [], hW', ?_, ?_, ?_, hB.frame _, fun h => by cases h⟩
  · exact trodAll_mk1 (shut_bool Try.underlying4 _)
  · exact trodAll_cons_mk (Below.trod laid (by kernel_rfl) (of_decide_eq_true (by kernel_rfl)) h0 hB (fun x hx => hlt x (by simp [hx]))) (trodAll_cons_mk (Below.trod laid (by kernel_rfl) (of_decide_eq_true (by kernel_rfl)) h1 hB (fun x hx => hlt x (by simp [hx]))) (trodAll_cons_mk (Below.trod laid (by kernel_rfl) (of_decide_eq_true (by kernel_rfl)) h2 hB (fun x hx => hlt x (by simp [hx]))) trodAll_mk0))
  · exact rfl
theorem over : Rows.exactOrderRow.holds Try.pinned (OpenSpec.ofChange Rows.exactOrderSpec) :=
  OpenClaim.holds_of_wide 7 Try.f7 rfl rfl rfl rfl rfl rfl rfl ⟨rfl, rfl, rfl, rfl, rfl⟩ rfl rfl rfl rfl rfl (by kernel_rfl) Try.func7 (by kernel_rfl)
    (of_decide_eq_true (by kernel_rfl)) (by unfold Func.isWrapper; first | (rw [if_pos (by decide +kernel)]; kernel_rfl) | (rw [if_neg (by decide +kernel)]; exact ⟨rfl, rfl⟩))
    (fun os started H enc _ => lifted os started H enc)

/-- The statement. -/
theorem proved : Rows.ExactOrderSaid := over
#print axioms proved
end Go.Proofs.Ytpjakokgmgggiaa.order
