/- Arguments of the statements: integers, and aggregates of integers. -/
import Derived.Test.YtpjakokgmgggiaaRows
import Derived.WalkKit
import Derived.ProofKit
import Derived.OpenShut
import Derived.Carry
import Derived.Test.YtpjakokgmgggiaaL1
namespace Go.Proofs.Ytpjakokgmgggiaa.Row
open Go.ChangeShapes Go.WideShapes Go.ChangeAt Go.RowKit

theorem own : ownKnob Try.prog.godebug = none := by kernel_rfl
theorem laid : laidOutB Try.prog = true := by kernel_rfl
set_option maxRecDepth 100000 in
theorem cell64 {W : World} {base : Nat} {v : Value} (h : Cell.okWide Try.prog W .any base 2 v) : ∃ n, v = .int .i64 n ∧ In64 n := by
  have hv : Value.okWide Try.prog W .any base 2 v := by
    simp only [Value.okWide, Try.underlying2]
    exact h
  obtain ⟨n, rfl⟩ := okWide_int Try.underlying2 hv
  refine ⟨n, rfl, ?_⟩
  simp only [Cell.okWide, Try.underlying2, Cell.ok] at h
  obtain ⟨_, h1, h2⟩ := h
  have e1 : IntKind.i64.min = -9223372036854775808 := rfl
  have e2 : IntKind.i64.max = 9223372036854775807 := rfl
  rw [e1] at h1
  rw [e2] at h2
  exact ⟨h1, by omega⟩
set_option maxRecDepth 100000 in
/-- Cells that are all integers. -/
theorem cells {W : World} {base m : Nat} {cs : Array Value} {ts : List TypeId} (hsz : cs.size = m) (hts : ts = List.replicate m 2)
    (hc : ∀ (i : Nat) (v : Value), cs[i]? = some v → ∃ u, ts[i % ts.length]? = some u ∧ Cell.okWide Try.prog W .any base u v) :
    ∃ l : List Int, l.length = m ∧ cs = (l.map (Value.int .i64)).toArray ∧ ∀ x ∈ l, In64 x := by
  have key : ∀ i, (hi : i < cs.size) → ∃ n, cs[i] = .int .i64 n ∧ In64 n := fun i hi => by
    obtain ⟨u, hu, hk⟩ := hc i cs[i] (Array.getElem?_eq_getElem hi)
    rw [hts] at hu
    have hm := List.mem_of_getElem? hu
    rw [List.mem_replicate] at hm
    obtain ⟨_, rfl⟩ := hm
    exact cell64 hk
  have gen : ∀ l : List Value, (∀ v ∈ l, ∃ n, v = Value.int .i64 n ∧ In64 n) → ∃ l' : List Int, l'.length = l.length ∧ l = l'.map (Value.int .i64) ∧ ∀ x ∈ l', In64 x := by
    intro l
    induction l with
    | nil => intro _; exact ⟨[], rfl, rfl, fun x hx => by cases hx⟩
    | cons v l ih =>
      intro h
      obtain ⟨n, rfl, hn⟩ := h v (by simp)
      obtain ⟨l', e1, e2, e3⟩ := ih fun v hv => h v (by simp [hv])
      exact ⟨n :: l', by simp [e1], by rw [List.map_cons, ← e2], fun x hx => by
        rw [List.mem_cons] at hx
        rcases hx with rfl | hx
        · exact hn
        · exact e3 x hx⟩
  obtain ⟨l', e1, e2, e3⟩ := gen cs.toList fun v hv => by
    obtain ⟨i, hi, rfl⟩ := List.getElem_of_mem hv
    rw [Array.getElem_toList]
    exact key i (by simpa using hi)
  refine ⟨l', by rw [e1, Array.length_toList, hsz], ?_, e3⟩
  rw [← e2, Array.toArray_toList]
theorem quadTypes : Try.prog.cellTypes Try.prog.depth 50 = some (List.replicate 8 2) := by kernel_rfl
theorem quadCells : Try.prog.cellsOf 50 = 8 := by kernel_rfl
set_option maxRecDepth 100000 in
theorem quad {W : World} {base : Nat} {v : Value} (h : Value.okWide Try.prog W .any base 50 v) : ∃ n0 n1 n2 n3 n4 n5 n6 n7 : Int, v = .agg #[.int .i64 n0, .int .i64 n1, .int .i64 n2, .int .i64 n3, .int .i64 n4, .int .i64 n5, .int .i64 n6, .int .i64 n7] ∧
    In64 n0 ∧ In64 n1 ∧ In64 n2 ∧ In64 n3 ∧ In64 n4 ∧ In64 n5 ∧ In64 n6 ∧ In64 n7 := by
  simp only [Value.okWide, Try.underlying50] at h
  obtain ⟨cs, rfl, hsz, ts, hts, _, hc⟩ := h
  rw [quadTypes] at hts
  injection hts with hts
  rw [quadCells] at hsz
  obtain ⟨l, hl, rfl, hx⟩ := cells hsz hts.symm hc
  rcases l with _ | ⟨x0, _ | ⟨x1, _ | ⟨x2, _ | ⟨x3, _ | ⟨x4, _ | ⟨x5, _ | ⟨x6, _ | ⟨x7, _ | ⟨x8, l⟩⟩⟩⟩⟩⟩⟩⟩⟩ <;> first
    | (simp only [List.length_cons, List.length_nil] at hl; omega)
    | exact ⟨x0, x1, x2, x3, x4, x5, x6, x7, rfl, hx _ (by simp), hx _ (by simp), hx _ (by simp), hx _ (by simp), hx _ (by simp), hx _ (by simp), hx _ (by simp), hx _ (by simp)⟩
end Go.Proofs.Ytpjakokgmgggiaa.Row
