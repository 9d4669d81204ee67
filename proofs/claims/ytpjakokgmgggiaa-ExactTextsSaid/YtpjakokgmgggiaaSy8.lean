/- A symbolic executor of the model's code: regions in the text's order. -/
import Derived.Test.YtpjakokgmgggiaaSy7
namespace Go.Proofs.Ytpjakokgmgggiaa.Sy
open Go.RowKit

def cellsFrom (lo : Nat) : List LK → List SC
  | [] => []
  | .seg m :: l => .seg lo m :: cellsFrom (lo + 1) l
  | _ :: l => .var lo :: cellsFrom (lo + 1) l
/-- The kinds of a type's cells. -/
def kindsOf (P : Program) (opq : List TypeId) : Nat → TypeId → List LK
  | 0, _ => [.any]
  | n + 1, t => match P.underlying t with
    | some .bool => [.bool]
    | some (.int k) => [.int k]
    | some .string => [.str]
    | some (.slice _) => [.slice]
    | some (.struct fs) => if opq.contains t then [.seg ((sizeT P t).getD 0)] else fs.toList.flatMap fun f => kindsOf P opq n f.type
    | some (.array m e) => if opq.contains t then [.seg ((sizeT P t).getD 0)] else (List.replicate m (kindsOf P opq n e)).flatten
    | _ => [.any]
def partsFrom (P : Program) (opq : List TypeId) : Nat → List TypeId → List (Bool × List SC) × List LK
  | _, [] => ([], [])
  | lo, t :: ts =>
    let ks := kindsOf P opq 20 t
    let r := partsFrom P opq (lo + ks.length) ts
    (((isAggT P t).getD false, cellsFrom lo ks) :: r.1, ks ++ r.2)
/-- A result of a type, out of new variables. -/
def resOf (P : Program) (opq : List TypeId) (t : TypeId) (lo : Nat) : SV × List LK :=
  match P.underlying t with
  | some (.tuple ts) => let r := partsFrom P opq lo ts.toList; (.tup r.1, r.2)
  | _ => let ks := kindsOf P opq 20 t
    if (isAggT P t).getD false then (.agg (cellsFrom lo ks), ks) else (.one (.var lo), ks)

/-- What a loop hands on: a temporary, or a block of ours. -/
inductive Slot where
  | tmp (t : Tmp) (agg : Bool) (lks : List LK)
  | blk (b : Nat) (lks : List LK)
  deriving Inhabited
structure Cfg where
  opq : List TypeId
  fuel : Nat := 30
  loops : List (Nat × List Slot) := []
  splits : List (Nat × Tmp × List Int) := []
  sub : Bool := false
  deriving Inhabited

def needsT : List SC → T → T
  | [], t => t
  | .lit (.bool true) :: l, t => needsT l t
  | c :: l, t => .need c (needsT l t)
def St.vars (st : St) (lks : List LK) : St := { st with kinds := st.kinds ++ lks }
def St.pubB (st : St) (b : Nat) : St := { st with heap := st.heap.modify b (fun blk => { blk with pub := true, pv := st.kinds.length }), kinds := st.kinds ++ [.any] }
def capT (st : St) : List Operand → List Nat → (St → List Nat → T) → T
  | [], acc, K => K st acc
  | x :: xs, acc, K => match opnd st.tm x with
    | .one (.ptr b 0) => match st.heap[b]? with
      | some blk => if blk.pub then capT st xs (acc ++ [blk.pv]) K
        else .pub blk.ty blk.cells st.kinds.length (capT (st.pubB b) xs (acc ++ [st.kinds.length]) K)
      | none => .fail "captured"
    | _ => .fail "captured"
def stepE (P : Program) (cfg : Cfg) (o : Oper) (st : St) (K : St → T) : T :=
  match stepOp P st.tm st.hp o with
  | .pure v needs => needsT needs (if simple v then K (st.put o.dst v) else .defd v (K (st.put o.dst v)))
  | .load v b => match st.heap[b]? with
    | some _ => K (st.put o.dst v)
    | none => .fail "load"
  | .alloc ty cs sl => if cs.all (wordless st.kd) then K ((st.new ty cs).put o.dst (resV sl st.heap.length)) else .fail "a word"
  | .store b cs => match st.heap[b]? with
    | some blk => if !blk.pub && cs.all (wordless st.kd) then K ((st.setB b cs).put o.dst undefS) else .fail "store: a word"
    | none => .fail "store"
  | .call f args =>
    let r := resOf P cfg.opq o.type st.kinds.length
    .call f args st.kinds.length r.2 r.1 (K ((st.vars r.2).put o.dst r.1))
  | .fail why => .fail why
def stepT (P : Program) (cfg : Cfg) (o : Oper) (st : St) (K : St → T) : T :=
  match o.op with
  | .makeFunc (.func f) first captured => if first.size = 0 then capT st captured.toList [] fun st ids => K (st.put o.dst (.one (.fn f ids))) else .fail "makeFunc"
  | _ => stepE P cfg o st K
def seqOps (P : Program) (cfg : Cfg) (ops : Array Oper) : List Nat → St → (St → T) → T
  | [], st, K => K st
  | i :: l, st, K => match ops[i]? with
    | none => seqOps P cfg ops l st K
    | some o => match o.guard with
      | none => stepT P cfg o st fun st => seqOps P cfg ops l st K
      | some (j, want) => match (ops[j]?).bind (·.dst) with
        | some t => match st.tm t with
          | .one (.lit (.bool b)) => if b = want then stepT P cfg o st fun st => seqOps P cfg ops l st K else seqOps P cfg ops l (st.put o.dst undefS) K
          | .one c => .branch c
              (if want then stepT P cfg o (st.put (some t) (.one (.lit (.bool true)))) fun st => seqOps P cfg ops l st K else seqOps P cfg ops l ((st.put (some t) (.one (.lit (.bool true)))).put o.dst undefS) K)
              (if want then seqOps P cfg ops l ((st.put (some t) (.one (.lit (.bool false)))).put o.dst undefS) K else stepT P cfg o (st.put (some t) (.one (.lit (.bool false)))) fun st => seqOps P cfg ops l st K)
          | _ => .fail "guard"
        | none => .fail "guard"

section
variable {st : St} {ρ : Env} {k0 : Anc} {w0 k w : World} {a : Act} {P : Program} {R : Ctx} {cfg : Cfg}

theorem ext_le (ρ : Env) {n : Nat} (lks : List LK) (us : List Value) (hv : ∀ i, n ≤ i → ρ.val i = none) (hk : ∀ i, n ≤ i → ρ.kd i = none) : ρ.le (ρ.ext n lks us) := by
  refine ⟨fun i v h => ?_, fun _ _ h => h, fun i v h => ?_⟩
  · show (if i < n then ρ.val i else us[i - n]?) = some v
    by_cases e : i < n
    · rw [if_pos e]; exact h
    · rw [hv i (by omega)] at h; cases h
  · show (if i < n then ρ.kd i else lks[i - n]?) = some v
    by_cases e : i < n
    · rw [if_pos e]; exact h
    · rw [hk i (by omega)] at h; cases h
theorem Rel.kdnone (h : Rel st ρ k0 w0 k a w) : ∀ i, st.kinds.length ≤ i → ρ.kd i = none := fun i hi => by
  rw [h.kinds, List.getElem?_eq_none hi]
theorem Rel.ext_le (h : Rel st ρ k0 w0 k a w) (lks : List LK) (us : List Value) : ρ.le (ρ.ext st.kinds.length lks us) :=
  Sy.ext_le ρ lks us h.vals h.kdnone
theorem Rel.ext_ok (h : Rel st ρ k0 w0 k a w) {lks : List LK} {us : List Value} (hf : fitsL lks us) : (ρ.ext st.kinds.length lks us).Ok := fun i kk v h1 h2 => by
  have h1 : (if i < st.kinds.length then ρ.kd i else lks[i - st.kinds.length]?) = some kk := h1
  have h2 : (if i < st.kinds.length then ρ.val i else us[i - st.kinds.length]?) = some v := h2
  by_cases e : i < st.kinds.length
  · rw [if_pos e] at h1 h2; exact h.env i kk v h1 h2
  · rw [if_neg e] at h1 h2; exact (fitsL_get hf).2 _ _ _ h1 h2
/-- New variables. -/
theorem Rel.vars (h : Rel st ρ k0 w0 k a w) {lks : List LK} {us : List Value} (hf : fitsL lks us) {k' w' : World} (hs : Sees k' w') (hk : Below k.heap.size k k') (hw : Below w.heap.size w w') :
    Rel (st.vars lks) (ρ.ext st.kinds.length lks us) k0 w0 k' a w' := by
  have hle := h.ext_le lks us
  refine
    { anc := h.anc.trans hle
      up := h.up.trans (Up.of_below hk)
      dep := h.dep
      env := h.ext_ok hf
      kinds := fun i => ?_
      vals := fun i hi => ?_
      blks := h.blks
      inj := h.inj
      size := h.size
      tmps := fun t => (h.tmps t).le hle
      defers := h.defers
      sees := hs
      base := h.base
      kb := h.kb.trans (hk.mono h.kb.size)
      wb := h.wb.trans (hw.mono h.wb.size)
      heap := fun b blk hb => ?_ }
  · show (if i < st.kinds.length then ρ.kd i else lks[i - st.kinds.length]?) = (st.kinds ++ lks)[i]?
    rw [List.getElem?_append]
    split
    · exact h.kinds i
    · rfl
  · have hi' : st.kinds.length + lks.length ≤ i := by simpa [St.vars] using hi
    show (if i < st.kinds.length then ρ.val i else us[i - st.kinds.length]?) = none
    rw [if_neg (by omega)]
    exact List.getElem?_eq_none (by have := (fitsL_get hf).1; omega)
  · obtain ⟨n, vs, h1, h2, h3, h4, h5⟩ := h.heap b blk hb
    refine ⟨n, vs, h1, cellsD_le hle h2, (hw.block _ h3.lt).trans h3, fun hp => ?_, fun hp => ?_⟩
    · obtain ⟨a1, a2⟩ := h4 hp
      exact ⟨a1, (hk.block _ (heap_lt a2)).trans a2⟩
    · obtain ⟨a1, a2⟩ := h5 hp
      exact ⟨(hk.block _ a1.lt).trans a1, hle.val _ _ a2⟩
theorem Rel.knows (h : Rel st ρ k0 w0 k a w) (o : Oper) : Knows1 ρ st.tm a o := fun t _ => h.tmps t
theorem bare_den {sv : SV} {v : Value} (h : sv.den ρ.bare = some v) : sv.den ρ = some v := SV.den_le (Env.bare_le ρ) h
theorem needsT_den {ν : Env} : ∀ {l : List SC} {t : T}, (needsT l t).den P R ν k → (∀ c ∈ l, c.den ν = some (.bool true)) ∧ t.den P R ν k
  | [], t, h => ⟨by simp, h⟩
  | c :: l, t, h => by
    unfold needsT at h
    split at h
    · rename_i h0; cases h0
    · rename_i l' t' h0
      injection h0 with e1 e2; subst e1 e2
      obtain ⟨h1, h2⟩ := needsT_den h
      exact ⟨fun c hc => by rcases List.mem_cons.1 hc with rfl | hc; · rfl
                            exact h1 c hc, h2⟩
    · rename_i c' l' t' _ h0
      injection h0 with e1 e2; subst e1 e2
      unfold T.den at h
      split at h
      · rename_i b hb
        obtain ⟨h1, h2⟩ := needsT_den h.2
        obtain ⟨rfl, _⟩ := h
        exact ⟨fun c hc => by rcases List.mem_cons.1 hc with rfl | hc; · exact hb
                              exact h1 c hc, h2⟩
      · exact h.elim
theorem setCell_dummy : True := trivial

theorem Rel.pubOk (h : Rel st ρ k0 w0 k a w) : PubOk ρ st.hp := fun b blk hb hp => by
  obtain ⟨n, vs, h1, _, _, _, h5⟩ := h.heap b blk hb
  exact ⟨n, h1, (h5 hp).2⟩
theorem stepE_sound {o : Oper} {K : St → T} {next : Act → World → Prop} {Q : Exit → Act → World → Prop} (h : Rel st ρ k0 w0 k a w) (hT : (stepE P cfg o st K).den P R ρ.bare k)
    (hK : ∀ st' ρ' k' a' w', Rel st' ρ' k0 w0 k' a' w' → (K st').den P R ρ'.bare k' → next a' w') : o.wp P a w next Q := by
  have hs := step_sound (P := P) (w := w) (hp := st.hp) h.env h.pubOk (h.knows o)
  unfold stepE at hT
  unfold Oper.wp
  generalize he : stepOp P st.tm st.hp o = e at hs hT
  cases e with
  | pure v needs =>
    simp only at hT
    obtain ⟨h1, h2⟩ := needsT_den hT
    have hcase : ∃ x, v.den ρ = some x ∧ (K (st.put o.dst v)).den P R ρ.bare k := by
      split at h2
      · rename_i hsim
        obtain ⟨x, hx⟩ := step_simple h.env h.pubOk (h.knows o) he hsim
        exact ⟨x, hx, h2⟩
      · unfold T.den at h2
        split at h2
        · rename_i x hx
          exact ⟨x, bare_den hx, h2⟩
        · exact h2.elim
    obtain ⟨x, hx', h3⟩ := hcase
    rw [hs (fun c hc => SC.den_le (Env.bare_le ρ) (h1 c hc)) x hx', Oper.upon_value]
    exact hK _ _ _ _ _ (h.put o.dst (.inr hx')) h3
  | load v b =>
    simp only at hT
    split at hT
    · rename_i blk hb
      obtain ⟨n, vs, h1, h2, h3, _⟩ := h.heap b blk hb
      obtain ⟨x, x1, x2⟩ := hs blk n vs hb h1 h2 h3
      rw [x2, Oper.upon_value]
      exact hK _ _ _ _ _ (h.put o.dst (.inr x1)) hT
    · exact hT.elim
  | alloc ty cs sl =>
    simp only at hT
    split at hT
    · rename_i hw
      obtain ⟨vs, h1, h2⟩ := hs
      have hkd : st.kd = ρ.kd := funext fun i => (h.kinds i).symm
      obtain ⟨ρ', k', hle, e1, e2, hb, hup, hrel⟩ := h.alloc (ty := ty) h1 (cells_noWord h.env (by rw [← hkd]; exact hw) h1)
      rw [h2, Oper.upon_value]
      refine hK _ ρ' k' _ _ (hrel.put o.dst (v := resV sl st.heap.length) (.inr ?_)) ?_
      · exact resV_den hb
      · have : ρ'.bare = ρ.bare := by unfold Env.bare; rw [e1, e2]
        rw [this]
        exact T.den_up hT hup
    · exact hT.elim
  | store b cs =>
    simp only at hT
    split at hT
    · rename_i blk hb
      split at hT
      · rename_i hw
        simp only [Bool.and_eq_true, Bool.not_eq_true'] at hw
        obtain ⟨n, vs, h1, h2, h3, h4, h5⟩ := h.heap b blk hb
        obtain ⟨us, u1, u2⟩ := hs blk n vs hb h1 h2 h3
        have hkd : st.kd = ρ.kd := funext fun i => (h.kinds i).symm
        rw [u2, Oper.upon_skip]
        exact hK _ _ _ _ _ ((h.store hb hw.1 h1 u1 (cells_noWord h.env (by rw [← hkd]; exact hw.2) u1)).put o.dst (.inr rfl)) hT
      · exact hT.elim
    · exact hT.elim
  | call f args =>
    simp only at hT
    unfold T.den at hT
    split at hT
    · rename_i vs hvs
      rw [hs vs (argsD_le (Env.bare_le ρ) hvs), Oper.upon_enter]
      refine (hT k (Up.refl k) w h.sees).mono ?_
      rintro e w' ⟨v, k', rfl, s1, s2, s3, hex⟩
      obtain ⟨us, hf, hr, ht⟩ := exL_elim hex
      have hr' : SV.den (ρ.ext st.kinds.length (resOf P cfg.opq o.type st.kinds.length).2 us) (resOf P cfg.opq o.type st.kinds.length).1 = some v :=
        bare_den (ρ := ρ.ext st.kinds.length (resOf P cfg.opq o.type st.kinds.length).2 us) hr
      exact hK _ _ _ _ _ ((h.vars hf s1 s2 s3).put o.dst (.inr hr')) ht
    · exact hT.elim
  | fail why => exact hT.elim

/-- A block of ours is made known: it is never written again. -/
theorem Rel.pub (h : Rel st ρ k0 w0 k a w) {b n : Nat} {blk : SB} {vs : List Value} (hb : st.heap[b]? = some blk) (hp : blk.pub = false) (hn : ρ.blk b = some n) (hc : cellsD ρ blk.cells = some vs) :
    ∃ k', Up k k' ∧ Blk k' n blk.ty vs.toArray ∧ Rel (st.pubB b) (ρ.ext st.kinds.length [.any] [.pointer (some ⟨n, 0, none⟩)]) k0 w0 k' a w := by
  obtain ⟨n', vs', h1, h2, h3, h4, _⟩ := h.heap b blk hb
  rw [hn] at h1; injection h1 with h1; subst h1
  rw [hc] at h2; injection h2 with h2; subst h2
  obtain ⟨hbase, hdead⟩ := h4 hp
  let k' : World := { k with heap := k.heap.setIfInBounds n (.cells vs.toArray blk.ty (0, 0)) }
  have hoth : ∀ g, g ≠ n → k'.heap[g]? = k.heap[g]? := fun g hg => by
    show (k.heap.setIfInBounds n _)[g]? = _
    rw [Array.getElem?_setIfInBounds, if_neg (Ne.symm hg)]
  have hown : k'.heap[n]? = some (.cells vs.toArray blk.ty (0, 0)) := by
    show (k.heap.setIfInBounds n _)[n]? = _
    rw [Array.getElem?_setIfInBounds, if_pos rfl, if_pos (heap_lt hdead)]
  have hsize : k'.heap.size = k.heap.size := by simp [k']
  have hup : Up k k' := ⟨rfl, rfl, rfl, by rw [hsize]; exact Nat.le_refl _, fun g o hg hd => by
    by_cases e : g = n
    · subst e; rw [hdead] at hg; injection hg with hg; exact absurd hg.symm hd
    · rw [hoth g e]; exact hg⟩
  have hfit : fitsL [.any] [.pointer (some ⟨n, 0, none⟩)] := ⟨⟨rfl, rfl⟩, trivial⟩
  have hle := h.ext_le [.any] [.pointer (some ⟨n, 0, none⟩)]
  refine ⟨k', hup, hown, ?_⟩
  exact
    { anc := h.anc.trans hle
      up := h.up.trans hup
      dep := h.dep
      env := h.ext_ok hfit
      kinds := fun i => by
        show (if i < st.kinds.length then ρ.kd i else [LK.any][i - st.kinds.length]?) = (st.kinds ++ [.any])[i]?
        rw [List.getElem?_append]
        split
        · exact h.kinds i
        · rfl
      vals := fun i hi => by
        have hi' : st.kinds.length + 1 ≤ i := by simpa [St.pubB] using hi
        show (if i < st.kinds.length then ρ.val i else [Value.pointer (some ⟨n, 0, none⟩)][i - st.kinds.length]?) = none
        rw [if_neg (by omega)]
        exact List.getElem?_eq_none (by simp; omega)
      blks := fun b' hb' => h.blks b' (by simpa [St.pubB] using hb')
      inj := h.inj
      size := h.size
      tmps := fun t => (h.tmps t).le hle
      defers := h.defers
      sees :=
        { os := h.sees.os
          tape := h.sees.tape
          output := h.sees.output
          size := by rw [hsize]; exact h.sees.size
          live := fun g o hg hd => by
            by_cases e : g = n
            · subst e; rw [hown] at hg; injection hg with hg; subst hg; exact h3
            · rw [hoth g e] at hg; exact h.sees.live g o hg hd
          dark := fun g hg => by
            by_cases e : g = n
            · subst e; rw [hown] at hg; injection hg with hg; exact absurd hg (blk_not_dead _ _)
            · rw [hoth g e] at hg; exact h.sees.dark g hg }
      base := h.base
      kb := ⟨h.kb.os, h.kb.tape, h.kb.output, by rw [hsize]; exact h.kb.size, fun g hg => (hoth g (by omega)).trans (h.kb.block g hg)⟩
      wb := h.wb
      heap := fun b' blk' hb' => by
        unfold St.pubB at hb'
        simp only [List.getElem?_modify] at hb'
        by_cases e : b = b'
        · subst e
          rw [hb] at hb'
          simp at hb'
          subst hb'
          refine ⟨n, vs, hn, cellsD_le hle hc, h3, (fun hp' => by cases hp'), fun _ => ⟨hown, ?_⟩⟩
          show (if st.kinds.length < st.kinds.length then ρ.val st.kinds.length else [Value.pointer (some ⟨n, 0, none⟩)][st.kinds.length - st.kinds.length]?) = _
          rw [if_neg (by omega), Nat.sub_self]
          rfl
        · simp only [e] at hb'
          have hb'' : st.heap[b']? = some blk' := by simpa using hb'
          obtain ⟨n2, vs2, g1, g2, g3, g4, g5⟩ := h.heap b' blk' hb''
          have hne : n2 ≠ n := fun e' => e (h.inj _ _ _ hbase hn (e' ▸ g1))
          refine ⟨n2, vs2, g1, cellsD_le hle g2, g3, fun hp' => ?_, fun hp' => ?_⟩
          · obtain ⟨a1, a2⟩ := g4 hp'
            exact ⟨a1, (hoth n2 hne).trans a2⟩
          · obtain ⟨a1, a2⟩ := g5 hp'
            exact ⟨(hoth n2 hne).trans a1, hle.val _ _ a2⟩ }
theorem capD_snoc {ρ : Env} {i : Nat} {v : Value} (hi : ρ.val i = some v) : ∀ {is : List Nat} {vs : List Value}, capD ρ is = some vs → capD ρ (is ++ [i]) = some (vs ++ [v])
  | [], vs, h => by simp only [capD] at h; injection h with h; subst h; simp [capD, hi]
  | j :: is, vs, h => by
    simp only [capD] at h
    split at h
    · rename_i x us h1 h2
      injection h with h; subst h
      simp [capD, h1, capD_snoc hi h2]
    · cases h
theorem capT_sound {K : St → List Nat → T} : ∀ {xs : List Operand} {st : St} {ρ : Env} {k : World} {acc : List Nat} {vs : List Value}, Rel st ρ k0 w0 k a w → capD ρ acc = some vs → (capT st xs acc K).den P R ρ.bare k →
    ∃ st' ρ' k' ids, Rel st' ρ' k0 w0 k' a w ∧ capD ρ' ids = some (vs ++ xs.map a.eval) ∧ (K st' ids).den P R ρ'.bare k'
  | [], st, ρ, k, acc, vs, h, hc, hT => ⟨st, ρ, k, acc, h, by simpa using hc, hT⟩
  | x :: xs, st, ρ, k, acc, vs, h, hc, hT => by
    unfold capT at hT
    split at hT
    · rename_i b hx
      have h1 : (SV.one (.ptr b 0)).den ρ = some (a.eval x) := by rw [← hx]; exact opnd_eval (fun t _ => h.tmps t) (by rw [hx]; simp)
      simp only [SV.den, SC.den] at h1
      split at h1
      · rename_i n hn
        injection h1 with h1
        split at hT
        · rename_i blk hb
          split at hT
          · rename_i hp
            obtain ⟨n', vs', g1, g2, g3, g4, g5⟩ := h.heap b blk hb
            rw [hn] at g1; injection g1 with g1; subst g1
            obtain ⟨_, g6⟩ := g5 hp
            obtain ⟨st', ρ', k', ids, r1, r2, r3⟩ := capT_sound h (capD_snoc g6 hc) hT
            exact ⟨st', ρ', k', ids, r1, by rw [r2]; simp [h1], r3⟩
          · rename_i hp
            have hp' : blk.pub = false := by simpa using hp
            obtain ⟨n', vs', g1, g2, g3, g4, g5⟩ := h.heap b blk hb
            rw [hn] at g1; injection g1 with g1; subst g1
            unfold T.den at hT
            split at hT
            · rename_i us hus
              have := cellsD_le (Env.bare_le ρ) hus
              rw [g2] at this; injection this with this; subst this
              obtain ⟨k', u1, u2, u3⟩ := h.pub hb hp' hn g2
              have hT' := hT n k' u1 u2
              have hle := h.ext_le [.any] [.pointer (some ⟨n, 0, none⟩)]
              have hv : (ρ.ext st.kinds.length [.any] [.pointer (some ⟨n, 0, none⟩)]).val st.kinds.length = some (.pointer (some ⟨n, 0, none⟩)) := by
                show (if st.kinds.length < st.kinds.length then ρ.val st.kinds.length else [Value.pointer (some ⟨n, 0, none⟩)][st.kinds.length - st.kinds.length]?) = _
                rw [if_neg (by omega), Nat.sub_self]
                rfl
              obtain ⟨st', ρ', k2, ids, r1, r2, r3⟩ := capT_sound u3 (capD_snoc hv (capD_le hle hc)) hT'
              exact ⟨st', ρ', k2, ids, r1, by rw [r2]; simp [h1], r3⟩
            · exact hT.elim
        · exact hT.elim
      · cases h1
    · exact hT.elim
theorem stepT_sound {o : Oper} {K : St → T} {next : Act → World → Prop} {Q : Exit → Act → World → Prop} (h : Rel st ρ k0 w0 k a w) (hT : (stepT P cfg o st K).den P R ρ.bare k)
    (hK : ∀ st' ρ' k' a' w', Rel st' ρ' k0 w0 k' a' w' → (K st').den P R ρ'.bare k' → next a' w') : o.wp P a w next Q := by
  unfold stepT at hT
  split at hT
  · rename_i f first captured ho
    split at hT
    · rename_i hf
      have e1 : first = #[] := Array.eq_empty_of_size_eq_zero hf
      obtain ⟨st', ρ', k', ids, r1, r2, r3⟩ := capT_sound (vs := []) h rfl hT
      have hrun : (execOp a.eval o).run P w = .ok (.value (.func (.func f) #[] (captured.map a.eval))) w := by
        simp [execOp, ho, Instr.makeFunc, e1]
      unfold Oper.wp
      rw [hrun, Oper.upon_value]
      refine hK _ ρ' k' _ _ (r1.put o.dst (v := .one (.fn f ids)) (.inr ?_)) r3
      simp only [SV.den, SC.den, r2]
      congr 2
      apply Array.ext'
      simp
    · exact hT.elim
  · exact stepE_sound h hT hK
theorem yielded_eq {ops : Array Oper} {j : Nat} {t : Tmp} {b : Bool} (hj : (ops[j]?).bind (·.dst) = some t) (hb : a.tmps.getD t undef = .bool b) : yielded ops a.tmps j = some b := by
  unfold yielded
  rw [hj]
  simp only [Option.bind_some]
  rw [Array.getD_eq_getD_getElem?] at hb
  cases h : a.tmps[t]? with
  | none => rw [h] at hb; cases hb
  | some v => rw [h] at hb; simp at hb; subst hb; rfl
theorem seqOps_sound {ops : Array Oper} {K : St → T} {Q : Exit → Act → World → Prop} (hK : ∀ st' ρ' k' a' w', Rel st' ρ' k0 w0 k' a' w' → (K st').den P R ρ'.bare k' → Q .normal a' w') :
    ∀ (l : List Nat) {st : St} {ρ : Env} {k : World} {a : Act} {w : World}, Rel st ρ k0 w0 k a w → (seqOps P cfg ops l st K).den P R ρ.bare k → wpOps P ops Q l a w
  | [], st, ρ, k, a, w, h, hT => hK _ _ _ _ _ h hT
  | i :: l, st, ρ, k, a, w, h, hT => by
    unfold seqOps at hT
    unfold wpOps
    have hskip : ∀ {st : St} {o : Oper}, Rel st ρ k0 w0 k a w → (seqOps P cfg ops l (st.put o.dst undefS) K).den P R ρ.bare k → wpOps P ops Q l (a.put o.dst undef) w :=
      fun h hT => seqOps_sound hK l (h.put _ (.inr rfl)) hT
    cases ho : ops[i]? with
    | none =>
      simp only [ho] at hT ⊢
      exact seqOps_sound hK l h hT
    | some o =>
      simp only [ho] at hT ⊢
      have hstep : ∀ {st : St}, Rel st ρ k0 w0 k a w → (stepT P cfg o st fun st => seqOps P cfg ops l st K).den P R ρ.bare k → o.wp P a w (wpOps P ops Q l) Q :=
        fun h hT => stepT_sound h hT fun st' ρ' k' a' w' h' hT' => seqOps_sound hK l h' hT'
      cases hg : o.guard with
      | none =>
        simp only [hg] at hT
        rw [if_pos (by simp [Region.wanted, hg])]
        exact .inl (hstep h hT)
      | some g =>
        obtain ⟨j, want⟩ := g
        simp only [hg] at hT
        cases hj : (ops[j]?).bind (·.dst) with
        | none => simp only [hj] at hT; exact hT.elim
        | some t =>
          simp only [hj] at hT
          have htm := h.tmps t
          split at hT
          · rename_i b hb
            have hbv : a.tmps.getD t undef = .bool b := by
              rcases htm with e | e
              · rw [hb] at e; cases e
              · rw [hb] at e; simp only [SV.den, SC.den] at e; injection e with e; exact e.symm
            have hy := yielded_eq hj hbv
            have hw : Region.wanted o (yielded ops a.tmps) = (b == want) := by simp [Region.wanted, hg, hy]
            rw [hw]
            split at hT
            · rename_i e; subst e
              rw [if_pos (by simp)]
              exact .inl (hstep h hT)
            · rename_i e
              rw [if_neg (by simpa using e)]
              exact hskip h hT
          · rename_i c hne hc
            unfold T.den at hT
            split at hT
            · rename_i b hb
              have hbv : a.tmps.getD t undef = .bool b := by
                rcases htm with e | e
                · rw [hc] at e; cases e
                · rw [hc] at e; simp only [SV.den] at e; rw [SC.den_le (Env.bare_le ρ) hb] at e; injection e with e; exact e.symm
              have hy := yielded_eq hj hbv
              have hw : Region.wanted o (yielded ops a.tmps) = (b == want) := by simp [Region.wanted, hg, hy]
              rw [hw]
              have hput : ∀ b', a.tmps.getD t undef = .bool b' → Rel (st.put (some t) (.one (.lit (.bool b')))) ρ k0 w0 k a w := fun b' hb' => by
                have := h.put (some t) (v := .one (.lit (.bool b'))) (x := .bool b') (.inr rfl)
                have e : a.put (some t) (.bool b') = a := by
                  unfold Act.put
                  have : a.tmps.setIfInBounds t (.bool b') = a.tmps := by
                    apply Array.ext_getElem?
                    intro i
                    rw [Array.getElem?_setIfInBounds]
                    by_cases e : t = i
                    · subst e
                      rw [if_pos rfl]
                      by_cases hl : t < a.tmps.size
                      · rw [if_pos hl, Array.getElem?_eq_getElem hl]
                        rw [Array.getD_eq_getD_getElem?, Array.getElem?_eq_getElem hl] at hb'
                        simp at hb'; rw [hb']
                      · rw [if_neg hl, Array.getElem?_eq_none (Nat.le_of_not_lt hl)]
                    · rw [if_neg e]
                  simp only [this]
                rw [e] at this
                exact this
              cases b
              · have hT := hT.2 rfl
                cases want
                · rw [if_pos (by simp)]
                  simp only [Bool.false_eq_true, if_false] at hT
                  exact .inl (hstep (hput _ hbv) hT)
                · rw [if_neg (by simp)]
                  simp only [if_true] at hT
                  exact hskip (hput _ hbv) hT
              · have hT := hT.1 rfl
                cases want
                · rw [if_neg (by simp)]
                  simp only [Bool.false_eq_true, if_false] at hT
                  exact hskip (hput _ hbv) hT
                · rw [if_pos (by simp)]
                  simp only [if_true] at hT
                  exact .inl (hstep (hput _ hbv) hT)
            · exact hT.elim
          · exact hT.elim
end
end Go.Proofs.Ytpjakokgmgggiaa.Sy
