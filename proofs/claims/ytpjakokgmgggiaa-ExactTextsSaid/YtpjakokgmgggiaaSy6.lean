/- A symbolic executor of the model's code: what is known, trees of calls. -/
import Derived.Test.YtpjakokgmgggiaaSy5
namespace Go.Proofs.Ytpjakokgmgggiaa.Sy
open Go.RowKit

/-- What stands, in the world that is known, for a block that its owner alone knows. -/
def dead : Obj := .cells #[] 0 (1, 0)
/-- k is what is known of w. -/
structure Sees (k w : World) : Prop where
  os : w.os = k.os
  tape : w.tape = k.tape
  output : w.output = k.output
  size : w.heap.size = k.heap.size
  live : ∀ (g : Nat) (o : Obj), k.heap[g]? = some o → o ≠ dead → w.heap[g]? = some o
  dark : ∀ (g : Nat), k.heap[g]? = some dead → ∃ cs t fr, w.heap[g]? = some (.cells cs t fr) ∧ ∀ u ∈ cs.toList, u.noWord = true
theorem Sees.refl (w : World) : Sees w w :=
  ⟨rfl, rfl, rfl, rfl, fun _ _ h _ => h, fun _ h => ⟨_, _, _, h, by simp⟩⟩
/-- What is known grows. -/
structure Up (k k' : World) : Prop where
  os : k'.os = k.os
  tape : k'.tape = k.tape
  output : k'.output = k.output
  size : k.heap.size ≤ k'.heap.size
  live : ∀ (g : Nat) (o : Obj), k.heap[g]? = some o → o ≠ dead → k'.heap[g]? = some o
theorem Up.refl (k : World) : Up k k := ⟨rfl, rfl, rfl, Nat.le_refl _, fun _ _ h _ => h⟩
theorem Up.trans {a b c : World} (h : Up a b) (h' : Up b c) : Up a c :=
  ⟨h'.os.trans h.os, h'.tape.trans h.tape, h'.output.trans h.output, Nat.le_trans h.size h'.size, fun g o hg hd => h'.live g o (h.live g o hg hd) hd⟩
theorem heap_lt {k : World} {g : Nat} {o : Obj} (h : k.heap[g]? = some o) : g < k.heap.size := by
  rcases Nat.lt_or_ge g k.heap.size with hlt | hge
  · exact hlt
  · rw [Array.getElem?_eq_none hge] at h; cases h
theorem Up.of_below {a b : World} (h : Below a.heap.size a b) : Up a b :=
  ⟨h.os, h.tape, h.output, h.size, fun g _o hg _ => (h.block g (heap_lt hg)).trans hg⟩
theorem Up.cell {k k' : World} (h : Up k k') {a : Addr} {v : Value} (hc : k.cell? a = some v) : k'.cell? a = some v := by
  unfold World.cell? at hc ⊢
  split at hc
  · rename_i c t fr hg
    have hne : Obj.cells c t fr ≠ dead := by
      intro e
      unfold dead at e
      injection e with e1 e2 e3
      subst e1
      simp at hc
    rw [h.live _ _ hg hne]
    exact hc
  · cases hc
theorem Sees.cell {k w : World} (h : Sees k w) {a : Addr} {v : Value} (hc : k.cell? a = some v) : w.cell? a = some v := by
  unfold World.cell? at hc ⊢
  split at hc
  · rename_i c t fr hg
    have hne : Obj.cells c t fr ≠ dead := by
      intro e
      unfold dead at e
      injection e with e1 e2 e3
      subst e1
      simp at hc
    rw [h.live _ _ hg hne]
    exact hc
  · cases hc
/-- A call, by what is known. -/
def CallsG (P : Program) (f : FuncId) (args : Array Value) (k : World) (R : World → Value → Prop) : Prop :=
  ∀ w, Sees k w → Calls P f args w fun e w' => ∃ v k', e = .returned v ∧ Sees k' w' ∧ Below k.heap.size k k' ∧ Below w.heap.size w w' ∧ R k' v
theorem CallsG.mono {P : Program} {f : FuncId} {args : Array Value} {k : World} {R R' : World → Value → Prop} (h : CallsG P f args k R) (hr : ∀ k' v, Below k.heap.size k k' → R k' v → R' k' v) : CallsG P f args k R' :=
  fun w hw => (h w hw).mono fun _ _ ⟨v, k', e, h1, h2, h3, h4⟩ => ⟨v, k', e, h1, h2, h3, hr _ _ h2 h4⟩

def Env.ext (ρ : Env) (lo : Nat) (lks : List LK) (vs : List Value) : Env :=
  { val := fun i => if i < lo then ρ.val i else vs[i - lo]?
    blk := ρ.blk
    kd := fun i => if i < lo then ρ.kd i else lks[i - lo]? }
def Env.bare (ρ : Env) : Env := { ρ with blk := fun _ => none }
/-- Some values of these kinds. -/
def exL : List LK → (List Value → Prop) → Prop
  | [], φ => φ []
  | .bool :: l, φ => ∃ b : Bool, exL l fun vs => φ (.bool b :: vs)
  | .int k :: l, φ => ∃ n : Int, exL l fun vs => φ (.int k n :: vs)
  | .str :: l, φ => ∃ s : ByteArray, exL l fun vs => φ (.string s :: vs)
  | .slice :: l, φ => ∃ (A : Option Addr) (n c : Nat), exL l fun vs => φ (.slice A n c :: vs)
  | .any :: l, φ => ∃ v : Value, (v.scalar = true ∧ v.noWord = true) ∧ exL l fun vs => φ (v :: vs)
  | .seg m :: l, φ => ∃ cs : Array Value, Seg m cs ∧ exL l fun vs => φ (.agg cs :: vs)
/-- Values of these kinds. -/
def fitsL : List LK → List Value → Prop
  | [], [] => True
  | k :: l, v :: vs => k.ok v ∧ fitsL l vs
  | _, _ => False
theorem exL_elim : ∀ {l : List LK} {φ : List Value → Prop}, exL l φ → ∃ vs, fitsL l vs ∧ φ vs
  | [], _φ, h => ⟨[], trivial, h⟩
  | .bool :: _l, _φ, ⟨b, h⟩ => let ⟨vs, h1, h2⟩ := exL_elim h; ⟨.bool b :: vs, ⟨⟨b, rfl⟩, h1⟩, h2⟩
  | .int k :: _l, _φ, ⟨b, h⟩ => let ⟨vs, h1, h2⟩ := exL_elim h; ⟨.int k b :: vs, ⟨⟨b, rfl⟩, h1⟩, h2⟩
  | .str :: _l, _φ, ⟨b, h⟩ => let ⟨vs, h1, h2⟩ := exL_elim h; ⟨.string b :: vs, ⟨⟨b, rfl⟩, h1⟩, h2⟩
  | .slice :: _l, _φ, ⟨A, n, c, h⟩ => let ⟨vs, h1, h2⟩ := exL_elim h; ⟨.slice A n c :: vs, ⟨⟨A, n, c, rfl⟩, h1⟩, h2⟩
  | .any :: _l, _φ, ⟨v, hv, h⟩ => let ⟨vs, h1, h2⟩ := exL_elim h; ⟨v :: vs, ⟨hv, h1⟩, h2⟩
  | .seg _m :: _l, _φ, ⟨v, hv, h⟩ => let ⟨vs, h1, h2⟩ := exL_elim h; ⟨.agg v :: vs, ⟨⟨v, rfl, hv⟩, h1⟩, h2⟩
theorem fitsL_get : ∀ {l : List LK} {vs : List Value}, fitsL l vs → vs.length = l.length ∧ ∀ (i : Nat) k v, l[i]? = some k → vs[i]? = some v → k.ok v
  | [], [], _ => ⟨rfl, fun i k v h => by simp at h⟩
  | k :: l, v :: vs, h => by
    obtain ⟨i1, i2⟩ := fitsL_get h.2
    refine ⟨by simp [i1], fun i k' v' h1 h2 => ?_⟩
    cases i with
    | zero => simp at h1 h2; subst h1 h2; exact h.1
    | succ i => exact i2 i k' v' (by simpa using h1) (by simpa using h2)

/-- A tree of calls, branches, and what is asked on the way. -/
inductive T where
  | ret (r : SV)
  | call (f : FuncId) (args : List SV) (lo : Nat) (lks : List LK) (res : SV) (k : T)
  | branch (c : SC) (t e : T)
  | defd (v : SV) (k : T)
  | need (c : SC) (k : T)
  | pub (ty : TypeId) (cells : List SC) (lo : Nat) (k : T)
  | loop (lev : Nat) (init : List SV) (lo : Nat) (lks : List LK) (tmpl : List SV) (body : T)
  | again (lev : Nat) (vals : List SV)
  | fail (why : String)
  deriving Inhabited

/-- What is to be shown: of a result, and of what a loop's round hands on. -/
structure Ctx where
  R : World → Value → Prop
  ag : Nat → World → List Value → Prop
def Ctx.push (C : Ctx) (lev : Nat) (φ : World → List Value → Prop) : Ctx := { C with ag := fun j => if j = lev then φ else C.ag j }
def T.den (P : Program) (R : Ctx) : T → Env → World → Prop
  | .ret r, ν, k => match r.den ν with
    | some v => ∀ k', Up k k' → R.R k' v
    | none => False
  | .call f args lo lks res t, ν, k => match argsD ν args with
    | some vs => ∀ k', Up k k' → CallsG P f vs.toArray k' fun k'' v => exL lks fun us => res.den (ν.ext lo lks us) = some v ∧ t.den P R (ν.ext lo lks us) k''
    | none => False
  | .branch c t e, ν, k => match c.den ν with
    | some (.bool b) => (b = true → t.den P R ν k) ∧ (b = false → e.den P R ν k)
    | _ => False
  | .defd v t, ν, k => match v.den ν with
    | some _ => t.den P R ν k
    | none => False
  | .need c t, ν, k => match c.den ν with
    | some (.bool b) => b = true ∧ t.den P R ν k
    | _ => False
  | .pub ty cells lo t, ν, k => match cellsD ν cells with
    | some vs => ∀ n k', Up k k' → Blk k' n ty vs.toArray → t.den P R (ν.ext lo [.any] [.pointer (some ⟨n, 0, none⟩)]) k'
    | none => False
  | .loop lev init lo lks tmpl t, ν, k => match argsD ν init with
    | some vs => ∃ I : Nat → World → List Value → Prop, (∃ n, ∀ k', Up k k' → I n k' vs) ∧
        ∀ n k' vs', Up k k' → I n k' vs' → exL lks fun us => argsD (ν.ext lo lks us) tmpl = some vs' ∧
          t.den P (R.push lev fun k'' vs'' => ∃ m, m < n ∧ I m k'' vs'') (ν.ext lo lks us) k'
    | none => False
  | .again lev vals, ν, k => match argsD ν vals with
    | some vs => ∀ k', Up k k' → R.ag lev k' vs
    | none => False
  | .fail _, _, _ => False
theorem T.den_up {P : Program} : ∀ {t : T} {R : Ctx} {ν : Env} {k k' : World}, t.den P R ν k → Up k k' → t.den P R ν k' := by
  intro t
  induction t with
  | ret r => intro R ν k k' h hu; unfold T.den at h ⊢; split at h; · exact fun k'' h' => h k'' (hu.trans h')
             · exact h
  | call f args lo lks res t ih => intro R ν k k' h hu; unfold T.den at h ⊢; split at h; · exact fun k'' h' => h k'' (hu.trans h')
                                   · exact h
  | branch c t e iht ihe => intro R ν k k' h hu; unfold T.den at h ⊢; split at h; · exact ⟨fun hb => iht (h.1 hb) hu, fun hb => ihe (h.2 hb) hu⟩
                            · exact h
  | defd v t ih => intro R ν k k' h hu; unfold T.den at h ⊢; split at h; · exact ih h hu
                   · exact h
  | need c t ih => intro R ν k k' h hu; unfold T.den at h ⊢; split at h; · exact ⟨h.1, ih h.2 hu⟩
                   · exact h
  | pub ty cells lo t ih => intro R ν k k' h hu; unfold T.den at h ⊢; split at h; · exact fun n k'' h' => h n k'' (hu.trans h')
                            · exact h
  | loop lev init lo lks tmpl t ih => intro R ν k k' h hu; unfold T.den at h ⊢; split at h; · obtain ⟨I, ⟨n, h1⟩, h2⟩ := h; exact ⟨I, ⟨n, fun k'' h' => h1 k'' (hu.trans h')⟩, fun n k'' vs' h' => h2 n k'' vs' (hu.trans h')⟩
                                      · exact h
  | again lev vals => intro R ν k k' h hu; unfold T.den at h ⊢; split at h; · exact fun k'' h' => h k'' (hu.trans h')
                      · exact h
  | fail => intro R ν k k' h _; exact h

/-! ### Greater environments -/
structure Env.le (ρ ρ' : Env) : Prop where
  val : ∀ i v, ρ.val i = some v → ρ'.val i = some v
  blk : ∀ b n, ρ.blk b = some n → ρ'.blk b = some n
  kd : ∀ i k, ρ.kd i = some k → ρ'.kd i = some k
theorem Env.le.refl (ρ : Env) : ρ.le ρ := ⟨fun _ _ h => h, fun _ _ h => h, fun _ _ h => h⟩
theorem Env.le.trans {a b c : Env} (h : a.le b) (h' : b.le c) : a.le c := ⟨fun i v e => h'.val i v (h.val i v e), fun i v e => h'.blk i v (h.blk i v e), fun i v e => h'.kd i v (h.kd i v e)⟩
theorem Env.bare_le (ρ : Env) : ρ.bare.le ρ := ⟨fun _ _ h => h, fun _ _ h => (by cases h), fun _ _ h => h⟩
theorem capD_le {ρ ρ' : Env} (h : ρ.le ρ') : ∀ {is : List Nat} {vs : List Value}, capD ρ is = some vs → capD ρ' is = some vs
  | [], vs, hv => hv
  | i :: is, vs, hv => by
    simp only [capD] at hv ⊢
    split at hv
    · rename_i v us h1 h2
      rw [h.val _ _ h1, capD_le h h2]; exact hv
    · cases hv
theorem SC.den_le {ρ ρ' : Env} (h : ρ.le ρ') : ∀ {c : SC} {v : Value}, c.den ρ = some v → c.den ρ' = some v := by
  intro c
  induction c with
  | var i =>
    intro v hv
    simp only [SC.den] at hv ⊢
    cases hi : ρ.val i with
    | none => simp [hi] at hv
    | some x => rw [hi] at hv; rw [h.val _ _ hi]; exact hv
  | lit u => exact fun hv => hv
  | ptr b o =>
    intro v hv
    simp only [SC.den] at hv ⊢
    split at hv
    · rename_i n hn; rw [h.blk _ _ hn]; exact hv
    · cases hv
  | sl b o n c =>
    intro v hv
    simp only [SC.den] at hv ⊢
    split at hv
    · rename_i n hn; rw [h.blk _ _ hn]; exact hv
    · cases hv
  | seg i m => intro v hv; cases hv
  | fn f caps =>
    intro v hv
    simp only [SC.den] at hv ⊢
    split at hv
    · rename_i vs hvs; rw [capD_le h hvs]; exact hv
    · cases hv
  | bin cl op a b iha ihb => intro v hv; simp only [SC.den] at hv ⊢; split at hv; · (rename_i h1 h2; rw [iha h1, ihb h2]; exact hv)
                             · cases hv
  | idx a b iha ihb => intro v hv; simp only [SC.den] at hv ⊢; split at hv; · (rename_i h1 h2; rw [iha h1, ihb h2]; exact hv)
                       · cases hv
  | le a b iha ihb => intro v hv; simp only [SC.den] at hv ⊢; split at hv; · (rename_i h1 h2; rw [iha h1, ihb h2]; exact hv)
                      · cases hv
  | fit a b iha ihb => intro v hv; simp only [SC.den] at hv ⊢; split at hv; · (rename_i h1 h2; rw [iha h1, ihb h2]; exact hv)
                       · cases hv
  | byte a b iha ihb => intro v hv; simp only [SC.den] at hv ⊢; split at hv; · (rename_i h1 h2; rw [iha h1, ihb h2]; exact hv)
                        · cases hv
  | sub a b c iha ihb ihc => intro v hv; simp only [SC.den] at hv ⊢; split at hv; · (rename_i h1 h2 h3; rw [iha h1, ihb h2, ihc h3]; exact hv)
                             · cases hv
  | pick a b c iha ihb ihc => intro v hv; simp only [SC.den] at hv ⊢; split at hv; · (rename_i h1 h2 h3; rw [iha h1, ihb h2, ihc h3]; exact hv)
                              · cases hv
  | not a ih => intro v hv; simp only [SC.den, Option.bind_eq_some_iff] at hv ⊢; obtain ⟨x, h1, h2⟩ := hv; exact ⟨x, ih h1, h2⟩
  | neg a ih => intro v hv; simp only [SC.den, Option.bind_eq_some_iff] at hv ⊢; obtain ⟨x, h1, h2⟩ := hv; exact ⟨x, ih h1, h2⟩
  | conv k a ih => intro v hv; simp only [SC.den, Option.bind_eq_some_iff] at hv ⊢; obtain ⟨x, h1, h2⟩ := hv; exact ⟨x, ih h1, h2⟩
  | len a ih => intro v hv; simp only [SC.den, Option.bind_eq_some_iff] at hv ⊢; obtain ⟨x, h1, h2⟩ := hv; exact ⟨x, ih h1, h2⟩
  | isSl st a ih => intro v hv; simp only [SC.den, Option.bind_eq_some_iff] at hv ⊢; obtain ⟨x, h1, h2⟩ := hv; exact ⟨x, ih h1, h2⟩
  | nz a ih => intro v hv; simp only [SC.den, Option.bind_eq_some_iff] at hv ⊢; obtain ⟨x, h1, h2⟩ := hv; exact ⟨x, ih h1, h2⟩
theorem cellsD_le {ρ ρ' : Env} (h : ρ.le ρ') : ∀ {cs : List SC} {vs : List Value}, cellsD ρ cs = some vs → cellsD ρ' cs = some vs
  | [], vs, hv => hv
  | c :: cs, vs, hv => by
    obtain ⟨us, ws, h1, h2, rfl⟩ := cellsD_cons hv
    refine cellsD_cons_of ?_ (cellsD_le h h2)
    by_cases hseg : ∃ i m, c = .seg i m
    · obtain ⟨i, m, rfl⟩ := hseg
      simp only [cellsD] at h1 ⊢
      split at h1
      · rename_i avs k us' e1 e2 e3
        rw [h.val _ _ e1, h.kd _ _ e2]
        injection e3 with e3; subst e3
        exact h1
      · cases h1
    · have hn : ∀ i m, c = .seg i m → False := fun i m e => hseg ⟨i, m, e⟩
      rw [cellsD] at h1 ⊢
      · split at h1
        · rename_i hs
          split at h1
          · rename_i v us' e1 e2
            simp only [hs, if_true, SC.den_le h e1]
            simp only [cellsD] at e2 ⊢
            injection e2 with e2; subst e2
            exact h1
          · cases h1
        · cases h1
      · exact hn
      · exact hn
theorem partD_le {ρ ρ' : Env} (h : ρ.le ρ') : ∀ {p : Bool × List SC} {v : Value}, partD ρ p = some v → partD ρ' p = some v := by
  intro p v hv
  unfold partD at hv ⊢
  simp only [aggD_eq] at hv ⊢
  split at hv
  · split at hv
    · rename_i vs h1; simp only [cellsD_le h h1]; exact hv
    · cases hv
  · exact SC.den_le h hv
  · cases hv
theorem partsD_le {ρ ρ' : Env} (h : ρ.le ρ') : ∀ {ps : List (Bool × List SC)} {vs : List Value}, partsD ρ ps = some vs → partsD ρ' ps = some vs
  | [], vs, hv => hv
  | p :: ps, vs, hv => by
    simp only [partsD] at hv ⊢
    split at hv
    · rename_i v us h1 h2; rw [partD_le h h1, partsD_le h h2]; exact hv
    · cases hv
theorem SV.den_le {ρ ρ' : Env} (h : ρ.le ρ') {sv : SV} {v : Value} (hv : sv.den ρ = some v) : sv.den ρ' = some v := by
  cases sv with
  | one c => exact SC.den_le h hv
  | agg cs => simp only [aggD_eq, SV.den] at hv ⊢; split at hv; · (rename_i vs h1; rw [cellsD_le h h1]; exact hv)
              · cases hv
  | tup vs => simp only [SV.den] at hv ⊢; split at hv; · (rename_i vs h1; rw [partsD_le h h1]; exact hv)
              · cases hv
  | ifc t ag cs => simp only [SV.den] at hv ⊢; split at hv; · (rename_i v h1; rw [partD_le h h1]; exact hv)
                   · cases hv
  | top => cases hv
theorem argsD_le {ρ ρ' : Env} (h : ρ.le ρ') : ∀ {l : List SV} {vs : List Value}, argsD ρ l = some vs → argsD ρ' l = some vs
  | [], vs, hv => hv
  | p :: ps, vs, hv => by
    simp only [argsD] at hv ⊢
    split at hv
    · rename_i v us h1 h2; rw [SV.den_le h h1, argsD_le h h2]; exact hv
    · cases hv
theorem Ok.le {ρ ρ' : Env} (h : ρ.le ρ') {sv : SV} {v : Value} (hv : Ok ρ sv v) : Ok ρ' sv v := hv.imp id (SV.den_le h)

/-! ### No words of 64 bits -/
def cmpOp : BinOp → Bool
  | .eql | .neq | .lss | .leq | .gtr | .geq => true
  | _ => false
def wordless (kd : Nat → Option LK) : SC → Bool
  | .var i => match kd i with
    | some (.int .u64) => false
    | some _ => true
    | none => false
  | .lit v => v.noWord
  | .bin 0 op a _ => cmpOp op || wordless kd a
  | .neg a => wordless kd a
  | .conv k _ => k != .u64
  | .pick _ a b => wordless kd a && wordless kd b
  | _ => true
theorem binD_noWord {cl : Nat} {op : BinOp} {x y v : Value} (h : binD cl op x y = some v) (hx : cl = 0 → cmpOp op = true ∨ x.noWord = true) : v.noWord = true := by
  unfold binD at h
  split at h
  · rename_i k i k' j
    have hx := hx rfl
    have hk : cmpOp op = true ∨ ∀ n, (Value.int k n).noWord = true := by
      rcases hx with hx | hx
      · exact .inl hx
      · refine .inr fun n => ?_
        cases k <;> first | rfl | cases hx
    cases op <;> simp only at h
    all_goals (try split at h)
    all_goals (try cases h)
    all_goals first | rfl | (rcases hk with hk | hk <;> first | exact hk _ | cases hk)
  · cases op <;> simp only at h <;> cases h <;> rfl
  · cases op <;> simp only at h <;> cases h <;> rfl
  · cases h
theorem wordless_den {ρ : Env} (hE : ρ.Ok) : ∀ {c : SC} {v : Value}, wordless ρ.kd c = true → c.den ρ = some v → v.noWord = true := by
  intro c
  induction c with
  | var i =>
    intro v hw h
    simp only [SC.den] at h
    split at h
    · cases h
    · cases h
    · rename_i h1 h2
      simp only [wordless] at hw
      split at hw
      · cases hw
      · rename_i k hne hk
        have := hE i k v hk h
        cases k with
        | bool => obtain ⟨b, rfl⟩ := this; rfl
        | int k => obtain ⟨b, rfl⟩ := this; cases k <;> first | rfl | exact (hne rfl).elim
        | str => obtain ⟨b, rfl⟩ := this; rfl
        | slice => obtain ⟨A, n, c, rfl⟩ := this; rfl
        | any => exact this.2
        | seg m => obtain ⟨b, rfl, _⟩ := this; rfl
      · cases hw
  | lit u => intro v hw h; simp only [SC.den] at h; injection h with h; subst h; exact hw
  | ptr b o => intro v _ h; simp only [SC.den] at h; split at h <;> cases h; rfl
  | sl b o n c => intro v _ h; simp only [SC.den] at h; split at h <;> cases h; rfl
  | seg i m => intro v _ h; cases h
  | fn f caps => intro v _ h; simp only [SC.den] at h; split at h <;> cases h; rfl
  | bin cl op a b iha ihb =>
    intro v hw h
    simp only [SC.den] at h
    split at h
    · rename_i x y h1 h2
      refine binD_noWord h fun hc => ?_
      subst hc
      simp only [wordless, Bool.or_eq_true] at hw
      exact hw.imp id (fun hw => iha hw h1)
    · cases h
  | pick c a b ihc iha ihb =>
    intro v hw h
    simp only [wordless, Bool.and_eq_true] at hw
    simp only [SC.den] at h
    split at h
    · rename_i x y z h1 h2 h3
      obtain ⟨c0, rfl, rfl⟩ := pickD_eq h
      split
      · exact iha hw.1 h2
      · exact ihb hw.2 h3
    · cases h
  | neg a ih =>
    intro v hw h
    simp only [SC.den, Option.bind_eq_some_iff] at h
    obtain ⟨x, h1, h⟩ := h
    have := ih hw h1
    unfold negD at h
    split at h <;> cases h
    rename_i k n
    cases k <;> first | rfl | cases this
  | conv k a _ =>
    intro v hw h
    simp only [SC.den, Option.bind_eq_some_iff] at h
    obtain ⟨x, _, h⟩ := h
    unfold convD at h
    split at h <;> cases h
    cases k <;> first | rfl | (simp [wordless] at hw)
  | idx a b _ _ => intro v _ h; simp only [SC.den] at h; (split at h <;> first | (unfold idxD at h; split at h <;> cases h; rfl) | cases h)
  | le a b _ _ => intro v _ h; simp only [SC.den] at h; (split at h <;> first | (unfold leD at h; split at h <;> cases h; rfl) | cases h)
  | fit a b _ _ => intro v _ h; simp only [SC.den] at h; (split at h <;> first | (unfold fitD at h; split at h <;> cases h; rfl) | cases h)
  | byte a b _ _ => intro v _ h; simp only [SC.den] at h; (split at h <;> first | (unfold byteD at h; split at h <;> cases h; rfl) | cases h)
  | sub a b c _ _ _ => intro v _ h; simp only [SC.den] at h; (split at h <;> first | (unfold subD at h; split at h <;> cases h; rfl) | cases h)
  | not a _ => intro v _ h; simp only [SC.den, Option.bind_eq_some_iff] at h; obtain ⟨x, _, h⟩ := h; unfold notD at h; split at h <;> cases h; rfl
  | len a _ => intro v _ h; simp only [SC.den, Option.bind_eq_some_iff] at h; obtain ⟨x, _, h⟩ := h; unfold lenD at h; split at h <;> cases h <;> rfl
  | isSl st a _ => intro v _ h; simp only [SC.den, Option.bind_eq_some_iff] at h; obtain ⟨x, _, h⟩ := h; unfold isSlD at h; split at h <;> cases h <;> rfl
  | nz a _ => intro v _ h; simp only [SC.den, Option.bind_eq_some_iff] at h; obtain ⟨x, _, h⟩ := h; unfold nzD at h; split at h <;> cases h; rfl
theorem cells_noWord {ρ : Env} (hE : ρ.Ok) : ∀ {cs : List SC} {vs : List Value}, cs.all (wordless ρ.kd) = true → cellsD ρ cs = some vs → ∀ u ∈ vs, u.noWord = true
  | [], vs, _, h => by simp only [cellsD] at h; injection h with h; subst h; simp
  | c :: cs, vs, hw, h => by
    obtain ⟨a, b, h1, h2, rfl⟩ := cellsD_cons h
    simp only [List.all_cons, Bool.and_eq_true] at hw
    intro u hu
    rcases List.mem_append.1 hu with hu | hu
    · rcases cellsD_one hE h1 with ⟨i, m, vs, rfl, _, rfl, _, hm⟩ | ⟨v, hs, hd, rfl⟩
      · exact (hm u hu).2
      · simp at hu; subst hu; exact wordless_den hE hw.1 hd
    · exact cells_noWord hE hw.2 h2 u hu
end Go.Proofs.Ytpjakokgmgggiaa.Sy
