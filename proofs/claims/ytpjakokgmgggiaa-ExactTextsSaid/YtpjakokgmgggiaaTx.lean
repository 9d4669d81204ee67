/- The text of a fraction, or of a Surd, tells the number: plain law. -/
import Derived.Test.YtpjakokgmgggiaaS6
namespace Go.Proofs.Ytpjakokgmgggiaa
/-- A digit's byte. -/
def isDig (c : UInt8) : Bool := decide (48 ≤ c.toNat ∧ c.toNat ≤ 57)
/-- The number that digits say. -/
def valD (l : List UInt8) : Nat := l.foldl (fun a c => 10 * a + (c.toNat - 48)) 0
theorem digit_toNat (n : Nat) : (UInt8.ofNat (48 + n % 10)).toNat = 48 + n % 10 := by
  rw [UInt8.toNat_ofNat']
  exact Nat.mod_eq_of_lt (by omega)
theorem dig_all (n : Nat) : ∀ c ∈ dig n, isDig c = true := by
  induction n using Nat.strongRecOn with
  | ind n ih =>
    by_cases h : n = 0
    · rw [h, dig_zero]; simp
    · rw [dig_pos h]
      intro c hc
      rw [List.mem_append, List.mem_singleton] at hc
      rcases hc with hc | rfl
      · exact ih (n / 10) (by omega) c hc
      · unfold isDig; rw [digit_toNat]; simp; omega
theorem valD_dig (n : Nat) : valD (dig n) = n := by
  induction n using Nat.strongRecOn with
  | ind n ih =>
    by_cases h : n = 0
    · rw [h, dig_zero]; rfl
    · rw [dig_pos h]
      unfold valD
      rw [List.foldl_append]
      have := ih (n / 10) (by omega)
      unfold valD at this
      rw [this]
      simp only [List.foldl_cons, List.foldl_nil]
      rw [digit_toNat]
      omega
theorem dec_all (n : Nat) : ∀ c ∈ dec n, isDig c = true := by
  unfold dec
  split
  · intro c hc; rw [List.mem_singleton] at hc; subst hc; rfl
  · exact dig_all n
theorem valD_dec (n : Nat) : valD (dec n) = n := by
  unfold dec
  split
  · rename_i h; rw [h]; rfl
  · exact valD_dig n
theorem dec_nonnil (n : Nat) : dec n ≠ [] := by
  unfold dec
  split
  · simp
  · rename_i h; rw [dig_pos h]; simp
theorem isDig_ne {c : UInt8} (h : isDig c = true) {d : UInt8} (hd : isDig d = false) : c ≠ d := fun e => by rw [e, hd] at h; cases h
theorem takeDig {l : List UInt8} (h : ∀ c ∈ l, isDig c = true) {t : List UInt8} (ht : ∀ c, t.head? = some c → isDig c = false) : (l ++ t).takeWhile isDig = l := by
  rw [List.takeWhile_append_of_pos h]
  cases t with
  | nil => simp
  | cons c t => simp [ht c rfl]

/-- Behind the sign and the digits. -/
def tailT (d : Nat) : List UInt8 := if d = 1 then [] else 47 :: dec d
theorem tailT_head (d : Nat) : ∀ c, (tailT d).head? = some c → isDig c = false := by
  intro c h
  unfold tailT at h
  split at h
  · cases h
  · simp at h; subst h; rfl
theorem tailT_inj {d d' : Nat} (h : tailT d = tailT d') : d = d' := by
  unfold tailT at h
  split at h <;> split at h
  · omega
  · cases h
  · cases h
  · injection h with _ h
    rw [← valD_dec d, h, valD_dec]
theorem ratText_eq (q : Rat) : ratText q = (if q.num < 0 then [45] else []) ++ (dec q.num.natAbs ++ tailT q.den) := rfl
theorem ratText_head (q : Rat) : ((ratText q).head? = some 45) ↔ q.num < 0 := by
  rw [ratText_eq]
  split
  · rename_i h; simp [h]
  · rename_i h
    constructor
    · intro e
      have hn := dec_nonnil q.num.natAbs
      cases hd : dec q.num.natAbs with
      | nil => exact absurd hd hn
      | cons c l =>
        have := dec_all q.num.natAbs c (by rw [hd]; simp)
        rw [hd] at e
        simp at e
        subst e
        cases this
    · intro e; exact absurd e h
theorem ratText_inj {p q : Rat} (h : ratText p = ratText q) : p = q := by
  have hs : p.num < 0 ↔ q.num < 0 := by rw [← ratText_head p, ← ratText_head q, h]
  have h2 : dec p.num.natAbs ++ tailT p.den = dec q.num.natAbs ++ tailT q.den := by
    rw [ratText_eq, ratText_eq] at h
    by_cases hp : p.num < 0
    · rw [if_pos hp, if_pos (hs.1 hp)] at h
      exact List.append_cancel_left h
    · rw [if_neg hp, if_neg (fun e => hp (hs.2 e))] at h
      exact h
  have h3 : dec p.num.natAbs = dec q.num.natAbs := by
    have := congrArg (List.takeWhile isDig) h2
    rwa [takeDig (dec_all _) (tailT_head _), takeDig (dec_all _) (tailT_head _)] at this
  rw [h3] at h2
  have h4 := tailT_inj (List.append_cancel_left h2)
  have h5 : p.num.natAbs = q.num.natAbs := by rw [← valD_dec p.num.natAbs, h3, valD_dec]
  refine Rat.ext ?_ h4
  omega
/-- Without a sign. -/
def plainC (c : UInt8) : Bool := isDig c || c == 47
theorem dec_plain (n : Nat) : ∀ c ∈ dec n, plainC c = true := fun c hc => by unfold plainC; rw [dec_all n c hc]; rfl
theorem tailT_plain (n : Nat) : ∀ c ∈ tailT n, plainC c = true := by
  intro c hc
  unfold tailT at hc
  split at hc
  · cases hc
  · rw [List.mem_cons] at hc
    rcases hc with rfl | hc
    · rfl
    · exact dec_plain _ c hc
/-- The digits and the stroke of a text. -/
def core (q : Rat) : List UInt8 := dec q.num.natAbs ++ tailT q.den
theorem core_plain (q : Rat) : ∀ c ∈ core q, plainC c = true := by
  intro c hc
  unfold core at hc
  rw [List.mem_append] at hc
  rcases hc with hc | hc
  · exact dec_plain _ c hc
  · exact tailT_plain _ c hc
theorem core_nonnil (q : Rat) : core q ≠ [] := by unfold core; simp [dec_nonnil]
theorem ratText_core (q : Rat) : ratText q = (if q.num < 0 then [45] else []) ++ core q := rfl
theorem ratText_nonnil (q : Rat) : ratText q ≠ [] := by rw [ratText_core]; simp [core_nonnil]

/-! ### A text taken apart at its signs -/
def consH (c : UInt8) : List (List UInt8) → List (List UInt8)
  | [] => [[c]]
  | h :: t => (c :: h) :: t
def cutSigns : List UInt8 → List (List UInt8)
  | [] => [[]]
  | c :: l => if c = 43 then [] :: cutSigns l else if c = 45 then [] :: consH 45 (cutSigns l) else consH c (cutSigns l)
def terms (l : List UInt8) : List (List UInt8) := (cutSigns l).filter (· ≠ [])
/-- No signs. -/
def NoSign (l : List UInt8) : Prop := ∀ c ∈ l, c ≠ 43 ∧ c ≠ 45
theorem cutSigns_no : ∀ {x : List UInt8} (l : List UInt8), NoSign x → ∀ h t, cutSigns l = h :: t → cutSigns (x ++ l) = (x ++ h) :: t
  | [], l, _, h, t, e => e
  | c :: x, l, hx, h, t, e => by
    have hc := hx c (by simp)
    have hx' : NoSign x := fun d hd => hx d (by simp [hd])
    have ih := cutSigns_no l hx' h t e
    show cutSigns (c :: (x ++ l)) = _
    unfold cutSigns
    rw [if_neg hc.1, if_neg hc.2, ih]
    rfl
/-- Nothing, or a sign ahead. -/
def Begins (l : List UInt8) : Prop := l = [] ∨ l.head? = some 43 ∨ l.head? = some 45
theorem cutSigns_begins {l : List UInt8} (h : Begins l) : ∃ t, cutSigns l = [] :: t := by
  cases l with
  | nil => exact ⟨[], rfl⟩
  | cons c l =>
    unfold Begins at h
    simp only [List.head?_cons, Option.some.injEq, reduceCtorEq, false_or] at h
    unfold cutSigns
    rcases h with rfl | rfl
    · exact ⟨_, by rw [if_pos rfl]⟩
    · exact ⟨_, by rw [if_neg (by decide), if_pos rfl]⟩
theorem terms_no {x l : List UInt8} (hx : NoSign x) (hne : x ≠ []) (h : Begins l) : terms (x ++ l) = x :: terms l := by
  obtain ⟨t, ht⟩ := cutSigns_begins h
  unfold terms
  rw [cutSigns_no l hx [] t ht, ht]
  simp [hne]
theorem terms_plus {l : List UInt8} : terms (43 :: l) = terms l := by
  unfold terms
  rw [cutSigns, if_pos rfl]
  simp
theorem cutSigns_ne (l : List UInt8) : ∃ h t, cutSigns l = h :: t := by
  induction l with
  | nil => exact ⟨_, _, rfl⟩
  | cons c l ih =>
    obtain ⟨h, t, e⟩ := ih
    unfold cutSigns
    rw [e]
    split
    · exact ⟨_, _, rfl⟩
    · split
      · exact ⟨_, _, rfl⟩
      · exact ⟨_, _, rfl⟩
theorem terms_minus {x l : List UInt8} (hx : NoSign x) (h : Begins l) : terms (45 :: (x ++ l)) = (45 :: x) :: terms l := by
  obtain ⟨t, ht⟩ := cutSigns_begins h
  unfold terms
  rw [cutSigns, if_neg (by decide), if_pos rfl, cutSigns_no l hx [] t ht, ht]
  simp [consH]
/-- A part of a text. -/
theorem plain_no {l : List UInt8} (h : ∀ c ∈ l, plainC c = true) : NoSign l := fun c hc => by
  have := h c hc
  refine ⟨fun e => ?_, fun e => ?_⟩
  · rw [e] at this; cases this
  · rw [e] at this; cases this
def Mark (m : List UInt8) : Prop := m = [] ∨ m = [114, 50] ∨ m = [114, 51] ∨ m = [114, 54]
theorem Mark.no {m : List UInt8} (h : Mark m) : NoSign m := by
  rcases h with rfl | rfl | rfl | rfl <;> intro c hc <;> simp at hc
  all_goals (rcases hc with rfl | rfl <;> exact ⟨by decide, by decide⟩)
theorem NoSign.append {a b : List UInt8} (ha : NoSign a) (hb : NoSign b) : NoSign (a ++ b) := fun c hc => by
  rw [List.mem_append] at hc
  exact hc.elim (ha c) (hb c)
theorem terms_part {q : Rat} {m l : List UInt8} (hm : Mark m) (h : Begins l) : terms ((ratText q ++ m) ++ l) = (ratText q ++ m) :: terms l := by
  have hn := NoSign.append (plain_no (core_plain q)) hm.no
  rw [ratText_core]
  split
  · have := terms_minus (x := core q ++ m) (l := l) hn h
    simpa using this
  · have := terms_no (x := core q ++ m) (l := l) hn (by simp [core_nonnil]) h
    simpa using this

/-- The parts that are not 0. -/
def items : List (Rat × List UInt8) → List (List UInt8)
  | [] => []
  | (q, m) :: l => if q = 0 then items l else (ratText q ++ m) :: items l
def tail1 : List (Rat × List UInt8) → List UInt8
  | [] => []
  | (q, m) :: l => if q = 0 then tail1 l else (if 0 < q.num.sign then [43] else []) ++ ((ratText q ++ m) ++ tail1 l)
def text1 : List (Rat × List UInt8) → List UInt8
  | [] => []
  | (q, m) :: l => if q = 0 then text1 l else (ratText q ++ m) ++ tail1 l
theorem sign_pos {q : Rat} (h0 : q ≠ 0) : 0 < q.num.sign ↔ ¬ q.num < 0 := by
  have h1 : q.num ≠ 0 := fun e => h0 (Rat.num_eq_zero.1 e)
  rw [Int.sign_pos_iff]
  omega
theorem tail1_begins : ∀ L : List (Rat × List UInt8), Begins (tail1 L)
  | [] => .inl rfl
  | (q, m) :: l => by
    unfold tail1
    split
    · exact tail1_begins l
    · rename_i h0
      right
      by_cases h : q.num < 0
      · right
        rw [if_neg (fun e => (sign_pos h0).1 e h), ratText_core, if_pos h]
        simp
      · left
        rw [if_pos ((sign_pos h0).2 h)]
        simp
theorem terms_nil : terms [] = [] := rfl
theorem terms_tail1 : ∀ L : List (Rat × List UInt8), (∀ x ∈ L, Mark x.2) → terms (tail1 L) = items L
  | [], _ => rfl
  | (q, m) :: l, hL => by
    have ih := terms_tail1 l fun x hx => hL x (by simp [hx])
    unfold tail1 items
    split
    · exact ih
    · have := terms_part (q := q) (hL (q, m) (by simp)) (tail1_begins l)
      rw [ih] at this
      split
      · rw [List.singleton_append, terms_plus, this]
      · rw [List.nil_append, this]
theorem terms_text1 : ∀ L : List (Rat × List UInt8), (∀ x ∈ L, Mark x.2) → terms (text1 L) = items L
  | [], _ => rfl
  | (q, m) :: l, hL => by
    unfold text1 items
    split
    · exact terms_text1 l fun x hx => hL x (by simp [hx])
    · rw [terms_part (q := q) (hL (q, m) (by simp)) (tail1_begins l), terms_tail1 l fun x hx => hL x (by simp [hx])]
theorem addPart_text (s : List UInt8) (hs : s ≠ []) (q : Rat) (m : List UInt8) : addPart s q m = s ++ tail1 [(q, m)] := by
  unfold addPart tail1
  split
  · simp [tail1]
  · by_cases h : 0 < q.num.sign
    · simp [hs, h, tail1]
    · simp [h, tail1]
theorem addPart_nil (q : Rat) (m : List UInt8) : addPart [] q m = text1 [(q, m)] := by
  unfold addPart text1
  split <;> simp [text1, tail1]
theorem text1_snoc : ∀ (L : List (Rat × List UInt8)) (q : Rat) (m : List UInt8), addPart (text1 L) q m = text1 (L ++ [(q, m)])
  | [], q, m => addPart_nil q m
  | (p, n) :: l, q, m => by
    have tl : ∀ L : List (Rat × List UInt8), tail1 (L ++ [(q, m)]) = tail1 L ++ tail1 [(q, m)] := by
      intro L
      induction L with
      | nil => rfl
      | cons x L ih =>
        obtain ⟨a, b⟩ := x
        rw [List.cons_append, tail1, ih]
        conv => rhs; rw [tail1]
        split
        · rfl
        · simp only [List.append_assoc]
    rw [List.cons_append]
    unfold text1
    split
    · exact text1_snoc l q m
    · rw [addPart_text _ (by simp [ratText_nonnil]), tl]
      simp only [List.append_assoc]
def partsL (v : Q4) : List (Rat × List UInt8) := [(v.a, []), (v.b, [114, 50]), (v.c, [114, 51]), (v.d, [114, 54])]
theorem body_text (v : Q4) : body v 4 = text1 (partsL v) := by
  show addPart (addPart (addPart (addPart [] v.a []) v.b [114, 50]) v.c [114, 51]) v.d [114, 54] = _
  have e : ([] : List UInt8) = text1 [] := rfl
  conv => lhs; rw [show addPart [] v.a [] = text1 [(v.a, [])] from addPart_nil _ _]
  rw [text1_snoc, text1_snoc, text1_snoc]
  rfl
theorem partsL_mark (v : Q4) : ∀ x ∈ partsL v, Mark x.2 := by
  intro x hx
  simp only [partsL, List.mem_cons, List.not_mem_nil, or_false] at hx
  rcases hx with rfl | rfl | rfl | rfl
  · exact .inl rfl
  · exact .inr (.inl rfl)
  · exact .inr (.inr (.inl rfl))
  · exact .inr (.inr (.inr rfl))
/-- A number's part behind a mark, in a list of terms. -/
def pick (m : List UInt8) (L : List (List UInt8)) : List (List UInt8) := (L.filter fun x => x.dropWhile (fun c => c != 114) == m).map fun x => x.takeWhile (fun c => c != 114)
theorem ratText_no114 (q : Rat) : ∀ c ∈ ratText q, (c != 114) = true := by
  intro c hc
  rw [ratText_core, List.mem_append] at hc
  rcases hc with hc | hc
  · split at hc
    · simp at hc; subst hc; rfl
    · cases hc
  · have := core_plain q c hc
    simp only [bne_iff_ne]
    intro e
    rw [e] at this
    cases this
theorem drop_part (q : Rat) {m : List UInt8} (hm : Mark m) : (ratText q ++ m).dropWhile (fun c => c != 114) = m := by
  rw [List.dropWhile_append_of_pos (ratText_no114 q)]
  rcases hm with rfl | rfl | rfl | rfl <;> rfl
theorem take_part (q : Rat) {m : List UInt8} (hm : Mark m) : (ratText q ++ m).takeWhile (fun c => c != 114) = ratText q := by
  rw [List.takeWhile_append_of_pos (ratText_no114 q)]
  rcases hm with rfl | rfl | rfl | rfl <;> simp
theorem pick_items (m : List UInt8) : ∀ L : List (Rat × List UInt8), (∀ x ∈ L, Mark x.2) → pick m (items L) = ((L.filter fun x => x.2 == m).filter fun x => x.1 ≠ 0).map fun x => ratText x.1
  | [], _ => rfl
  | (q, n) :: l, hL => by
    have ih := pick_items m l fun x hx => hL x (by simp [hx])
    have hm := hL (q, n) (by simp)
    unfold items
    by_cases h0 : q = 0
    · rw [if_pos h0, ih, List.filter_cons]
      split
      · simp [h0]
      · rfl
    · rw [if_neg h0]
      unfold pick
      rw [List.filter_cons, drop_part q hm, List.filter_cons]
      by_cases e : n = m
      · subst e
        simp only [beq_self_eq_true, if_true, List.map_cons, take_part q hm]
        rw [List.filter_cons]
        simp only [ne_eq, h0, not_false_eq_true, decide_true, if_true, List.map_cons, List.cons.injEq, true_and]
        exact ih
      · have e' : (n == m) = false := by simpa using e
        simp only [e']
        exact ih
theorem part_of {p q : Rat} (h : (([p].filter fun x => x ≠ 0).map ratText) = (([q].filter fun x => x ≠ 0).map ratText)) : p = q := by
  by_cases hp : p = 0 <;> by_cases hq : q = 0 <;> simp [hp, hq] at h
  · rw [hp, hq]
  · exact ratText_inj h
theorem items_inj {u v : Q4} (h : items (partsL u) = items (partsL v)) : u = v := by
  have key := fun m => congrArg (pick m) h
  simp only [pick_items _ _ (partsL_mark u), pick_items _ _ (partsL_mark v)] at key
  have ka := key []
  have kb := key [114, 50]
  have kc := key [114, 51]
  have kd := key [114, 54]
  simp only [partsL, List.filter_cons, List.filter_nil] at ka kb kc kd
  have b1 : (([] : List UInt8) == [114, 50]) = false := rfl
  refine Q4.ext' (part_of ?_) (part_of ?_) (part_of ?_) (part_of ?_)
  · by_cases h1 : u.a = 0 <;> by_cases h2 : v.a = 0 <;> simp_all
  · by_cases h1 : u.b = 0 <;> by_cases h2 : v.b = 0 <;> simp_all
  · by_cases h1 : u.c = 0 <;> by_cases h2 : v.c = 0 <;> simp_all
  · by_cases h1 : u.d = 0 <;> by_cases h2 : v.d = 0 <;> simp_all
theorem ratText_zero : ratText 0 = [48] := by
  rw [ratText_eq]
  have e1 : (0 : Rat).num = 0 := rfl
  have e2 : (0 : Rat).den = 1 := rfl
  rw [e1, e2]
  rfl
theorem terms_surd (v : Q4) : terms (surdText v) = if items (partsL v) = [] then [[48]] else items (partsL v) := by
  unfold surdText
  rw [body_text]
  have ht := terms_text1 (partsL v) (partsL_mark v)
  by_cases h : text1 (partsL v) = []
  · rw [if_pos h]
    rw [h, terms_nil] at ht
    rw [if_pos ht.symm]
    rfl
  · rw [if_neg h, ht]
    rw [if_neg]
    intro e
    apply h
    have key : ∀ L : List (Rat × List UInt8), items L = [] → text1 L = [] := by
      intro L
      induction L with
      | nil => intro _; rfl
      | cons x L ih =>
        obtain ⟨q, m⟩ := x
        unfold items text1
        split
        · exact ih
        · intro e; cases e
    exact key _ e
theorem items_no_zero : ∀ L : List (Rat × List UInt8), (∀ x ∈ L, Mark x.2) → items L ≠ [[48]] := by
  intro L hL e
  have key : ∀ L : List (Rat × List UInt8), (∀ x ∈ L, Mark x.2) → [48] ∉ items L := by
    intro L
    induction L with
    | nil => intro _ h; cases h
    | cons x L ih =>
      obtain ⟨q, m⟩ := x
      intro hL hm
      unfold items at hm
      split at hm
      · exact ih (fun x hx => hL x (by simp [hx])) hm
      · rename_i h0
        rw [List.mem_cons] at hm
        rcases hm with hm | hm
        · have := congrArg (List.takeWhile fun c => c != 114) hm
          rw [take_part q (hL (q, m) (by simp))] at this
          apply h0
          apply ratText_inj
          rw [ratText_zero, ← this]
          rfl
        · exact ih (fun x hx => hL x (by simp [hx])) hm
  exact key L hL (by rw [e]; simp)
/-- The text tells the number. -/
theorem surdText_inj {u v : Q4} (h : surdText u = surdText v) : u = v := by
  have h1 := congrArg terms h
  rw [terms_surd, terms_surd] at h1
  apply items_inj
  split at h1 <;> split at h1
  · rename_i a b; rw [a, b]
  · exact absurd h1.symm (items_no_zero _ (partsL_mark v))
  · exact absurd h1 (items_no_zero _ (partsL_mark u))
  · exact h1
end Go.Proofs.Ytpjakokgmgggiaa
