/- A symbolic executor of the model's code: regions that draw their order are sound. -/
import Derived.Test.YtpjakokgmgggiaaGreatSuSy9
namespace Go.Proofs.YtpjakokgmgggiaaGreat.Sy
open Go.RowKit
theorem PubOk.le {ρ ρ' : Env} {hp : Nat→Option SB} (h : PubOk ρ hp) (he : ρ.le ρ') : PubOk ρ' hp:=fun b blk hb hp=>by
 obtain ⟨n,h1,h2⟩:=h b blk hb hp
 exact ⟨n,he.blk _ _ h1,he.val _ _ h2⟩
def BlkRel (ρ : Env) (k0 : Anc) (k w : World) (s : St) (b : Nat) : Prop :=
 ∀ blk,s.heap[b]? = some blk→∃ n vs,ρ.blk b = some n∧cellsD ρ blk.cells = some vs∧Blk w n blk.ty vs.toArray ∧
  (blk.pub = false→k0.heap.size≤n∧k.heap[n]? = some dead)∧(blk.pub = true→Blk k n blk.ty vs.toArray∧ρ.val blk.pv = some (.pointer (some ⟨n,0,none⟩)))
theorem BlkRel.mono {ρ ρ' : Env} {k0 : Anc} {k k' w w' : World} {s : St} {b : Nat} (h : BlkRel ρ k0 k w s b) (he : ρ.le ρ') (hk : Below k.heap.size k k') (hw : ∀ n,n < w.heap.size→ρ.blk b = some n→w'.heap[n]? = w.heap[n]?) : BlkRel ρ' k0 k' w' s b:=by
 intro blk hb
 obtain ⟨n,vs,h1,h2,h3,h4,h5⟩:=h blk hb
 refine ⟨n,vs,he.blk _ _ h1,cellsD_le he h2,(hw n h3.lt h1).trans h3,fun hp=>?_,fun hp=>?_⟩
 ·obtain ⟨a1,a2⟩:=h4 hp
  exact ⟨a1,(hk.block _ (heap_lt a2)).trans a2⟩
 ·obtain ⟨a1,a2⟩:=h5 hp
  exact ⟨(hk.block _ a1.lt).trans a1,he.val _ _ a2⟩
def stAt (H : Hist) (st : St) (p : Nat) : St:=match H[p]? with
 | some x=>x.1
 | none=>st
structure Fw (ρ : Env) (s s' : St) (oe : Option Ent) : Prop where
 tmps : ∀ ρ',ρ.le ρ'→∀ t,(∀ e,oe = some e→e.wt ≠ some t)→∀ v,Ok ρ' (s.tm t) v→Ok ρ' (s'.tm t) v
 heap : ∀ b,(∀ e,oe = some e→e.wb ≠ some b)→s'.heap[b]? = s.heap[b]?
 size : s'.tmps.length = s.tmps.length
 grow : s.heap.length≤s'.heap.length
 al : ∀ e b,oe = some e→e.al = some b→e.wb = some b∧b = s.heap.length∧s'.heap.length = s.heap.length+1
def ReadNow (P : Program) (ρ : Env) (s : St) (o : Oper) (x : Value) : Prop:=∃ sa i sz j t m,(stepOp P s.tm s.hp o = .read sa i sz j t∨∃ v,sa = .slr v∧stepOp P s.tm s.hp o = .getw v i sz j t)∧ShapeOk P t x ∧
 ((∃ A n c kk I,sa.den ρ = some (.slice A n c)∧i.den ρ = some (.int kk I)∧ReadAt ρ.mem A (I.toNat*sz+j) m x) ∨
  (∃ v q xs kk I,sa = .slr v∧q ∈ s.rows∧q.v = v∧q.s = sz∧ρ.val q.x = some (.agg xs)∧i.den ρ = some (.int kk I)∧ReadIn xs (I.toNat*sz+j) m x))
theorem ReadAt.le {m m' : Addr→Option Value} (h : ∀ A v,m A = some v→m' A = some v) {A : Option Addr} {p k : Nat} {x : Value} (hr : ReadAt m A p k x) : ReadAt m' A p k x:=⟨hr.1,fun q u hu=>cellAt_le h (hr.2 q u hu)⟩
theorem ReadNow.le {P : Program} {ρ ρ' : Env} {s : St} {o : Oper} {x : Value} (h : ReadNow P ρ s o x) (hl : ρ.le ρ') : ReadNow P ρ' s o x:=by
 obtain ⟨sa,i,sz,j,t,m,h1,h2,h3⟩:=h
 refine ⟨sa,i,sz,j,t,m,h1,h2,?_⟩
 rcases h3 with ⟨A,n,c,kk,I,e1,e2,e3⟩ | ⟨v,q,xs,kk,I,e1,e2,e3,e4,e5,e6,e7⟩
 ·exact .inl ⟨A,n,c,kk,I,SC.den_le hl e1,SC.den_le hl e2,e3.le hl.mem⟩
 ·exact .inr ⟨v,q,xs,kk,I,e1,e2,e3,e4,hl.val _ _ e5,SC.den_le hl e6,e7⟩
theorem ReadNow.run {P : Program} {ρ : Env} {s : St} {o : Oper} {x : Value} {a : Act} {w k : World} {base : Nat} (h : ReadNow P ρ s o x) (hE : ρ.Ok) (hpub : PubOk ρ s.hp) (hk : Knows1 ρ s.tm a o) (hm : ∀ A v,ρ.mem A = some v→w.cell? A = some v)
 (hr : ∀ q ∈ s.rows,RowOk ρ base k w q) : (execOp a.eval o).run P w = .ok (.value x) w:=by
 obtain ⟨sa,i,sz,j,t,m,h1,h2,h3⟩:=h
 have hst:=step_sound (P:=P) (w:=w) (hp:=s.hp) hE hpub hk
 have hp : ∃ p,(SC.elem sa i sz j).den ρ = some p:=by
  rcases h1 with h1 | ⟨v,rfl,h1⟩
  ·exact elem_of_read hE hpub hk h1
  ·exact elem_of_getw hE hpub hk h1
 have hrun : ∀ b o' n c kk I,sa.den ρ = some (.slice (some ⟨b,o',none⟩) n c)→i.den ρ = some (.int kk I)→0≤I→I < n→(∀ (p : Nat) u,x.cells[p]? = some u→w.cell? ⟨b,o'+(I.toNat*sz+j+p),none⟩ = some u)→(execOp a.eval o).run P w = .ok (.value x) w:=by
  intro b o' n c kk I e1 e2 e3 e4 e5
  rcases h1 with h1 | ⟨v,rfl,h1⟩
  ·rw [h1] at hst; exact hst b o' n c kk I x e1 e2 e3 e4 h2 e5
  ·rw [h1] at hst; exact hst b o' n c kk I x e1 e2 e3 e4 h2 e5
 obtain ⟨p,hp⟩:=hp
 simp only [SC.den] at hp
 split at hp
 ·rename_i va vi hva hvi
  obtain ⟨b,o',n,c,kk,I,rfl,rfl,h0,hI,rfl⟩:=elemD_eq hp
  rcases h3 with ⟨A,n',c',kk',I',e1,e2,e3⟩ | ⟨v,q,xs,kk',I',rfl,e2,e3,e4,e5,e6,e7⟩
  ·rw [hva] at e1; injection e1 with e1; injection e1 with e1 _ _; subst e1
   rw [hvi] at e2; injection e2 with e2; injection e2 with _ e2; subst e2
   exact hrun b o' n c kk I hva hvi h0 hI fun p u hu=>cellAt_cell hm (e3.2 p u hu)
  ·rw [hvi] at e6; injection e6 with e6; injection e6 with _ e6; subst e6
   obtain ⟨A2,n2,c2,xs2,g1,g2,_,_,_,g6,g7,g8⟩:=hr q e2
   rw [e5] at g2; injection g2 with g2; injection g2 with g2; subst g2
   have hva' : ρ.val v = some (.slice (some ⟨b,o',none⟩) n c):=by
    have hva2:=hva
    simp only [SC.den] at hva2
    split at hva2
    ·cases hva2
    ·cases hva2
    ·exact hva2
   rw [e3,hva'] at g1; injection g1 with g1; injection g1 with g1 _ _; subst g1
   rcases g8 with ⟨g8,_⟩ | ⟨g,cs,g8,_,hB,_,g4,_⟩
   ·cases g8
   ·injection g8 with g8; injection g8 with e8 e9 _; subst e8 e9
    exact hrun b 0 n c kk I hva hvi h0 hI fun p u hu=>by
     rw [hB.cell,Nat.zero_add]
     exact g4 _ u (e7.2 p u hu)
 ·cases hp
def Pend (P : Program) (ops : Array Oper) (ρ : Env) (s s' : St) (e : Ent) : Prop :=
 ∃ o,ops[e.i]? = some o∧e.rt = tmpsOf ops o∧e.wt = o.dst ∧
  ((guardOf ops s o = .no∧e.wb = none∧e.al = none∧s' = s.put o.dst undefS) ∨
   (guardOf ops s o = .yes ∧
     ((∃ v v' needs,stepOp P s.tm s.hp o = .pure v needs∧(∀ c ∈ needs,c.den ρ = some (.bool true))∧((simple v = true∧v' = v)∨∃ x,v.den ρ = some x∧v'.den ρ = some x)∧e.wb = none∧e.al = none∧s' = s.put o.dst v') ∨
      (∃ res x,ReadNow P ρ s o x∧res.den ρ = some x∧e.wb = none∧e.al = none∧s' = s.put o.dst res) ∨
      (∃ v b blk,stepOp P s.tm s.hp o = .load v b∧e.rb = some b∧s.heap[b]? = some blk∧e.wb = none∧e.al = none∧s' = s.put o.dst v) ∨
      (∃ ty cs sl,stepOp P s.tm s.hp o = .alloc ty cs sl∧cs.all (wordless ρ.kd) = true∧e.wb = some s.heap.length∧e.al = some s.heap.length∧s' = (s.new ty cs).put o.dst (resV sl s.heap.length)) ∨
      (∃ b cs blk,stepOp P s.tm s.hp o = .store b cs∧s.heap[b]? = some blk∧blk.pub = false∧cs.all (wordless ρ.kd) = true∧e.wb = some b∧e.al = none∧s' = (s.setB b cs).put o.dst undefS))))
structure DRel (P : Program) (ops : Array Oper) (H : Hist) (st : St) (D : Nat→Prop) (nb0 : Nat) (ρ : Env) (k0 : Anc) (w0 k : World) (a : Act) (w : World) : Prop where
 anc : k0.ρ.le ρ
 up : Up k0.kk k
 dep : k0.d≤st.depth
 env : ρ.Ok
 kinds : ∀ i,ρ.kd i = st.kinds[i]?
 vals : ∀ i,st.kinds.length≤i→ρ.val i = none
 inj : ∀ b b' n,k0.heap.size≤n→ρ.blk b = some n→ρ.blk b' = some n→b = b'
 size : a.tmps.size = st.tmps.length
 defers : a.defers = []
 sees : Sees k w
 base : k0.heap.size = w0.heap.size
 kb : Below k0.heap.size k0 k
 wb : Below w0.heap.size w0 w
 lt : ∀ b n,ρ.blk b = some n→n < w.heap.size
 nb : ∀ p,nb0≤(stAt H st p).heap.length
 blks : ∀ b n,ρ.blk b = some n→b < nb0∨∃ (q : Nat) (s : St) (e : Ent),H[q]? = some (s,some e)∧e.al = some b∧D e.i
 tmps : ∀ t p,p≤H.length→(∀ (q : Nat) (s : St) (e : Ent),H[q]? = some (s,some e)→e.wt = some t→(D e.i↔q < p))→Ok ρ ((stAt H st p).tm t) (a.tmps.getD t undef)
 heap : ∀ b p,p≤H.length→(∀ (q : Nat) (s : St) (e : Ent),H[q]? = some (s,some e)→e.wb = some b→(D e.i↔q < p))→BlkRel ρ k0 k w (stAt H st p) b
 uniq : ∀ (q q' : Nat) (s s' : St) (e e' : Ent),H[q]? = some (s,some e)→H[q']? = some (s',some e')→e.i = e'.i→q = q'
 conf : ∀ (q q' : Nat) (s s' : St) (e e' : Ent),q < q'→H[q]? = some (s,some e)→H[q']? = some (s',some e')→conflict e e' = true→((masks ops).getD e'.i 0).testBit e.i = true
 pend : ∀ (q : Nat) (s : St) (e : Ent),H[q]? = some (s,some e)→¬ D e.i→Pend P ops ρ s (stAt H st (q+1)) e
 dsub : ∀ i,D i→∃ (q : Nat) (s : St) (e : Ent),H[q]? = some (s,some e)∧e.i = i
 dcl : Closed ops D
 pubs : ∀ p,PubOk ρ (stAt H st p).hp
 fw : ∀ (q : Nat) (s : St) (oe : Option Ent),H[q]? = some (s,oe)→Fw ρ s (stAt H st (q+1)) oe
 mem : ∀ A v,ρ.mem A = some v→k.cell? A = some v
 rows : RowsOk ρ k0.heap.size k w st.rows
 rowsEq : ∀ p,(stAt H st p).rows = st.rows
section
variable {P : Program} {ops : Array Oper} {H : Hist} {st : St} {D : Nat→Prop} {nb0 : Nat} {ρ : Env} {k0 : Anc} {w0 k w : World} {a : Act}
theorem stAt_at {H : Hist} {st s : St} {oe : Option Ent} {q : Nat} (h : H[q]? = some (s,oe)) : stAt H st q = s:=by unfold stAt; rw [h]
theorem stAt_end (H : Hist) (st : St) : stAt H st H.length = st:=by unfold stAt; rw [List.getElem?_eq_none (Nat.le_refl _)]
theorem Ok.den_bool {ρ : Env} {b : Bool} {v : Value} (h : Ok ρ (.one (.lit (.bool b))) v) : v = .bool b:=by
 rcases h with h | h
 ·cases h
 ·simp only [SV.den,SC.den] at h; injection h with h; exact h.symm
theorem DRel.fwT (h : DRel P ops H st D nb0 ρ k0 w0 k a w) {ρ' : Env} (hle : ρ.le ρ') {t : Tmp} {v : Value} {p : Nat} : ∀ {p' : Nat},p≤p'→p'≤H.length→(∀ (q : Nat) (s : St) (e : Ent),p≤q→q < p'→H[q]? = some (s,some e)→e.wt ≠ some t)→Ok ρ' ((stAt H st p).tm t) v→Ok ρ' ((stAt H st p').tm t) v:=by
 intro p'
 induction p' with
 | zero=>intro h1 _ _ hv; have : p = 0:=by omega
         subst this; exact hv
 | succ p' ih =>
  intro h1 h2 h3 hv
  by_cases e : p = p'+1
  ·subst e; exact hv
  ·have hv':=ih (by omega) (by omega) (fun q s e hq hq'=>h3 q s e hq (by omega)) hv
   obtain ⟨⟨s,oe⟩,hx⟩ : ∃ x,H[p']? = some x:=⟨_,List.getElem?_eq_getElem (by omega)⟩
   have hf:=h.fw p' s oe hx
   rw [stAt_at hx] at hv'
   exact hf.tmps ρ' hle t (fun e he=>by subst he; exact h3 p' s e (by omega) (by omega) hx) v hv'
theorem DRel.fwH (h : DRel P ops H st D nb0 ρ k0 w0 k a w) {b : Nat} {p : Nat} : ∀ {p' : Nat},p≤p'→p'≤H.length→(∀ (q : Nat) (s : St) (e : Ent),p≤q→q < p'→H[q]? = some (s,some e)→e.wb ≠ some b)→(stAt H st p').heap[b]? = (stAt H st p).heap[b]?:=by
 intro p'
 induction p' with
 | zero=>intro h1 _ _; have : p = 0:=by omega
         subst this; rfl
 | succ p' ih =>
  intro h1 h2 h3
  by_cases e : p = p'+1
  ·subst e; rfl
  ·have hv':=ih (by omega) (by omega) (fun q s e hq hq'=>h3 q s e hq (by omega))
   obtain ⟨⟨s,oe⟩,hx⟩ : ∃ x,H[p']? = some x:=⟨_,List.getElem?_eq_getElem (by omega)⟩
   have hf:=h.fw p' s oe hx
   rw [stAt_at hx] at hv'
   exact (hf.heap b (fun e he=>by subst he; exact h3 p' s e (by omega) (by omega) hx)).trans hv'
theorem DRel.fwL (h : DRel P ops H st D nb0 ρ k0 w0 k a w) {p : Nat} : ∀ {p' : Nat},p≤p'→p'≤H.length→(stAt H st p).heap.length≤(stAt H st p').heap.length:=by
 intro p'
 induction p' with
 | zero=>intro h1 _; have : p = 0:=by omega
         subst this; exact Nat.le_refl _
 | succ p' ih =>
  intro h1 h2
  by_cases e : p = p'+1
  ·subst e; exact Nat.le_refl _
  ·have hv':=ih (by omega) (by omega)
   obtain ⟨⟨s,oe⟩,hx⟩ : ∃ x,H[p']? = some x:=⟨_,List.getElem?_eq_getElem (by omega)⟩
   have hf:=h.fw p' s oe hx
   rw [stAt_at hx] at hv'
   exact Nat.le_trans hv' hf.grow
theorem DRel.fwS (h : DRel P ops H st D nb0 ρ k0 w0 k a w) : ∀ {n p : Nat},p+n = H.length→(stAt H st p).tmps.length = st.tmps.length:=by
 intro n
 induction n with
 | zero=>intro p hp; have : p = H.length:=by omega
         subst this; rw [stAt_end]
 | succ n ih =>
  intro p hp
  obtain ⟨⟨s,oe⟩,hx⟩ : ∃ x,H[p]? = some x:=⟨_,List.getElem?_eq_getElem (by omega)⟩
  have hf:=h.fw p s oe hx
  rw [stAt_at hx,← hf.size]
  exact ih (by omega)
theorem DRel.seesT (h : DRel P ops H st D nb0 ρ k0 w0 k a w) {q : Nat} {s : St} {e : Ent} (hq : H[q]? = some (s,some e)) (hn : ¬ D e.i) (hcl : Closed ops (fun i=>D i∨i = e.i)) {t : Tmp} (ht : t ∈ e.rt) : Ok ρ (s.tm t) (a.tmps.getD t undef):=by
 have:=h.tmps t q (by have:=(List.getElem?_eq_some_iff.1 hq).1; omega) (fun q' s' e' hq' ht'=>?_)
 ·rw [stAt_at hq] at this; exact this
 ·constructor
  ·intro hD
   rcases Nat.lt_trichotomy q' q with h1 | h1 | h1
   ·exact h1
   ·subst h1; rw [hq] at hq'; injection hq' with hq'; injection hq' with _ hq'; injection hq' with hq'; subst hq'; exact absurd hD hn
   ·have:=h.conf q q' s s' e e' h1 hq hq' (by simp only [conflict,ht',Bool.or_eq_true]; exact .inl (.inl (.inr (by simpa using ht))))
    exact absurd (masks_spec h.dcl hD this) hn
  ·intro hlt
   have:=h.conf q' q s' s e' e hlt hq' hq (by simp only [conflict,ht',Bool.or_eq_true]; exact .inl (.inl (.inl (.inl (by simpa using ht)))))
   rcases masks_spec hcl (.inr rfl) this with h1 | h1
   ·exact h1
   ·have:=h.uniq q' q s' s e' e hq' hq h1; omega
theorem DRel.seesH (h : DRel P ops H st D nb0 ρ k0 w0 k a w) {q : Nat} {s : St} {e : Ent} (hq : H[q]? = some (s,some e)) (hn : ¬ D e.i) (hcl : Closed ops (fun i=>D i∨i = e.i)) {b : Nat} (hb : e.rb = some b∨e.wb = some b) : BlkRel ρ k0 k w s b:=by
 have:=h.heap b q (by have:=(List.getElem?_eq_some_iff.1 hq).1; omega) (fun q' s' e' hq' ht'=>?_)
 ·rw [stAt_at hq] at this; exact this
 ·constructor
  ·intro hD
   rcases Nat.lt_trichotomy q' q with h1 | h1 | h1
   ·exact h1
   ·subst h1; rw [hq] at hq'; injection hq' with hq'; injection hq' with _ hq'; injection hq' with hq'; subst hq'; exact absurd hD hn
   ·have:=h.conf q q' s s' e e' h1 hq hq' (by
     simp only [conflict,ht',Bool.or_eq_true]
     rcases hb with hb | hb
     ·exact .inr (by simp [hb])
     ·exact .inl (.inr (by simp [hb])))
    exact absurd (masks_spec h.dcl hD this) hn
  ·intro hlt
   have:=h.conf q' q s' s e' e hlt hq' hq (by
    simp only [conflict,ht',Bool.or_eq_true]
    rcases hb with hb | hb <;> exact .inl (.inr (by simp [hb])))
   rcases masks_spec hcl (.inr rfl) this with h1 | h1
   ·exact h1
   ·have:=h.uniq q' q s' s e' e hq' hq h1; omega
theorem DRel.moreT (h : DRel P ops H st D nb0 ρ k0 w0 k a w) {q : Nat} {s : St} {e : Ent} (hq : H[q]? = some (s,some e)) (hn : ¬ D e.i) {ρ' : Env} (hle : ρ.le ρ') {x : Value}
 {v : SV} (hs' : ∀ t,(stAt H st (q+1)).tm t = (s.put e.wt v).tm t) (hx : Ok ρ' v x) :
 ∀ t p,p≤H.length→(∀ (q' : Nat) (s' : St) (e' : Ent),H[q']? = some (s',some e')→e'.wt = some t→((D e'.i∨e'.i = e.i)↔q' < p))→Ok ρ' ((stAt H st p).tm t) ((a.put e.wt x).tmps.getD t undef):=by
 intro t p hp hv
 have hql : q < H.length:=(List.getElem?_eq_some_iff.1 hq).1
 by_cases ht : e.wt = some t
 ·have hqp : q < p:=(hv q s e hq ht).1 (.inr rfl)
  refine h.fwT hle (p:=q+1) (by omega) hp (fun q' s' e' h1 h2 hq' ht'=>?_) ?_
  ·rcases (hv q' s' e' hq' ht').2 h2 with hD | hD
   ·have:=h.conf q q' s s' e e' (by omega) hq hq' (by simp only [conflict,ht,ht',Bool.or_eq_true]; exact .inl (.inl (.inl (.inr (by simp)))))
    exact absurd (masks_spec h.dcl hD this) hn
   ·have:=h.uniq q' q s' s e' e hq' hq hD; omega
  ·rw [hs',ht,tm_put,tmps_put]
   have hsz : a.tmps.size = s.tmps.length:=by
    rw [h.size,← h.fwS (n:=H.length - q) (p:=q) (by omega),stAt_at hq]
   rw [hsz]
   split
   ·exact hx
   ·rename_i hnot
    have hlt : s.tmps.length≤t:=Nat.le_of_not_lt fun hl=>hnot ⟨rfl,hl⟩
    have hlt2 : a.tmps.size≤t:=by rw [hsz]; exact hlt
    have e1 : s.tm t = undefS:=by unfold St.tm; rw [List.getD_eq_getElem?_getD,List.getElem?_eq_none hlt]; rfl
    have e2 : a.tmps.getD t undef = undef:=by rw [Array.getD_eq_getD_getElem?,Array.getElem?_eq_none hlt2]; rfl
    rw [e1,e2]
    exact .inr rfl
 ·have hold:=h.tmps t p hp (fun q' s' e' hq' ht'=>by
   rw [← hv q' s' e' hq' ht']
   refine ⟨.inl,fun hh=>hh.resolve_right fun hi=>?_⟩
   have:=h.uniq q' q s' s e' e hq' hq hi
   subst this
   rw [hq] at hq'; injection hq' with hq'; injection hq' with _ hq'; injection hq' with hq'; subst hq'
   exact ht ht')
  have e2 : (a.put e.wt x).tmps.getD t undef = a.tmps.getD t undef:=by
   cases hw : e.wt with
   | none=>rfl
   | some d=>rw [tmps_put,if_neg (fun hh=>ht (by rw [hw,hh.1]))]
  rw [e2]
  exact hold.le hle
theorem DRel.next (h : DRel P ops H st D nb0 ρ k0 w0 k a w) {q : Nat} {s : St} {e : Ent} (hq : H[q]? = some (s,some e)) (_hn : ¬ D e.i) (hcl : Closed ops (fun i=>D i∨i = e.i)) {ρ' : Env} {k' w' : World} {a' : Act}
 (hle : ρ.le ρ') (hval : ρ'.val = ρ.val) (hkd : ρ'.kd = ρ.kd) (inj : ∀ b b' n,k0.heap.size≤n→ρ'.blk b = some n→ρ'.blk b' = some n→b = b') (lt : ∀ b n,ρ'.blk b = some n→n < w'.heap.size)
 (blks : ∀ b n,ρ'.blk b = some n→ρ.blk b = some n∨e.al = some b) (sz : a'.tmps.size = a.tmps.size) (df : a'.defers = a.defers) (sees : Sees k' w') (kb : Below k.heap.size k k') (wb : Below w0.heap.size w w')
 (tm : ∀ t p,p≤H.length→(∀ (q' : Nat) (s' : St) (e' : Ent),H[q']? = some (s',some e')→e'.wt = some t→((D e'.i∨e'.i = e.i)↔q' < p))→Ok ρ' ((stAt H st p).tm t) (a'.tmps.getD t undef))
 (hp : ∀ b p,p≤H.length→(∀ (q' : Nat) (s' : St) (e' : Ent),H[q']? = some (s',some e')→e'.wb = some b→((D e'.i∨e'.i = e.i)↔q' < p))→BlkRel ρ' k0 k' w' (stAt H st p) b)
 (hmem : ρ'.mem = ρ.mem) (hrows : RowsOk ρ' k0.heap.size k' w' st.rows) :
 DRel P ops H st (fun i=>D i∨i = e.i) nb0 ρ' k0 w0 k' a' w' where
 anc:=h.anc.trans hle
 up:=h.up.trans (Up.of_below kb)
 dep:=h.dep
 env:=fun i kk v h1 h2=>h.env i kk v (by rw [← hkd]; exact h1) (by rw [← hval]; exact h2)
 kinds:=fun i=>by rw [hkd]; exact h.kinds i
 vals:=fun i hi=>by rw [hval]; exact h.vals i hi
 inj:=inj
 size:=sz.trans h.size
 defers:=df.trans h.defers
 sees:=sees
 base:=h.base
 kb:=h.kb.trans (kb.mono h.kb.size)
 wb:=h.wb.trans wb
 lt:=lt
 nb:=h.nb
 blks:=fun b n hb=>by
  rcases blks b n hb with hb | hb
  ·rcases h.blks b n hb with h1 | ⟨q',s',e',h1,h2,h3⟩
   ·exact .inl h1
   ·exact .inr ⟨q',s',e',h1,h2,.inl h3⟩
  ·exact .inr ⟨q,s,e,hq,hb,.inr rfl⟩
 tmps:=tm
 heap:=hp
 uniq:=h.uniq
 conf:=h.conf
 pend:=fun q' s' e' h1 h2=>by
  obtain ⟨o,p1,p2,p3,p4⟩:=h.pend q' s' e' h1 (fun hh=>h2 (.inl hh))
  refine ⟨o,p1,p2,p3,p4.imp id fun ⟨g,p5⟩=>⟨g,?_⟩⟩
  rcases p5 with ⟨v,v',needs,r1,r2,r3,r4⟩ | ⟨res,x,r1,r2,r3⟩ | p5 | ⟨ty,cs,sl,r1,r2,r3⟩ | ⟨b,cs,blk,r1,r2,r3,r4,r5⟩
  ·exact .inl ⟨v,v',needs,r1,fun c hc=>SC.den_le hle (r2 c hc),r3.imp id fun ⟨x,hx,hx'⟩=>⟨x,SV.den_le hle hx,SV.den_le hle hx'⟩,r4⟩
  ·exact .inr (.inl ⟨res,x,r1.le hle,SV.den_le hle r2,r3⟩)
  ·exact .inr (.inr (.inl p5))
  ·exact .inr (.inr (.inr (.inl ⟨ty,cs,sl,r1,by rw [hkd]; exact r2,r3⟩)))
  ·exact .inr (.inr (.inr (.inr ⟨b,cs,blk,r1,r2,r3,by rw [hkd]; exact r4,r5⟩)))
 dsub:=fun i hi=>by
  rcases hi with hi | hi
  ·exact h.dsub i hi
  ·exact ⟨q,s,e,hq,hi.symm⟩
 dcl:=hcl
 pubs:=fun p=>(h.pubs p).le hle
 fw:=fun q' s' oe h1=>by
  obtain ⟨f1,f2,f3,f4,f5⟩:=h.fw q' s' oe h1
  exact ⟨fun ρ2 h2=>f1 ρ2 (hle.trans h2),f2,f3,f4,f5⟩
 mem:=fun A v hv=>(Up.of_below kb).cell (h.mem A v (by rw [← hmem]; exact hv))
 rows:=hrows
 rowsEq:=h.rowsEq
theorem DRel.moreH (h : DRel P ops H st D nb0 ρ k0 w0 k a w) {q : Nat} {s : St} {e : Ent} (hq : H[q]? = some (s,some e)) (_hn : ¬ D e.i) {ρ' : Env} (hle : ρ.le ρ') {k' w' : World} (hk : Below k.heap.size k k')
 {b p : Nat} (hb : e.wb ≠ some b) (hp : p≤H.length) (hv : ∀ (q' : Nat) (s' : St) (e' : Ent),H[q']? = some (s',some e')→e'.wb = some b→((D e'.i∨e'.i = e.i)↔q' < p))
 (hw : ∀ n,n < w.heap.size→ρ.blk b = some n→w'.heap[n]? = w.heap[n]?) : BlkRel ρ' k0 k' w' (stAt H st p) b:=by
 refine (h.heap b p hp fun q' s' e' hq' ht'=>?_).mono hle hk hw
 rw [← hv q' s' e' hq' ht']
 refine ⟨.inl,fun hh=>hh.resolve_right fun hi=>?_⟩
 have:=h.uniq q' q s' s e' e hq' hq hi
 subst this
 rw [hq] at hq'; injection hq' with hq'; injection hq' with _ hq'; injection hq' with hq'; subst hq'
 exact hb ht'
theorem DRel.moreB (h : DRel P ops H st D nb0 ρ k0 w0 k a w) {q : Nat} {s : St} {e : Ent} (hq : H[q]? = some (s,some e)) (hn : ¬ D e.i) {ρ' : Env} {k' w' : World}
 {b p : Nat} (hb : e.wb = some b) (hp : p≤H.length) (hv : ∀ (q' : Nat) (s' : St) (e' : Ent),H[q']? = some (s',some e')→e'.wb = some b→((D e'.i∨e'.i = e.i)↔q' < p))
 (hnew : BlkRel ρ' k0 k' w' (stAt H st (q+1)) b) : BlkRel ρ' k0 k' w' (stAt H st p) b:=by
 have hqp : q < p:=(hv q s e hq hb).1 (.inr rfl)
 have:=h.fwH (b:=b) (p:=q+1) (p':=p) (by omega) hp (fun q' s' e' h1 h2 hq' ht'=>by
  rcases (hv q' s' e' hq' ht').2 h2 with hD | hD
  ·have:=h.conf q q' s s' e e' (by omega) hq hq' (by simp only [conflict,hb,ht',Bool.or_eq_true]; exact .inl (.inr (by simp)))
   exact absurd (masks_spec h.dcl hD this) hn
  ·have:=h.uniq q' q s' s e' e hq' hq hD; omega)
 intro blk hblk
 rw [this] at hblk
 exact hnew blk hblk
theorem put_heap (s : St) (d : Option Tmp) (v : SV) : (s.put d v).heap = s.heap:=by cases d <;> rfl
theorem DRel.exec (h : DRel P ops H st D nb0 ρ k0 w0 k a w) {q : Nat} {s : St} {e : Ent} (hq : H[q]? = some (s,some e)) (hn : ¬ D e.i) (hcl : Closed ops (fun i=>D i∨i = e.i)) {Q : Exit→Act→World→Prop} {next : Act→World→Prop}
 (hnext : ∀ ρ' k' a' w',ρ'.val = ρ.val→ρ'.kd = ρ.kd→ρ'.mem = ρ.mem→Up k k'→DRel P ops H st (fun i=>D i∨i = e.i) nb0 ρ' k0 w0 k' a' w'→next a' w') : wpOp P ops Q e.i next a w:=by
 obtain ⟨o,ho,hrt,hwt,hp⟩:=h.pend q s e hq hn
 have hql : q < H.length:=(List.getElem?_eq_some_iff.1 hq).1
 have htm : ∀ t ∈ e.rt,Ok ρ (s.tm t) (a.tmps.getD t undef):=fun t ht=>h.seesT hq hn hcl ht
 have hK : Knows1 ρ s.tm a o:=fun t ht=>htm t (by
  rw [hrt]; unfold tmpsOf
  refine List.mem_append.2 (.inl (List.mem_filterMap.2 ⟨.tmp t,by simpa using ht,rfl⟩)))
 have hgy : ∀ {j want},o.guard = some (j,want)→∀ t,(ops[j]?).bind (·.dst) = some t→Ok ρ (s.tm t) (a.tmps.getD t undef):=fun hg t hj=>htm t (by
  rw [hrt]; unfold tmpsOf
  refine List.mem_append.2 (.inr ?_)
  rw [hg]; simp only [hj]; simp)
 have hwant : (guardOf ops s o = .yes→Region.wanted o (yielded ops a.tmps) = true)∧(guardOf ops s o = .no→Region.wanted o (yielded ops a.tmps) = false):=by
  unfold guardOf Region.wanted
  cases hg : o.guard with
  | none=>simp
  | some g =>
   obtain ⟨j,want⟩:=g
   simp only
   cases hj : (ops[j]?).bind (·.dst) with
   | none=>simp
   | some t =>
    simp only
    have hok:=hgy hg t hj
    split
    ·rename_i b hb
     rw [hb] at hok
     have hv:=Ok.den_bool hok
     have hy:=yielded_eq hj hv
     rw [hy]
     split
     ·rename_i hbw; subst hbw; simp
     ·rename_i hbw; simp [hbw]
    ·rename_i v hnb hb
     rw [hb] at hok
     have hy : yielded ops a.tmps j = none:=by
      unfold yielded
      rw [hj]
      simp only [Option.bind_some]
      split
      ·rename_i b hb'
       exfalso
       rcases hok with hok | hok
       ·cases hok
       ·simp only [SV.den,SC.den] at hok
        injection hok with hok
        rw [Array.getD_eq_getD_getElem?,hb'] at hok
        exact hnb b hok
      ·rfl
     rw [hy]
     simp
    ·simp
    ·simp
 unfold wpOp
 rw [ho]
 simp only
 -- a step that changes no block
 have quiet : ∀ {v : SV} {x : Value},e.wb = none→e.al = none→stAt H st (q+1) = s.put o.dst v→Ok ρ v x→next (a.put o.dst x) w:=fun {v x} hwb hal hs' hx=>by
  refine hnext ρ k _ w rfl rfl rfl (Up.refl k) (h.next hq hn hcl (Env.le.refl ρ) rfl rfl h.inj h.lt (fun b n hb=>.inl hb) ?_ ?_ h.sees (Below.refl _ _) (Below.refl _ _) ?_ ?_ rfl h.rows)
  ·unfold Act.put; split <;> simp
  ·unfold Act.put; split <;> rfl
  ·have:=h.moreT hq hn (Env.le.refl ρ) (v:=v) (x:=x) (fun t=>by rw [hs',hwt]) hx
   rw [hwt] at this
   exact this
  ·exact fun b p hp hv=>h.moreH hq hn (Env.le.refl ρ) (Below.refl _ _) (by rw [hwb]; simp) hp hv (fun _ _ _=>rfl)
 have hE:=h.env
 rcases hp with ⟨hg,hwb,hal,hs'⟩ | ⟨hg,hp⟩
 ·rw [if_neg (by rw [hwant.2 hg]; simp)]
  exact quiet hwb hal hs' (.inr rfl)
 ·rw [if_pos (hwant.1 hg)]
  left
  have hpb : PubOk ρ s.hp:=by have:=h.pubs q; rw [stAt_at hq] at this; exact this
  have hstep:=step_sound (P:=P) (w:=w) (hp:=s.hp) hE hpb hK
  unfold Oper.wp
  rcases hp with ⟨v,v',needs,r1,r2,r3,hwb,hal,hs'⟩ | ⟨res,x,r1,r2,hwb,hal,hs'⟩ | ⟨v,b,blk,r1,r2,r3,hwb,hal,hs'⟩ | ⟨ty,cs,sl,r1,r2,hwb,hal,hs'⟩ | ⟨b,cs,blk,r1,r2,r3,r4,hwb,hal,hs'⟩
  ·have r3 : ∃ x,v.den ρ = some x∧v'.den ρ = some x:=r3.elim (fun ⟨hsim,e⟩=>let ⟨x,hx⟩:=step_simple hE hpb hK r1 hsim; ⟨x,hx,by rw [e]; exact hx⟩) id
   obtain ⟨x,r3,r3'⟩:=r3
   rw [r1] at hstep
   rw [hstep r2 x r3,Oper.upon_value]
   exact quiet hwb hal hs' (.inr r3')
  ·have hrs : s.rows = st.rows:=by have:=h.rowsEq q; rw [stAt_at hq] at this; exact this
   rw [r1.run (k:=k) (base:=k0.heap.size) hE hpb hK (fun A v hv=>h.sees.cell (h.mem A v hv)) (fun q hq=>h.rows.ok q (by rw [← hrs]; exact hq)),Oper.upon_value]
   exact quiet hwb hal hs' (.inr r2)
  ·rw [r1] at hstep
   obtain ⟨n,vs,g1,g2,g3,_⟩:=h.seesH hq hn hcl (.inl r2) blk r3
   obtain ⟨x,x1,x2⟩:=hstep blk n vs r3 g1 g2 g3
   rw [x2,Oper.upon_value]
   exact quiet hwb hal hs' (.inr x1)
  ·rw [r1] at hstep
   obtain ⟨vs,g1,g2⟩:=hstep
   rw [g2,Oper.upon_value]
   have hnw:=cells_noWord hE r2 g1
   obtain ⟨k',s1,s2,s3,s4,s5⟩:=alloc_world h.sees hnw ty
   have hnone : ρ.blk s.heap.length = none:=by
    cases hb : ρ.blk s.heap.length with
    | none=>rfl
    | some n =>
     have hlen : ∀ q' s' e',H[q']? = some (s',some e')→e'.al = some s.heap.length→q' = q:=fun q' s' e' hq' hal'=>by
      obtain ⟨_,f2,f3⟩:=(h.fw q' s' _ hq').al e' _ rfl hal'
      obtain ⟨_,f2',f3'⟩:=(h.fw q s _ hq).al e _ rfl hal
      have hql' : q' < H.length:=(List.getElem?_eq_some_iff.1 hq').1
      rcases Nat.lt_trichotomy q' q with hh | hh | hh
      ·have:=h.fwL (p:=q'+1) (p':=q) (by omega) (by omega)
       rw [stAt_at hq] at this; omega
      ·exact hh
      ·have:=h.fwL (p:=q+1) (p':=q') (by omega) (by omega)
       rw [stAt_at hq'] at this; omega
     rcases h.blks _ n hb with h1 | ⟨q',s',e',h1,h2,h3⟩
     ·have:=h.nb q; rw [stAt_at hq] at this; omega
     ·have:=hlen q' s' e' h1 h2; subst this
      rw [hq] at h1; injection h1 with h1; injection h1 with _ h1; injection h1 with h1; subst h1
      exact absurd h3 hn
   let ρ' : Env:={ ρ with blk:=fun b=>if b = s.heap.length then some w.heap.size else ρ.blk b }
   have hle : ρ.le ρ':=⟨fun _ _ h=>h,fun b n hb=>by
    show (if b = s.heap.length then some w.heap.size else ρ.blk b) = some n
    by_cases e : b = s.heap.length
    ·rw [e,hnone] at hb; cases hb
    ·rw [if_neg e]; exact hb,fun _ _ h=>h,fun _ _ h=>h⟩
   refine hnext ρ' k' _ _ rfl rfl rfl s2 (h.next hq hn hcl hle rfl rfl ?_ ?_ ?_ ?_ ?_ s1 s3 (s4.mono h.wb.size) ?_ ?_ rfl (h.rows.mono hle (fun b g hb hg=>by
    have hb : (if b = s.heap.length then some w.heap.size else ρ.blk b) = some g:=hb
    split at hb
    ·injection hb with hb; omega
    ·exact ⟨b,hb⟩) (fun g hg _=>(s3.block g (heap_lt hg)).trans hg) (fun g hg _=>s4.block g hg)))
   ·intro b b' n hbase h1 h2
    have h1 : (if b = s.heap.length then some w.heap.size else ρ.blk b) = some n:=h1
    have h2 : (if b' = s.heap.length then some w.heap.size else ρ.blk b') = some n:=h2
    by_cases e : b = s.heap.length <;> by_cases e' : b' = s.heap.length
    ·omega
    ·rw [if_pos e] at h1; rw [if_neg e'] at h2
     injection h1 with h1
     have:=h.lt _ _ h2
     omega
    ·rw [if_neg e] at h1; rw [if_pos e'] at h2
     injection h2 with h2
     have:=h.lt _ _ h1
     omega
    ·rw [if_neg e] at h1; rw [if_neg e'] at h2
     exact h.inj _ _ _ hbase h1 h2
   ·intro b n h1
    have h1 : (if b = s.heap.length then some w.heap.size else ρ.blk b) = some n:=h1
    show n < (w.heap.push _).size
    rw [Array.size_push]
    split at h1
    ·injection h1 with h1; omega
    ·have:=h.lt _ _ h1; omega
   ·intro b n h1
    have h1 : (if b = s.heap.length then some w.heap.size else ρ.blk b) = some n:=h1
    split at h1
    ·rename_i e; subst e; exact .inr hal
    ·exact .inl h1
   ·unfold Act.put; split <;> simp
   ·unfold Act.put; split <;> rfl
   ·have:=h.moreT hq hn hle (v:=resV sl s.heap.length) (x:=resD sl w.heap.size) (fun t=>by rw [hs',hwt]; unfold St.put St.new St.tm; cases o.dst <;> rfl)
     (.inr (resV_den (if_pos rfl)))
    rw [hwt] at this
    exact this
   ·intro b p hp hv
    by_cases hb : e.wb = some b
    ·refine h.moreB hq hn hb hp hv ?_
     rw [hwb] at hb; injection hb with hb; subst hb
     intro blk hblk
     rw [hs'] at hblk
     have hblk' : ((s.heap ++ [({ ty,cells:=cs,pub:=false } : SB)])[s.heap.length]?) = some blk:=by
      rw [put_heap] at hblk; exact hblk
     simp at hblk'
     subst hblk'
     refine ⟨w.heap.size,vs,if_pos rfl,cellsD_le hle g1,by unfold Blk; simp,fun _=>⟨?_,s5⟩,fun hp=>by cases hp⟩
     have:=h.kb.size; have:=h.sees.size; omega
    ·refine h.moreH hq hn hle s3 hb hp hv fun n hlt hb'=>s4.block n hlt
  ·rw [r1] at hstep
   obtain ⟨n,vs,g1,g2,g3,g4,_⟩:=h.seesH hq hn hcl (.inr hwb) blk r2
   obtain ⟨us,u1,u2⟩:=hstep blk n vs r2 g1 g2 g3
   rw [u2,Oper.upon_skip]
   obtain ⟨hbase,hdead⟩:=g4 r3
   have hnw:=cells_noWord hE r4 u1
   refine hnext ρ k _ _ rfl rfl rfl (Up.refl k) (h.next hq hn hcl (Env.le.refl ρ) rfl rfl h.inj ?_ (fun b n hb=>.inl hb) ?_ ?_ (store_world h.sees g3 hdead hnw) (Below.refl _ _) ?_ ?_ ?_ rfl (h.rows.mono (Env.le.refl ρ) (fun b g e _=>⟨b,e⟩) (fun _ e _=>e) (fun g _ hg=>put_oth fun e=>hg b (by rw [e]; exact g1))))
   ·intro b' n' hb'; rw [put_size]; exact h.lt _ _ hb'
   ·unfold Act.put; split <;> simp
   ·unfold Act.put; split <;> rfl
   ·exact ⟨rfl,rfl,rfl,by rw [put_size]; exact Nat.le_refl _,fun g hg=>put_oth (by have:=h.base; omega)⟩
   ·have:=h.moreT hq hn (Env.le.refl ρ) (v:=undefS) (x:=undef) (fun t=>by rw [hs',hwt]; unfold St.put St.setB St.tm; cases o.dst <;> rfl) (.inr rfl)
    rw [hwt] at this
    exact this
   ·intro b' p hp hv
    by_cases hb : e.wb = some b'
    ·refine h.moreB hq hn hb hp hv ?_
     rw [hwb] at hb; injection hb with hb; subst hb
     intro blk' hblk
     rw [hs'] at hblk
     have hblk' : ((s.heap.modify b fun blk=>{ blk with cells:=cs })[b]?) = some blk':=by
      rw [put_heap] at hblk; exact hblk
     rw [List.getElem?_modify,r2] at hblk'
     simp at hblk'
     subst hblk'
     exact ⟨n,us,g1,u1,g3.put _,fun _=>⟨hbase,hdead⟩,fun hp'=>by rw [r3] at hp'; cases hp'⟩
    ·refine h.moreH hq hn (Env.le.refl ρ) (Below.refl _ _) hb hp hv fun n' hlt hb'=>put_oth fun hne=>?_
     subst hne
     have:=h.inj _ _ _ hbase hb' g1
     exact hb (by rw [this,hwb])
end
end Go.Proofs.YtpjakokgmgggiaaGreat.Sy
