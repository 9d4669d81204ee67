/- A symbolic executor of the model's code: a region that draws its order, whole. -/
import Derived.Test.YtpjakokgmgggiaaGreatSuSy10
namespace Go.Proofs.YtpjakokgmgggiaaGreat.Sy
open Go.RowKit
theorem stAt_snoc (H : Hist) (st st' : St) (oe : Option Ent) (p : Nat) : stAt (H ++ [(st,oe)]) st' p = if p≤H.length then stAt H st p else st':=by
 unfold stAt
 rw [List.getElem?_append]
 by_cases h : p < H.length
 ·rw [if_pos h,if_pos (by omega)]
  have : H[p]? = some H[p]:=List.getElem?_eq_getElem h
  simp only [this]
 ·rw [if_neg h]
  by_cases e : p = H.length
  ·subst e
   rw [if_pos (Nat.le_refl _),Nat.sub_self,List.getElem?_eq_none (Nat.le_refl _)]
   rfl
  ·rw [if_neg (by omega),List.getElem?_eq_none (by simp; omega)]
theorem get_snoc {H : Hist} {st : St} {oe : Option Ent} {q : Nat} {x : St × Option Ent} (h : (H ++ [(st,oe)])[q]? = some x) : H[q]? = some x∨(q = H.length∧x = (st,oe)):=by
 rw [List.getElem?_append] at h
 split at h
 ·exact .inl h
 ·rename_i hlt
  by_cases e : q = H.length
  ·subst e; rw [Nat.sub_self] at h; simp at h; exact .inr ⟨rfl,h.symm⟩
  ·rw [List.getElem?_eq_none (by simp; omega)] at h; cases h
theorem get_old {H : Hist} {x y : St × Option Ent} {q : Nat} (h : H[q]? = some x) : (H ++ [y])[q]? = some x:=by
 rw [List.getElem?_append_left (List.getElem?_eq_some_iff.1 h).1]; exact h
theorem get_new (H : Hist) (y : St × Option Ent) : (H ++ [y])[H.length]? = some y:=by simp
theorem wordless_le {kd kd' : Nat→Option LK} (h : ∀ i k,kd i = some k→kd' i = some k) : ∀ {c : SC},wordless kd c = true→wordless kd' c = true:=by
 intro c
 induction c with
 | var i =>
  intro hw
  simp only [wordless] at hw ⊢
  cases hk : kd i with
  | none=>rw [hk] at hw; cases hw
  | some k=>rw [hk] at hw; rw [h _ _ hk]; exact hw
 | bin cl op a b iha ihb =>
  intro hw
  unfold wordless at hw ⊢
  split at hw
  all_goals first
   | rfl
   | skip
  all_goals simp_all
  all_goals first | exact hw.imp id iha | skip
 | neg a ih=>intro hw; simp only [wordless] at hw ⊢; exact ih hw
 | conv k a _=>exact fun hw=>hw
 | pick c a b ihc iha ihb=>intro hw; simp only [wordless,Bool.and_eq_true] at hw ⊢; exact ⟨iha hw.1,ihb hw.2⟩
 | lit v=>exact fun hw=>hw
 | slr i =>
  intro hw
  simp only [wordless] at hw ⊢
  cases hk : kd i with
  | none=>rw [hk] at hw; cases hw
  | some k=>rw [hk] at hw; rw [h _ _ hk]; exact hw
 | _=>intro _; rfl
theorem Pend.le {P : Program} {ops : Array Oper} {ρ ρ' : Env} {s s' : St} {e : Ent} (h : Pend P ops ρ s s' e) (hle : ρ.le ρ') : Pend P ops ρ' s s' e:=by
 obtain ⟨o,p1,p2,p3,p4⟩:=h
 refine ⟨o,p1,p2,p3,p4.imp id fun ⟨g,p5⟩=>⟨g,?_⟩⟩
 rcases p5 with ⟨v,v',needs,r1,r2,r3,r4⟩ | ⟨res,x,r1,r2,r3⟩ | p5 | ⟨ty,cs,sl,r1,r2,r3⟩ | ⟨b,cs,blk,r1,r2,r3,r4,r5⟩
 ·exact .inl ⟨v,v',needs,r1,fun c hc=>SC.den_le hle (r2 c hc),r3.imp id fun ⟨x,hx,hx'⟩=>⟨x,SV.den_le hle hx,SV.den_le hle hx'⟩,r4⟩
 ·exact .inr (.inl ⟨res,x,r1.le hle,SV.den_le hle r2,r3⟩)
 ·exact .inr (.inr (.inl p5))
 ·exact .inr (.inr (.inr (.inl ⟨ty,cs,sl,r1,List.all_eq_true.2 fun c hc=>wordless_le hle.kd (List.all_eq_true.1 r2 c hc),r3⟩)))
 ·exact .inr (.inr (.inr (.inr ⟨b,cs,blk,r1,r2,r3,List.all_eq_true.2 fun c hc=>wordless_le hle.kd (List.all_eq_true.1 r4 c hc),r5⟩)))
theorem okConf_spec {ms : List Nat} {H : Hist} {e' : Ent} (h : okConf ms H e' = true) {q : Nat} {s : St} {e : Ent} (hq : H[q]? = some (s,some e)) (hc : conflict e e' = true) : (ms.getD e'.i 0).testBit e.i = true:=by
 unfold okConf at h
 have:=List.all_eq_true.1 h _ (List.mem_of_getElem? hq)
 simp only [hc,Bool.not_true,Bool.false_or] at this
 exact this
section
variable {P : Program} {ops : Array Oper} {H : Hist} {st : St} {D : Nat→Prop} {nb0 : Nat} {ρ : Env} {k0 : Anc} {w0 k w : World} {a : Act}
theorem DRel.snoc (h : DRel P ops H st D nb0 ρ k0 w0 k a w) {st' : St} {oe : Option Ent} (hdep : st'.depth = st.depth) (hk : st'.kinds = st.kinds) (hf : Fw ρ st st' oe)
 (hrows : st'.rows = st.rows) (hpubs : PubOk ρ st'.hp) (he : ∀ e,oe = some e→(∀ (q : Nat) (s : St) (e' : Ent),H[q]? = some (s,some e')→e'.i ≠ e.i)∧okConf (masks ops) H e = true∧Pend P ops ρ st st' e) :
 DRel P ops (H ++ [(st,oe)]) st' D nb0 ρ k0 w0 k a w:=by
 have hnD : ∀ e,oe = some e→¬ D e.i:=fun e hoe hD=>by
  obtain ⟨q,s,e',h1,h2⟩:=h.dsub _ hD
  exact (he e hoe).1 q s e' h1 h2
 refine { h with dep:=?_,kinds:=?_,vals:=?_,size:=?_,nb:=?_,blks:=?_,tmps:=?_,heap:=?_,uniq:=?_,conf:=?_,pend:=?_,dsub:=?_,pubs:=?_,fw:=?_,rows:=by rw [hrows]; exact h.rows,rowsEq:=?_ }
 ·rw [hdep]; exact h.dep
 ·rw [hk]; exact h.kinds
 ·rw [hk]; exact h.vals
 ·rw [hf.size]; exact h.size
 ·intro p
  rw [stAt_snoc]
  split
  ·exact h.nb p
  ·have:=h.nb H.length; rw [stAt_end] at this; exact Nat.le_trans this hf.grow
 ·intro b n hb
  rcases h.blks b n hb with h1 | ⟨q,s,e,h1,h2,h3⟩
  ·exact .inl h1
  ·exact .inr ⟨q,s,e,get_old h1,h2,h3⟩
 ·intro t p hp hv
  rw [stAt_snoc]
  split
  ·rename_i hle
   exact h.tmps t p hle fun q s e hq ht=>hv q s e (get_old hq) ht
  ·rename_i hgt
   have hp' : p = H.length+1:=by simp at hp; omega
   subst hp'
   have hne : ∀ e,oe = some e→e.wt ≠ some t:=fun e hoe ht=>hnD e hoe ((hv H.length st e (by subst hoe; exact get_new H _) ht).2 (by omega))
   refine hf.tmps ρ (Env.le.refl ρ) t hne _ ?_
   have:=h.tmps t H.length (Nat.le_refl _) fun q s e hq ht=>by
    rw [hv q s e (get_old hq) ht]
    have:=(List.getElem?_eq_some_iff.1 hq).1
    omega
   rw [stAt_end] at this
   exact this
 ·intro b p hp hv
  rw [stAt_snoc]
  split
  ·rename_i hle
   exact h.heap b p hle fun q s e hq ht=>hv q s e (get_old hq) ht
  ·rename_i hgt
   have hp' : p = H.length+1:=by simp at hp; omega
   subst hp'
   have hne : ∀ e,oe = some e→e.wb ≠ some b:=fun e hoe ht=>hnD e hoe ((hv H.length st e (by subst hoe; exact get_new H _) ht).2 (by omega))
   have:=h.heap b H.length (Nat.le_refl _) fun q s e hq ht=>by
    rw [hv q s e (get_old hq) ht]
    have:=(List.getElem?_eq_some_iff.1 hq).1
    omega
   rw [stAt_end] at this
   intro blk hblk
   rw [hf.heap b hne] at hblk
   exact this blk hblk
 ·intro q q' s s' e e' h1 h2 h3
  replace h1:=get_snoc h1
  replace h2:=get_snoc h2
  rcases h1 with h1 | ⟨rfl,h1⟩ <;> rcases h2 with h2 | ⟨rfl,h2⟩
  ·exact h.uniq q q' s s' e e' h1 h2 h3
  ·injection h2 with _ h2; exact absurd h3 ((he e' h2.symm).1 q s e h1)
  ·injection h1 with _ h1; exact absurd h3.symm ((he e h1.symm).1 q' s' e' h2)
  ·rfl
 ·intro q q' s s' e e' hlt h1 h2 h3
  replace h1:=get_snoc h1
  replace h2:=get_snoc h2
  rcases h1 with h1 | ⟨rfl,h1⟩ <;> rcases h2 with h2 | ⟨rfl,h2⟩
  ·exact h.conf q q' s s' e e' hlt h1 h2 h3
  ·injection h2 with _ h2
   exact okConf_spec (he e' h2.symm).2.1 h1 h3
  ·have:=(List.getElem?_eq_some_iff.1 h2).1; omega
  ·omega
 ·intro q s e h1 h2
  replace h1:=get_snoc h1
  rcases h1 with h1 | ⟨rfl,h1⟩
  ·have hql:=(List.getElem?_eq_some_iff.1 h1).1
   rw [stAt_snoc,if_pos (by omega)]
   exact h.pend q s e h1 h2
  ·injection h1 with h3 h4
   subst h3
   rw [stAt_snoc,if_neg (by omega)]
   exact (he e h4.symm).2.2
 ·intro i hi
  obtain ⟨q,s,e,h1,h2⟩:=h.dsub i hi
  exact ⟨q,s,e,get_old h1,h2⟩
 ·intro p
  rw [stAt_snoc]
  split
  ·exact h.pubs p
  ·exact hpubs
 ·intro q s oe' h1
  replace h1:=get_snoc h1
  rcases h1 with h1 | ⟨rfl,h1⟩
  ·have hql:=(List.getElem?_eq_some_iff.1 h1).1
   rw [stAt_snoc,if_pos (by omega)]
   exact h.fw q s oe' h1
  ·injection h1 with h3 h4
   subst h3 h4
   rw [stAt_snoc,if_neg (by omega)]
   exact hf
 ·intro p
  rw [stAt_snoc,hrows]
  split
  ·exact h.rowsEq p
  ·exact hrows
theorem DRel.endT (h : DRel P ops H st D nb0 ρ k0 w0 k a w) {t : Tmp} (hv : ∀ (q : Nat) (s : St) (e : Ent),H[q]? = some (s,some e)→e.wt = some t→D e.i) : Ok ρ (st.tm t) (a.tmps.getD t undef):=by
 have:=h.tmps t H.length (Nat.le_refl _) fun q s e hq ht=>⟨fun _=>(List.getElem?_eq_some_iff.1 hq).1,fun _=>hv q s e hq ht⟩
 rw [stAt_end] at this
 exact this
theorem DRel.endH (h : DRel P ops H st D nb0 ρ k0 w0 k a w) {b : Nat} (hv : ∀ (q : Nat) (s : St) (e : Ent),H[q]? = some (s,some e)→e.wb = some b→D e.i) : BlkRel ρ k0 k w st b:=by
 have:=h.heap b H.length (Nat.le_refl _) fun q s e hq ht=>⟨fun _=>(List.getElem?_eq_some_iff.1 hq).1,fun _=>hv q s e hq ht⟩
 rw [stAt_end] at this
 exact this
theorem DRel.done (h : DRel P ops H st D nb0 ρ k0 w0 k a w) (hall : ∀ (q : Nat) (s : St) (e : Ent),H[q]? = some (s,some e)→D e.i) : Rel st ρ k0 w0 k a w where
 anc:=h.anc
 up:=h.up
 dep:=h.dep
 env:=h.env
 kinds:=h.kinds
 vals:=h.vals
 blks:=fun b hb=>by
  cases hn : ρ.blk b with
  | none=>rfl
  | some n =>
   have hend:=h.nb H.length
   rw [stAt_end] at hend
   rcases h.blks b n hn with h1 | ⟨q,s,e,h1,h2,h3⟩
   ·omega
   ·obtain ⟨_,f2,f3⟩:=(h.fw q s _ h1).al e b rfl h2
    have hql:=(List.getElem?_eq_some_iff.1 h1).1
    have:=h.fwL (p:=q+1) (p':=H.length) (by omega) (Nat.le_refl _)
    rw [stAt_end] at this
    omega
 inj:=h.inj
 size:=h.size
 tmps:=fun t=>h.endT fun q s e hq _=>hall q s e hq
 defers:=h.defers
 sees:=h.sees
 base:=h.base
 kb:=h.kb
 wb:=h.wb
 heap:=fun b=>h.endH fun q s e hq _=>hall q s e hq
 mem:=h.mem
 rows:=h.rows
theorem DRel.at (h : DRel P ops H st D nb0 ρ k0 w0 k a w) : DRel P ops H st D nb0 (ρ.at k) k0 w0 k a w :=
 have hle:=Env.at_le h.mem
 { h with
   anc:=h.anc.trans hle
   tmps:=fun t p hp hv=>(h.tmps t p hp hv).le hle
   heap:=fun b p hp hv=>(h.heap b p hp hv).mono hle (Below.refl _ _) (fun _ _ _=>rfl)
   pend:=fun q s e h1 h2=>(h.pend q s e h1 h2).le hle
   fw:=fun q s oe h1=>let f:=h.fw q s oe h1; ⟨fun ρ2 h2=>f.tmps ρ2 (hle.trans h2),f.heap,f.size,f.grow,f.al⟩
   mem:=fun _ _ h=>h
   pubs:=fun p=>(h.pubs p).le hle
   rows:=h.rows.mono hle (fun b _g e _=>⟨b,e⟩) (fun _ e _=>e) (fun _ _ _=>rfl) }
theorem DRel.called (h : DRel P ops H st D nb0 ρ k0 w0 k a w) {e : Ent} {lks : List LK} {us : List Value} {res : SV} {v : Value} {k' w' : World} (hf : fitsL lks us)
 (hfresh : ∀ (q : Nat) (s : St) (e' : Ent),H[q]? = some (s,some e')→e'.i ≠ e.i) (hconf : okConf (masks ops) H e = true) (hwb : e.wb = none) (hal : e.al = none) (hcl : Closed ops (fun i=>D i∨i = e.i))
 (hr : res.den (ρ.ext st.kinds.length lks us) = some v) (hs : Sees k' w') (hk : Below k.heap.size k k') (hw : Below w.heap.size w w') :
 DRel P ops (H ++ [(st,some e)]) ((st.vars lks).put e.wt res) (fun i=>D i∨i = e.i) nb0 (ρ.ext st.kinds.length lks us) k0 w0 k' (a.put e.wt v) w':=by
 have hle : ρ.le (ρ.ext st.kinds.length lks us):=Sy.ext_le ρ lks us h.vals (fun i hi=>by rw [h.kinds,List.getElem?_eq_none hi])
 have htm : ∀ t,((st.vars lks).put e.wt res).tm t = (st.put e.wt res).tm t:=fun t=>by cases e.wt <;> rfl
 have hheap : ((st.vars lks).put e.wt res).heap = st.heap:=by cases e.wt <;> rfl
 have hkinds : ((st.vars lks).put e.wt res).kinds = st.kinds ++ lks:=by cases e.wt <;> rfl
 have hlen : ((st.vars lks).put e.wt res).tmps.length = st.tmps.length:=by cases e.wt <;> simp [St.put,St.vars]
 have hDi : ∀ (q : Nat) (s : St) (e' : Ent),H[q]? = some (s,some e')→((D e'.i∨e'.i = e.i)↔D e'.i):=fun q s e' hq=>⟨fun hh=>hh.resolve_right (hfresh q s e' hq),.inl⟩
 have hfwd : Fw (ρ.ext st.kinds.length lks us) st ((st.vars lks).put e.wt res) (some e):=by
  refine ⟨fun ρ2 _ t ht v hv=>?_,fun b _=>by rw [hheap],hlen,by rw [hheap]; exact Nat.le_refl _,fun e' b he' hb=>?_⟩
  ·rw [htm]
   cases hw : e.wt with
   | none=>exact hv
   | some d=>rw [tm_put,if_neg (fun hh=>ht e rfl (by rw [hw,hh.1]))]; exact hv
  ·injection he' with he'; subst he'; rw [hal] at hb; cases hb
 have hputs : ∀ t,e.wt ≠ some t→(a.put e.wt v).tmps.getD t undef = a.tmps.getD t undef:=fun t ht=>by
  cases hw : e.wt with
  | none=>rfl
  | some d=>rw [tmps_put,if_neg (fun hh=>ht (by rw [hw,hh.1]))]
 have hsz : (a.put e.wt v).tmps.size = a.tmps.size:=by unfold Act.put; split <;> simp
 exact
  { anc:=h.anc.trans hle
    up:=h.up.trans (Up.of_below hk)
    dep:=by have : ((st.vars lks).put e.wt res).depth = st.depth:=by cases e.wt <;> rfl
            rw [this]; exact h.dep
    env:=fun i kk x h1 h2=>by
     have h1 : (if i < st.kinds.length then ρ.kd i else lks[i - st.kinds.length]?) = some kk:=h1
     have h2 : (if i < st.kinds.length then ρ.val i else us[i - st.kinds.length]?) = some x:=h2
     by_cases e : i < st.kinds.length
     ·rw [if_pos e] at h1 h2; exact h.env i kk x h1 h2
     ·rw [if_neg e] at h1 h2; exact (fitsL_get hf).2 _ _ _ h1 h2
    kinds:=fun i=>by
     rw [hkinds]
     show (if i < st.kinds.length then ρ.kd i else lks[i - st.kinds.length]?) = (st.kinds ++ lks)[i]?
     rw [List.getElem?_append]
     split
     ·exact h.kinds i
     ·rfl
    vals:=fun i hi=>by
     rw [hkinds] at hi
     have hi' : st.kinds.length+lks.length≤i:=by simpa using hi
     show (if i < st.kinds.length then ρ.val i else us[i - st.kinds.length]?) = none
     rw [if_neg (by omega)]
     exact List.getElem?_eq_none (by have:=(fitsL_get hf).1; omega)
    inj:=h.inj
    size:=by rw [hsz,hlen]; exact h.size
    defers:=by unfold Act.put; split <;> exact h.defers
    sees:=hs
    base:=h.base
    kb:=h.kb.trans (hk.mono h.kb.size)
    wb:=h.wb.trans (hw.mono h.wb.size)
    lt:=fun b n hb=>Nat.lt_of_lt_of_le (h.lt b n hb) hw.size
    nb:=fun p=>by
     rw [stAt_snoc]
     split
     ·exact h.nb p
     ·rw [hheap]; have:=h.nb H.length; rw [stAt_end] at this; exact this
    blks:=fun b n hb=>by
     rcases h.blks b n hb with h1 | ⟨q,s,e',h1,h2,h3⟩
     ·exact .inl h1
     ·exact .inr ⟨q,s,e',get_old h1,h2,.inl h3⟩
    tmps:=fun t p hp hv=>by
     rw [stAt_snoc]
     by_cases ht : e.wt = some t
     ·have hgt : H.length < p:=(hv H.length st e (get_new H _) ht).1 (.inr rfl)
      rw [if_neg (by omega),htm,ht,tm_put,tmps_put,h.size]
      split
      ·exact .inr hr
      ·rename_i hnot
       have hlt : st.tmps.length≤t:=Nat.le_of_not_lt fun hl=>hnot ⟨rfl,hl⟩
       have hlt2 : a.tmps.size≤t:=by rw [h.size]; exact hlt
       have e1 : st.tm t = undefS:=by unfold St.tm; rw [List.getD_eq_getElem?_getD,List.getElem?_eq_none hlt]; rfl
       have e2 : a.tmps.getD t undef = undef:=by rw [Array.getD_eq_getD_getElem?,Array.getElem?_eq_none hlt2]; rfl
       rw [e1,e2]
       exact .inr rfl
     ·rw [hputs t ht]
      split
      ·rename_i hle'
       exact (h.tmps t p hle' fun q s e' hq ht'=>by rw [← hv q s e' (get_old hq) ht',hDi q s e' hq]).le hle
      ·have hp' : p = H.length+1:=by simp at hp; omega
       have:=h.tmps t H.length (Nat.le_refl _) fun q s e' hq ht'=>by
        rw [← hDi q s e' hq,hv q s e' (get_old hq) ht']
        have:=(List.getElem?_eq_some_iff.1 hq).1
        omega
       rw [stAt_end] at this
       exact hfwd.tmps _ (Env.le.refl _) t (fun e' he'=>by injection he' with he'; subst he'; exact ht) _ (this.le hle)
    heap:=fun b p hp hv=>by
     rw [stAt_snoc]
     have hmono : ∀ s : St,BlkRel ρ k0 k w s b→BlkRel (ρ.ext st.kinds.length lks us) k0 k' w' s b:=fun s hb=>hb.mono hle hk (fun n hn _=>hw.block n hn)
     split
     ·rename_i hle'
      exact hmono _ (h.heap b p hle' fun q s e' hq ht'=>by rw [← hv q s e' (get_old hq) ht',hDi q s e' hq])
     ·have hp' : p = H.length+1:=by simp at hp; omega
      have:=h.heap b H.length (Nat.le_refl _) fun q s e' hq ht'=>by
       rw [← hDi q s e' hq,hv q s e' (get_old hq) ht']
       have:=(List.getElem?_eq_some_iff.1 hq).1
       omega
      rw [stAt_end] at this
      intro blk hblk
      rw [hheap] at hblk
      exact hmono _ this blk hblk
    uniq:=fun q q' s s' e1 e2 h1 h2 h3=>by
     replace h1:=get_snoc h1
     replace h2:=get_snoc h2
     rcases h1 with h1 | ⟨rfl,h1⟩ <;> rcases h2 with h2 | ⟨rfl,h2⟩
     ·exact h.uniq q q' s s' e1 e2 h1 h2 h3
     ·injection h2 with _ h2; injection h2 with h2; subst h2; exact absurd h3 (hfresh q s e1 h1)
     ·injection h1 with _ h1; injection h1 with h1; subst h1; exact absurd h3.symm (hfresh q' s' e2 h2)
     ·rfl
    conf:=fun q q' s s' e1 e2 hlt h1 h2 h3=>by
     replace h1:=get_snoc h1
     replace h2:=get_snoc h2
     rcases h1 with h1 | ⟨rfl,h1⟩ <;> rcases h2 with h2 | ⟨rfl,h2⟩
     ·exact h.conf q q' s s' e1 e2 hlt h1 h2 h3
     ·injection h2 with _ h2; injection h2 with h2; subst h2; exact okConf_spec hconf h1 h3
     ·have:=(List.getElem?_eq_some_iff.1 h2).1; omega
     ·omega
    pend:=fun q s e' h1 h2=>by
     replace h1:=get_snoc h1
     rcases h1 with h1 | ⟨rfl,h1⟩
     ·have hql:=(List.getElem?_eq_some_iff.1 h1).1
      rw [stAt_snoc,if_pos (by omega)]
      exact (h.pend q s e' h1 (fun hh=>h2 (.inl hh))).le hle
     ·injection h1 with _ h1; injection h1 with h1; subst h1; exact absurd (.inr rfl) h2
    dsub:=fun i hi=>by
     rcases hi with hi | hi
     ·obtain ⟨q,s,e',h1,h2⟩:=h.dsub i hi
      exact ⟨q,s,e',get_old h1,h2⟩
     ·exact ⟨H.length,st,e,get_new H _,hi.symm⟩
    dcl:=hcl
    pubs:=fun p=>by
     rw [stAt_snoc]
     split
     ·exact (h.pubs p).le hle
     ·have:=h.pubs H.length
      rw [stAt_end] at this
      have e : ((st.vars lks).put e.wt res).hp = st.hp:=by unfold St.hp; rw [hheap]
      rw [e]; exact this.le hle
    fw:=fun q s oe' h1=>by
     replace h1:=get_snoc h1
     rcases h1 with h1 | ⟨rfl,h1⟩
     ·have hql:=(List.getElem?_eq_some_iff.1 h1).1
      rw [stAt_snoc,if_pos (by omega)]
      obtain ⟨f1,f2,f3,f4,f5⟩:=h.fw q s oe' h1
      exact ⟨fun ρ2 h2=>f1 ρ2 (hle.trans h2),f2,f3,f4,f5⟩
     ·injection h1 with h3 h4
      subst h3 h4
      rw [stAt_snoc,if_neg (by omega)]
      exact hfwd
    mem:=fun A v hv=>(Up.of_below hk).cell (h.mem A v hv)
    rows:=by
     have e : ((st.vars lks).put e.wt res).rows = st.rows:=by cases e.wt <;> rfl
     rw [e]
     exact h.rows.mono hle (fun b g e _=>⟨b,e⟩) (fun g e _=>(hk.block _ (heap_lt e)).trans e) (fun g hg _=>hw.block g hg)
    rowsEq:=fun p=>by
     have e : ((st.vars lks).put e.wt res).rows = st.rows:=by cases e.wt <;> rfl
     rw [stAt_snoc,e]
     split
     ·exact h.rowsEq p
     ·exact e }
theorem DRel.named (h : DRel P ops H st D nb0 ρ k0 w0 k a w) {lks : List LK} {us : List Value} (hf : fitsL lks us) : DRel P ops (H ++ [(st,none)]) (st.vars lks) D nb0 (ρ.ext st.kinds.length lks us) k0 w0 k a w:=by
 have hle : ρ.le (ρ.ext st.kinds.length lks us):=Sy.ext_le ρ lks us h.vals (fun i hi=>by rw [h.kinds,List.getElem?_eq_none hi])
 have hfwd : Fw (ρ.ext st.kinds.length lks us) st (st.vars lks) none:=⟨fun _ _ t _ v hv=>hv,fun b _=>rfl,rfl,Nat.le_refl _,fun e b he=>by cases he⟩
 exact
  { anc:=h.anc.trans hle
    up:=h.up
    dep:=h.dep
    env:=fun i kk x h1 h2=>by
     have h1 : (if i < st.kinds.length then ρ.kd i else lks[i - st.kinds.length]?) = some kk:=h1
     have h2 : (if i < st.kinds.length then ρ.val i else us[i - st.kinds.length]?) = some x:=h2
     by_cases e : i < st.kinds.length
     ·rw [if_pos e] at h1 h2; exact h.env i kk x h1 h2
     ·rw [if_neg e] at h1 h2; exact (fitsL_get hf).2 _ _ _ h1 h2
    kinds:=fun i=>by
     show (if i < st.kinds.length then ρ.kd i else lks[i - st.kinds.length]?) = (st.kinds ++ lks)[i]?
     rw [List.getElem?_append]
     split
     ·exact h.kinds i
     ·rfl
    vals:=fun i hi=>by
     have hi' : st.kinds.length+lks.length≤i:=by simpa [St.vars] using hi
     show (if i < st.kinds.length then ρ.val i else us[i - st.kinds.length]?) = none
     rw [if_neg (by omega)]
     exact List.getElem?_eq_none (by have:=(fitsL_get hf).1; omega)
    inj:=h.inj
    size:=h.size
    defers:=h.defers
    sees:=h.sees
    base:=h.base
    kb:=h.kb
    wb:=h.wb
    lt:=h.lt
    nb:=fun p=>by
     rw [stAt_snoc]
     split
     ·exact h.nb p
     ·have:=h.nb H.length; rw [stAt_end] at this; exact this
    blks:=fun b n hb=>by
     rcases h.blks b n hb with h1 | ⟨q,s,e',h1,h2,h3⟩
     ·exact .inl h1
     ·exact .inr ⟨q,s,e',get_old h1,h2,h3⟩
    tmps:=fun t p hp hv=>by
     rw [stAt_snoc]
     split
     ·rename_i hle'
      exact (h.tmps t p hle' fun q s e' hq ht'=>hv q s e' (get_old hq) ht').le hle
     ·have hp' : p = H.length+1:=by simp at hp; omega
      have:=h.tmps t H.length (Nat.le_refl _) fun q s e' hq ht'=>by
       rw [hv q s e' (get_old hq) ht']
       have:=(List.getElem?_eq_some_iff.1 hq).1
       omega
      rw [stAt_end] at this
      exact this.le hle
    heap:=fun b p hp hv=>by
     rw [stAt_snoc]
     split
     ·rename_i hle'
      exact (h.heap b p hle' fun q s e' hq ht'=>hv q s e' (get_old hq) ht').mono hle (Below.refl _ _) (fun _ _ _=>rfl)
     ·have hp' : p = H.length+1:=by simp at hp; omega
      have:=h.heap b H.length (Nat.le_refl _) fun q s e' hq ht'=>by
       rw [hv q s e' (get_old hq) ht']
       have:=(List.getElem?_eq_some_iff.1 hq).1
       omega
      rw [stAt_end] at this
      exact this.mono hle (Below.refl _ _) (fun _ _ _=>rfl)
    uniq:=fun q q' s s' e1 e2 h1 h2 h3=>by
     replace h1:=get_snoc h1
     replace h2:=get_snoc h2
     rcases h1 with h1 | ⟨rfl,h1⟩ <;> rcases h2 with h2 | ⟨rfl,h2⟩
     ·exact h.uniq q q' s s' e1 e2 h1 h2 h3
     ·injection h2 with _ h2; cases h2
     ·injection h1 with _ h1; cases h1
     ·rfl
    conf:=fun q q' s s' e1 e2 hlt h1 h2 h3=>by
     replace h1:=get_snoc h1
     replace h2:=get_snoc h2
     rcases h1 with h1 | ⟨rfl,h1⟩ <;> rcases h2 with h2 | ⟨rfl,h2⟩
     ·exact h.conf q q' s s' e1 e2 hlt h1 h2 h3
     ·injection h2 with _ h2; cases h2
     ·injection h1 with _ h1; cases h1
     ·omega
    pend:=fun q s e' h1 h2=>by
     replace h1:=get_snoc h1
     rcases h1 with h1 | ⟨rfl,h1⟩
     ·have hql:=(List.getElem?_eq_some_iff.1 h1).1
      rw [stAt_snoc,if_pos (by omega)]
      exact (h.pend q s e' h1 h2).le hle
     ·injection h1 with _ h1; cases h1
    dsub:=fun i hi=>by
     obtain ⟨q,s,e',h1,h2⟩:=h.dsub i hi
     exact ⟨q,s,e',get_old h1,h2⟩
    dcl:=h.dcl
    pubs:=fun p=>by
     rw [stAt_snoc]
     split
     ·exact (h.pubs p).le hle
     ·have:=h.pubs H.length
      rw [stAt_end] at this
      exact this.le hle
    fw:=fun q s oe' h1=>by
     replace h1:=get_snoc h1
     rcases h1 with h1 | ⟨rfl,h1⟩
     ·have hql:=(List.getElem?_eq_some_iff.1 h1).1
      rw [stAt_snoc,if_pos (by omega)]
      obtain ⟨f1,f2,f3,f4,f5⟩:=h.fw q s oe' h1
      exact ⟨fun ρ2 h2=>f1 ρ2 (hle.trans h2),f2,f3,f4,f5⟩
     ·injection h1 with h3 h4
      subst h3 h4
      rw [stAt_snoc,if_neg (by omega)]
      exact hfwd
    mem:=h.mem
    rows:=h.rows.mono hle (fun b g e _=>⟨b,e⟩) (fun _ e _=>e) (fun _ _ _=>rfl)
    rowsEq:=fun p=>by
     rw [stAt_snoc]
     split
     ·exact h.rowsEq p
     ·rfl }
end
end Go.Proofs.YtpjakokgmgggiaaGreat.Sy
