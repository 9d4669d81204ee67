/- A symbolic executor of the model's code: a region that draws its order, whole (2). -/
import Derived.Test.YtpjakokgmgggiaaGreatSuSy11
namespace Go.Proofs.YtpjakokgmgggiaaGreat.Sy
open Go.RowKit
section
variable {P : Program} {ops : Array Oper} {D : Nat→Prop} {nb0 : Nat} {ρ : Env} {k0 : Anc} {w0 k w : World} {a : Act} {R : Ctx} {cfg : Cfg}
structure EOk (ops : Array Oper) (E : Array Bool) (H : Hist) : Prop where
 size : E.size = ops.size
 iff : ∀ i,E.getD i false = true↔∃ (q : Nat) (s : St) (e : Ent),H[q]? = some (s,some e)∧e.i = i
 pre : ∀ (q : Nat) (s : St) (e : Ent) (o : Oper),H[q]? = some (s,some e)→ops[e.i]? = some o→∀ ed ∈ o.after,Region.binds .any ed = true→∃ (q' : Nat) (s' : St) (e' : Ent),q' < q∧H[q']? = some (s',some e')∧e'.i = ed.on
theorem getD_set {E : Array Bool} {i : Nat} (hi : i < E.size) (j : Nat) : (E.setIfInBounds i true).getD j false = true↔(E.getD j false = true∨j = i):=by
 rw [Array.getD_eq_getD_getElem?,Array.getD_eq_getD_getElem?,Array.getElem?_setIfInBounds]
 by_cases e : i = j
 ·subst e; simp [hi]
 ·simp [e,Ne.symm e]
theorem getD_false {E : Array Bool} {i : Nat} (h : E.getD i true = false) : i < E.size∧E.getD i false = false:=by
 rw [Array.getD_eq_getD_getElem?] at h ⊢
 rcases Nat.lt_or_ge i E.size with hlt | hge
 ·refine ⟨hlt,?_⟩
  rw [Array.getElem?_eq_getElem hlt] at h ⊢; simpa using h
 ·rw [Array.getElem?_eq_none hge] at h; cases h
theorem EOk.snoc {E : Array Bool} {H : Hist} (h : EOk ops E H) {st : St} {e : Ent} {o : Oper} (hi : E.getD e.i true = false) (ho : ops[e.i]? = some o) (hpre : ∀ ed ∈ o.after,Region.binds .any ed = true→E.getD ed.on false = true) :
 EOk ops (E.setIfInBounds e.i true) (H ++ [(st,some e)]) where
 size:=by simp [h.size]
 iff:=fun i=>by
  rw [getD_set (getD_false hi).1,h.iff]
  constructor
  ·rintro (⟨q,s,e',h1,h2⟩ | rfl)
   ·exact ⟨q,s,e',get_old h1,h2⟩
   ·exact ⟨H.length,st,e,get_new H _,rfl⟩
  ·rintro ⟨q,s,e',h1,h2⟩
   rcases get_snoc h1 with g1 | ⟨rfl,g1⟩
   ·exact .inl ⟨q,s,e',g1,h2⟩
   ·injection g1 with _ g1; injection g1 with g1; subst g1; exact .inr h2.symm
 pre:=fun q s e' o' h1 h2 ed he hb=>by
  rcases get_snoc h1 with g1 | ⟨rfl,g1⟩
  ·obtain ⟨q',s',e2,f1,f2,f3⟩:=h.pre q s e' o' g1 h2 ed he hb
   exact ⟨q',s',e2,f1,get_old f2,f3⟩
  ·injection g1 with _ g1; injection g1 with g1; subst g1
   rw [ho] at h2; injection h2 with h2; subst h2
   obtain ⟨q',s',e2,f1,f2⟩:=(h.iff _).1 (hpre ed he hb)
   exact ⟨q',s',e2,(List.getElem?_eq_some_iff.1 f1).1,get_old f1,f2⟩
theorem EOk.snocNone {E : Array Bool} {H : Hist} (h : EOk ops E H) {st : St} : EOk ops E (H ++ [(st,none)]) where
 size:=h.size
 iff:=fun i=>by
  rw [h.iff]
  constructor
  ·rintro ⟨q,s,e',h1,h2⟩
   exact ⟨q,s,e',get_old h1,h2⟩
  ·rintro ⟨q,s,e',h1,h2⟩
   rcases get_snoc h1 with g1 | ⟨rfl,g1⟩
   ·exact ⟨q,s,e',g1,h2⟩
   ·injection g1 with _ g1; cases g1
 pre:=fun q s e' o' h1 h2 ed he hb=>by
  rcases get_snoc h1 with g1 | ⟨rfl,g1⟩
  ·obtain ⟨q',s',e2,f1,f2,f3⟩:=h.pre q s e' o' g1 h2 ed he hb
   exact ⟨q',s',e2,f1,get_old f2,f3⟩
  ·injection g1 with _ g1; cases g1
def Still (P : Program) (cfg : Cfg) (ops : Array Oper) (R : Ctx) (E : Array Bool) (H : Hist) (st : St) (K : St→T) (ν : Env) (k : World) : Prop :=
 (Region.ready .any ops E = []∧(K st).den P R ν k) ∨
 (∃ (r : Nat) (o : Oper) (f : FuncId) (args : List SV) (e : Ent) (n : Nat),Region.ready .any ops E = [r]∧ops[r]? = some o∧guardOf ops st o = .yes∧stepOp P st.tm st.hp o = .call f args ∧
   e = { i:=r,rt:=tmpsOf ops o,wt:=o.dst,rb:=none,wb:=none,al:=none }∧okConf (masks ops) H e = true ∧
   (T.call f args st.kinds.length (resOf P cfg.opq o.type st.kinds.length).2 (resOf P cfg.opq o.type st.kinds.length).1
     (drawnT P cfg ops (masks ops) n (E.setIfInBounds r true) (H ++ [(st,some e)]) ((st.vars (resOf P cfg.opq o.type st.kinds.length).2).put o.dst (resOf P cfg.opq o.type st.kinds.length).1) K)).den P R ν k) ∨
 (∃ (r : Nat) (o : Oper) (ty : TypeId) (cs : List SC) (m : Nat) (e : Ent) (n : Nat),Region.ready .any ops E = [r]∧ops[r]? = some o∧guardOf ops st o = .yes∧stepOp P st.tm st.hp o = .alloc ty cs (some m) ∧
   e = { i:=r,rt:=tmpsOf ops o,wt:=o.dst,rb:=none,wb:=none,al:=none }∧okConf (masks ops) H e = true ∧
   (T.pub ty cs st.kinds.length (drawnT P cfg ops (masks ops) n (E.setIfInBounds r true) (H ++ [(st,some e)]) ((st.vars [.any]).put o.dst (.one (.psl st.kinds.length 0 m m))) K)).den P R ν k)
theorem Still.up {E : Array Bool} {H : Hist} {st : St} {K : St→T} {ν : Env} {k k' : World} (h : Still P cfg ops R E H st K ν k) (hu : Up k k') : Still P cfg ops R E H st K ν k':=by
 rcases h with ⟨h1,h2⟩ | ⟨r,o,f,args,e,n,h1,h2,h3,h4,h5,h6,h7⟩ | ⟨r,o,ty,cs,m,e,n,h1,h2,h3,h4,h5,h6,h7⟩
 ·exact .inl ⟨h1,T.den_up h2 hu⟩
 ·exact .inr (.inl ⟨r,o,f,args,e,n,h1,h2,h3,h4,h5,h6,T.den_up h7 hu⟩)
 ·exact .inr (.inr ⟨r,o,ty,cs,m,e,n,h1,h2,h3,h4,h5,h6,T.den_up h7 hu⟩)
theorem fw_put {st st1 : St} {o : Oper} {v : SV} {e : Ent} (hwt : e.wt = o.dst) (htm : st1.tmps = st.tmps) (hwb : ∀ b,e.wb ≠ some b→st1.heap[b]? = st.heap[b]?) (hg : st.heap.length≤st1.heap.length)
 (hal : ∀ b,e.al = some b→e.wb = some b∧b = st.heap.length∧st1.heap.length = st.heap.length+1) : Fw ρ st (st1.put o.dst v) (some e):=by
 refine ⟨fun ρ2 _ t ht x hx=>?_,fun b hb=>?_,?_,?_,fun e' b he' hb=>?_⟩
 ·have e1 : (st1.put o.dst v).tm t = (st.put o.dst v).tm t:=by unfold St.put St.tm; cases o.dst <;> simp [htm]
  rw [e1]
  cases hd : o.dst with
  | none=>exact hx
  | some d=>rw [tm_put,if_neg (fun hh=>ht e rfl (by rw [hwt,hd,hh.1]))]; exact hx
 ·rw [put_heap]; exact hwb b (hb e rfl)
 ·cases o.dst <;> simp [St.put,htm]
 ·rw [put_heap]; exact hg
 ·injection he' with he'; subst he'
  rw [put_heap]; exact hal b hb
theorem advance {K : St→T} : ∀ (n : Nat) {E : Array Bool} {H : Hist} {st : St} {ρ : Env},DRel P ops H st D nb0 ρ k0 w0 k a w→EOk ops E H→(drawnT P cfg ops (masks ops) n E H st K).den P R ρ.bare k →
 ∃ E' H' st' ρ',DRel P ops H' st' D nb0 ρ' k0 w0 k a w∧EOk ops E' H'∧Still P cfg ops R E' H' st' K ρ'.bare k
 | 0,E,H,st,ρ,h,hE,hT=>hT.elim
 | n+1,E,H,st,ρ,h,hE,hT=>by
  unfold drawnT at hT
  split at hT
  ·rename_i hr
   exact ⟨E,H,st,ρ,h,hE,.inl ⟨hr,hT⟩⟩
  ·rename_i r rs hr
   split at hT
   ·rename_i i hfind
    have hi : i ∈ Region.ready .any ops E:=by rw [hr]; exact List.mem_of_find?_eq_some hfind
    obtain ⟨hi0,o,ho,hpre⟩:=mem_ready.1 hi
    rw [ho] at hT
    simp only at hT
    have hfresh : ∀ (q : Nat) (s : St) (e' : Ent),H[q]? = some (s,some e')→e'.i ≠ i:=fun q s e' hq he=>by
     have:=(hE.iff i).2 ⟨q,s,e',hq,he⟩
     rw [(getD_false hi0).2] at this; cases this
    have hpbs : PubOk ρ st.hp:=by have:=h.pubs H.length; rw [stAt_end] at this; exact this
    -- one more operation of the history
    have go : ∀ {ρ : Env} {H : Hist} {st : St},DRel P ops H st D nb0 ρ k0 w0 k a w→EOk ops E H→(∀ (q : Nat) (s : St) (e' : Ent),H[q]? = some (s,some e')→e'.i ≠ i)→∀ (e : Ent) (st1 : St) (v : SV),e.i = i→okConf (masks ops) H e = true→Pend P ops ρ st (st1.put o.dst v) e→e.wt = o.dst→st1.tmps = st.tmps→(st1.depth = st.depth∧st1.kinds = st.kinds∧st1.rows = st.rows) →
     PubOk ρ st1.hp→(∀ b,e.wb ≠ some b→st1.heap[b]? = st.heap[b]?)→st.heap.length≤st1.heap.length→(∀ b,e.al = some b→e.wb = some b∧b = st.heap.length∧st1.heap.length = st.heap.length+1) →
     (drawnT P cfg ops (masks ops) n (E.setIfInBounds i true) (H ++ [(st,some e)]) (st1.put o.dst v) K).den P R ρ.bare k →
     ∃ E' H' st' ρ',DRel P ops H' st' D nb0 ρ' k0 w0 k a w∧EOk ops E' H'∧Still P cfg ops R E' H' st' K ρ'.bare k:=by
     intro ρ H st h hE hfresh e st1 v he hc hp hwt htm hkd hpb hwb hg hal hT'
     refine advance n (h.snoc (st':=st1.put o.dst v) (oe:=some e) (by cases o.dst <;> exact hkd.1) (by cases o.dst <;> exact hkd.2.1) (fw_put hwt htm hwb hg hal) (by cases o.dst <;> exact hkd.2.2) (by unfold St.hp; rw [put_heap]; exact hpb) fun e' he'=>?_) ?_ hT'
     ·injection he' with he'; subst he'
      exact ⟨fun q s e' hq=>by rw [he]; exact hfresh q s e' hq,hc,hp⟩
     ·rw [← he]
      exact hE.snoc (by rw [he]; exact hi0) (by rw [he]; exact ho) hpre
    have freshN : ∀ (q : Nat) (s : St) (e' : Ent),(H ++ [(st,none)])[q]? = some (s,some e')→e'.i ≠ i:=fun q s e' hq=>by
     rcases get_snoc hq with hq | ⟨_,hq⟩
     ·exact hfresh q s e' hq
     ·injection hq with _ hq; cases hq
    have confN : ∀ e : Ent,okConf (masks ops) H e = true→okConf (masks ops) (H ++ [(st,none)]) e = true:=fun e he=>by
     unfold okConf at he ⊢
     rw [List.all_append,he]
     rfl
    -- what is read
    have reads : ∀ {v? : Option Nat} {sa i' : SC} {s j : Nat} {t : TypeId},guardOf ops st o = .yes→(∀ v,v? = some v→sa = .slr v)→(stepOp P st.tm st.hp o = .read sa i' s j t∧v? = none∨∃ v,v? = some v∧stepOp P st.tm st.hp o = .getw v i' s j t) →
     okConf (masks ops) H { i,rt:=tmpsOf ops o,wt:=o.dst,rb:=none,wb:=none,al:=none } = true →
     (readT P cfg st v? sa i' s j t fun v st1=>drawnT P cfg ops (masks ops) n (E.setIfInBounds i true) (H ++ [(st,none)] ++ [(st1,some { i,rt:=tmpsOf ops o,wt:=o.dst,rb:=none,wb:=none,al:=none })]) (st1.put o.dst v) K).den P R ρ.bare k →
     ∃ E' H' st' ρ',DRel P ops H' st' D nb0 ρ' k0 w0 k a w∧EOk ops E' H'∧Still P cfg ops R E' H' st' K ρ'.bare k:=by
     intro v? sa i' s j t hg hv? hs hc hT
     have fin : ∀ {m : Nat} {lks : List LK} {res : SV} {us : List Value} {x : Value},fitsL lks us→ShapeOk P t x→res.den (ρ.ext st.kinds.length lks us) = some x →
      ((∃ A n c kk I,sa.den ρ = some (.slice A n c)∧i'.den ρ = some (.int kk I)∧ReadAt ρ.mem A (I.toNat*s+j) m x) ∨
       (∃ v q xs kk I,sa = .slr v∧q ∈ st.rows∧q.v = v∧q.s = s∧ρ.val q.x = some (.agg xs)∧i'.den ρ = some (.int kk I)∧ReadIn xs (I.toNat*s+j) m x)) →
      (drawnT P cfg ops (masks ops) n (E.setIfInBounds i true) (H ++ [(st,none)] ++ [(st.vars lks,some { i,rt:=tmpsOf ops o,wt:=o.dst,rb:=none,wb:=none,al:=none })]) ((st.vars lks).put o.dst res) K).den P R (ρ.ext st.kinds.length lks us).bare k →
      ∃ E' H' st' ρ',DRel P ops H' st' D nb0 ρ' k0 w0 k a w∧EOk ops E' H'∧Still P cfg ops R E' H' st' K ρ'.bare k:=by
      intro m lks res us x hf hsh hres hread hT
      have hn:=h.named hf
      have hle : ρ.le (ρ.ext st.kinds.length lks us):=Sy.ext_le ρ lks us h.vals (fun i hi=>by rw [h.kinds,List.getElem?_eq_none hi])
      have hst : stepOp P (st.vars lks).tm (st.vars lks).hp o = stepOp P st.tm st.hp o:=rfl
      have hgd : guardOf ops (st.vars lks) o = guardOf ops st o:=rfl
      refine go hn hE.snocNone freshN _ (st.vars lks) res rfl (confN _ hc) ⟨o,ho,rfl,rfl,.inr ⟨hgd.trans hg,.inr (.inl ⟨res,x,?_,hres,rfl,rfl,rfl⟩)⟩⟩ rfl rfl ⟨rfl,rfl,rfl⟩ (hpbs.le hle) (fun _ _=>rfl) (Nat.le_refl _) (fun b hb=>by cases hb) hT
      refine ReadNow.le (ρ:=ρ) ?_ hle
      refine ⟨sa,i',s,j,t,m,?_,hsh,hread⟩
      rcases hs with ⟨hs,_⟩ | ⟨v,hv,hs⟩
      ·exact .inl (hst.trans hs)
      ·exact .inr ⟨v,hv? v hv,hst.trans hs⟩
     unfold readT at hT
     split at hT
     ·rename_i m hm
      split at hT
      ·rename_i hsh
       generalize hl : (resOf P cfg.opq t st.kinds.length).2 = lks at hT
       generalize hr : (resOf P cfg.opq t st.kinds.length).1 = res at hT hsh
       have key : (T.read sa i' s j m st.kinds.length lks res (drawnT P cfg ops (masks ops) n (E.setIfInBounds i true) (H ++ [(st,none)] ++ [(st.vars lks,some { i,rt:=tmpsOf ops o,wt:=o.dst,rb:=none,wb:=none,al:=none })]) ((st.vars lks).put o.dst res) K)).den P R ρ.bare k →
        ∃ E' H' st' ρ',DRel P ops H' st' D nb0 ρ' k0 w0 k a w∧EOk ops E' H'∧Still P cfg ops R E' H' st' K ρ'.bare k:=by
        intro hT
        unfold T.den at hT
        split at hT
        ·rename_i e1 e2
         obtain ⟨us,hf,hu⟩:=exL_elim hT
         split at hu
         ·rename_i x hx
          have hx':=bare_den (ρ:=ρ.ext st.kinds.length lks us) hx
          exact fin hf (shape_ok hsh hm hx' hu.1.1) hx' (.inl ⟨_,_,_,_,_,SC.den_le (Env.bare_le ρ) e1,SC.den_le (Env.bare_le ρ) e2,hu.1⟩) hu.2
         ·exact hu.elim
        ·exact hT.elim
       unfold readT2 at hT
       split at hT
       ·rename_i v
        split at hT
        ·rename_i q hq
         obtain ⟨hq1,hq2⟩:=rowOf_mem hq
         split at hT
         ·rename_i hqs
          unfold T.den at hT
          split at hT
          ·rename_i e1 e2
           obtain ⟨us,hf,hu⟩:=exL_elim hT
           split at hu
           ·rename_i x hx
            have hx':=bare_den (ρ:=ρ.ext st.kinds.length lks us) hx
            exact fin hf (shape_ok hsh hm hx' hu.1.1) hx' (.inr ⟨v,q,_,_,_,hv? v rfl,hq1,hq2,hqs,e1,SC.den_le (Env.bare_le ρ) e2,hu.1⟩) hu.2
           ·exact hu.elim
          ·exact hT.elim
         ·exact hT.elim
        ·exact key hT
       ·exact key hT
      ·exact hT.elim
     ·exact hT.elim
    split at hT
    ·exact hT.elim
    ·-- an open guard
     rename_i t c hg
     unfold T.den at hT
     split at hT
     ·rename_i b hb
      have hcond : ∃ b',c.den ρ.bare = some (.bool b')∧(drawnT P cfg ops (masks ops) n E (H ++ [(st,none)]) (st.put (some t) (.one (.lit (.bool b')))) K).den P R ρ.bare k:=by
       cases b
       ·exact ⟨false,hb,hT.2 rfl⟩
       ·exact ⟨true,hb,hT.1 rfl⟩
      obtain ⟨b',hb',hT'⟩:=hcond
      have hc : st.tm t = .one c:=by
       unfold guardOf at hg
       split at hg
       ·cases hg
       ·split at hg
        ·split at hg
         ·split at hg <;> cases hg
         ·cases hg
         ·rename_i hst; injection hg with e1 e2; subst e1 e2; exact hst
         ·cases hg
        ·cases hg
      refine advance n (h.snoc (st':=st.put (some t) (.one (.lit (.bool b')))) (oe:=none) rfl rfl ⟨fun ρ2 h2 t' _ x hx=>?_,fun b _=>rfl,by simp [St.put],Nat.le_refl _,fun e b he=>by cases he⟩ rfl hpbs fun e he=>by cases he) hE.snocNone hT'
      rw [tm_put]
      split
      ·rename_i hh
       obtain ⟨rfl,_⟩:=hh
       rw [hc] at hx
       rcases hx with hx | hx
       ·cases hx
       ·simp only [SV.den] at hx
        rw [SC.den_le ((Env.bare_le ρ).trans h2) hb'] at hx
        injection hx with hx; subst hx
        exact .inr rfl
      ·exact hx
     ·exact hT.elim
    ·-- skipped
     rename_i hg
     split at hT
     ·rename_i hc
      exact go h hE hfresh _ st undefS rfl hc ⟨o,ho,rfl,rfl,.inl ⟨hg,rfl,rfl,rfl⟩⟩ rfl rfl ⟨rfl,rfl,rfl⟩ hpbs (fun _ _=>rfl) (Nat.le_refl _) (fun b hb=>by cases hb) hT
     ·exact hT.elim
    ·rename_i hg
     split at hT
     ·rename_i v needs hs
      split at hT
      ·rename_i hc
       obtain ⟨n1,n2⟩:=needsT_den hT
       have hneeds : ∀ c ∈ needs,c.den ρ = some (.bool true):=fun c hc=>SC.den_le (Env.bare_le ρ) (n1 c hc)
       unfold defD at n2
       split at n2
       ·rename_i hsim
        simp only [List.append_nil] at n2
        exact go h hE hfresh _ st v rfl hc ⟨o,ho,rfl,rfl,.inr ⟨hg,.inl ⟨v,v,needs,hs,hneeds,.inl ⟨hsim,rfl⟩,rfl,rfl,rfl⟩⟩⟩ rfl rfl ⟨rfl,rfl,rfl⟩ hpbs (fun _ _=>rfl) (Nat.le_refl _) (fun b hb=>by cases hb) n2
       ·have gen : ∀ {sa si : SC} {s j : Nat} {K' : T},v = .one (.elem sa si s j)→(T.elem sa si K').den P R ρ.bare k→(∃ x,v.den ρ = some x)∧K'.den P R ρ.bare k:=by
         intro sa si s j K' hv hG
         clear n2
         rw [hv]
         unfold T.den at hG
         split at hG
         ·rename_i A nn c kk I e1 e2
          obtain ⟨⟨b,o',rfl⟩,⟨h0,h1⟩,hG⟩:=hG
          have hx : (SV.one (.elem sa si s j)).den ρ = some (.pointer (some ⟨b,o'+I.toNat*s+j,none⟩)):=by
           simp only [SV.den,SC.den,SC.den_le (Env.bare_le ρ) e1,SC.den_le (Env.bare_le ρ) e2,elemD,h0,h1,and_self,if_true]
          exact ⟨⟨_,hx⟩,hG⟩
         ·exact hG.elim
        have fin : (∃ x,v.den ρ = some x)→(drawnT P cfg ops (masks ops) n (E.setIfInBounds i true) (H ++ [] ++ [(st,some { i,rt:=tmpsOf ops o,wt:=o.dst,rb:=none,wb:=none,al:=none })]) (st.put o.dst v) K).den P R ρ.bare k →
         ∃ E' H' st' ρ',DRel P ops H' st' D nb0 ρ' k0 w0 k a w∧EOk ops E' H'∧Still P cfg ops R E' H' st' K ρ'.bare k:=by
         rintro ⟨x,hx⟩ n2
         simp only [List.append_nil] at n2
         exact go h hE hfresh _ st _ rfl hc ⟨o,ho,rfl,rfl,.inr ⟨hg,.inl ⟨_,_,needs,hs,hneeds,.inr ⟨_,hx,hx⟩,rfl,rfl,rfl⟩⟩⟩ rfl rfl ⟨rfl,rfl,rfl⟩ hpbs (fun _ _=>rfl) (Nat.le_refl _) (fun b hb=>by cases hb) n2
        split at n2
        ·rename_i y si s j _
         split at n2
         ·rename_i q hq
          obtain ⟨hq1,hq2⟩:=rowOf_mem hq
          unfold T.den at n2
          split at n2
          ·rename_i b hb
           obtain ⟨rfl,n2⟩:=n2
           exact fin (elem_row (s:=s) (j:=j) (h.rows.ok q hq1) hq2 (SC.den_le (Env.bare_le ρ) hb)) n2
          ·exact n2.elim
         ·obtain ⟨n3,n4⟩:=gen rfl n2
          exact fin n3 n4
        ·obtain ⟨n3,n4⟩:=gen rfl n2
         exact fin n3 n4
        ·rename_i sa lo hi s _
         unfold T.den at n2
         obtain ⟨us,hf,hu⟩:=exL_elim n2
         split at hu
         ·rename_i x hx
          have hxv:=bare_den hu.1
          have hx' : (SV.one (.var st.kinds.length)).den (ρ.ext st.kinds.length [.slice] us) = some x:=bare_den (ρ:=ρ.ext st.kinds.length [.slice] us) hx
          have hle : ρ.le (ρ.ext st.kinds.length [.slice] us):=Sy.ext_le ρ _ us h.vals (fun i hi=>by rw [h.kinds,List.getElem?_eq_none hi])
          have hgd : guardOf ops (st.vars [.slice]) o = guardOf ops st o:=rfl
          have hst : stepOp P (st.vars [.slice]).tm (st.vars [.slice]).hp o = stepOp P st.tm st.hp o:=rfl
          exact go (h.named hf) hE.snocNone freshN _ (st.vars [.slice]) _ rfl (confN _ hc) ⟨o,ho,rfl,rfl,.inr ⟨hgd.trans hg,.inl ⟨_,_,needs,hst.trans hs,fun c hc=>SC.den_le hle (hneeds c hc),.inr ⟨x,SV.den_le hle hxv,hx'⟩,rfl,rfl,rfl⟩⟩⟩ rfl rfl ⟨rfl,rfl,rfl⟩ (hpbs.le hle) (fun _ _=>rfl) (Nat.le_refl _) (fun b hb=>by cases hb) hu.2
         ·exact hu.elim
        ·unfold T.den at n2
         split at n2
         ·rename_i x hx
          simp only [List.append_nil] at n2
          exact go h hE hfresh _ st _ rfl hc ⟨o,ho,rfl,rfl,.inr ⟨hg,.inl ⟨_,_,needs,hs,hneeds,.inr ⟨x,bare_den hx,bare_den hx⟩,rfl,rfl,rfl⟩⟩⟩ rfl rfl ⟨rfl,rfl,rfl⟩ hpbs (fun _ _=>rfl) (Nat.le_refl _) (fun b hb=>by cases hb) n2
         ·exact n2.elim
      ·exact hT.elim
     ·rename_i sa si s j t hs
      split at hT
      ·rename_i hc
       exact reads hg (fun v e=>by cases e) (.inl ⟨hs,rfl⟩) hc hT
      ·exact hT.elim
     ·rename_i v si s j t hs
      split at hT
      ·rename_i hc
       exact reads hg (fun v' e=>by injection e with e; rw [e]) (.inr ⟨v,rfl,hs⟩) hc hT
      ·exact hT.elim
     ·rename_i v b hs
      split at hT
      ·rename_i hc
       simp only [Bool.and_eq_true] at hc
       obtain ⟨blk,hblk⟩:=Option.isSome_iff_exists.1 hc.2
       exact go h hE hfresh _ st v rfl hc.1 ⟨o,ho,rfl,rfl,.inr ⟨hg,.inr (.inr (.inl ⟨v,b,blk,hs,rfl,hblk,rfl,rfl,rfl⟩))⟩⟩ rfl rfl ⟨rfl,rfl,rfl⟩ hpbs (fun _ _=>rfl) (Nat.le_refl _) (fun b hb=>by cases hb) hT
      ·exact hT.elim
     ·rename_i ty cs sl hs
      split at hT
      ·rename_i hc
       simp only [Bool.and_eq_true] at hc
       have hkd : st.kd = ρ.kd:=funext fun i=>(h.kinds i).symm
       refine go h hE hfresh _ (st.new ty cs) (resV sl st.heap.length) rfl hc.1 ⟨o,ho,rfl,rfl,.inr ⟨hg,.inr (.inr (.inr (.inl ⟨ty,cs,sl,hs,by rw [← hkd]; exact hc.2,rfl,rfl,rfl⟩)))⟩⟩ rfl rfl ⟨rfl,rfl,rfl⟩ ?_ (fun b hb=>?_) (by simp [St.new]) (fun b hb=>?_) hT
       ·intro b blk hb hp
        simp only [St.hp,St.new,List.getElem?_append] at hb
        split at hb
        ·exact hpbs b blk hb hp
        ·have hm:=List.mem_of_getElem? hb
         simp at hm
         subst hm; cases hp
       ·simp only [St.new]
        have hne : b ≠ st.heap.length:=fun e=>hb (by rw [e])
        rw [List.getElem?_append]
        split
        ·rfl
        ·rw [List.getElem?_eq_none (by simp; omega),List.getElem?_eq_none (by omega)]
       ·injection hb with hb; subst hb
        exact ⟨rfl,rfl,by simp [St.new]⟩
      ·exact hT.elim
     ·rename_i b cs hs
      split at hT
      ·rename_i blk hblk
       split at hT
       ·rename_i hc
        simp only [Bool.and_eq_true,Bool.not_eq_true'] at hc
        have hkd : st.kd = ρ.kd:=funext fun i=>(h.kinds i).symm
        refine go h hE hfresh _ (st.setB b cs) undefS rfl hc.1.1 ⟨o,ho,rfl,rfl,.inr ⟨hg,.inr (.inr (.inr (.inr ⟨b,cs,blk,hs,hblk,hc.1.2,by rw [← hkd]; exact hc.2,rfl,rfl,rfl⟩)))⟩⟩ rfl rfl ⟨rfl,rfl,rfl⟩ ?_ (fun b' hb=>?_) (by simp [St.setB]) (fun b hb=>by cases hb) hT
        ·intro b' blk' hb' hp
         simp only [St.hp,St.setB,List.getElem?_modify] at hb'
         by_cases e : b = b'
         ·subst e
          rw [hblk] at hb'
          simp at hb'
          subst hb'
          rw [hc.1.2] at hp; cases hp
         ·simp only [e] at hb'
          have hb'' : st.heap[b']? = some blk':=by simpa using hb'
          exact hpbs b' blk' hb'' hp
        simp only [St.setB,List.getElem?_modify]
        have : b ≠ b':=fun e=>hb (by rw [e])
        simp [this]
       ·exact hT.elim
      ·exact hT.elim
     ·exact hT.elim
     ·exact hT.elim
   ·rename_i hfind
    split at hT
    ·split at hT
     ·exact hT.elim
     ·rename_i o ho
      split at hT
      ·rename_i hg
       split at hT
       ·rename_i f args hs
        simp only at hT
        split at hT
        ·rename_i hc
         exact ⟨E,H,st,ρ,h,hE,.inr (.inl ⟨r,o,f,args,_,n,hr,ho,hg,hs,rfl,hc,hT⟩)⟩
        ·exact hT.elim
       ·rename_i ty cs m hs
        simp only at hT
        split at hT
        ·rename_i hc
         exact ⟨E,H,st,ρ,h,hE,.inr (.inr ⟨r,o,ty,cs,m,_,n,hr,ho,hg,hs,rfl,hc,hT⟩)⟩
        ·exact hT.elim
       ·exact hT.elim
       ·exact hT.elim
      ·exact hT.elim
    ·exact hT.elim
theorem count_set {l : Array Bool} {i : Nat} (h : l.getD i true = false) : l.toList.count false = (l.setIfInBounds i true).toList.count false+1:=by
 have hlt:=(getD_false h).1
 have hv : l[i] = false:=by
  rw [Array.getD_eq_getD_getElem?,Array.getElem?_eq_getElem hlt] at h; simpa using h
 rw [Array.toList_setIfInBounds,List.count_set (by simpa using hlt)]
 have hv' : l.toList[i]'(by simpa using hlt) = false:=by simpa using hv
 simp only [hv']
 have : 0 < l.toList.count false:=List.count_pos_iff.2 (by rw [← hv']; exact List.getElem_mem _)
 have e1 : (if (false == false) = true then 1 else 0 : Nat) = 1:=rfl
 have e2 : (if (true == false) = true then 1 else 0 : Nat) = 0:=rfl
 rw [e1,e2]
 omega
theorem drawn_main {K : St→T} {Q : Exit→Act→World→Prop} (hK : ∀ st' ρ' k' a' w',Rel st' ρ' k0 w0 k' a' w'→(K st').den P R ρ'.bare k'→Q .normal a' w') :
 ∀ (fuel : Nat) {listed E : Array Bool} {H : Hist} {st : St} {ρ : Env} {k : World} {a : Act} {w : World},listed.size = ops.size→listed.toList.count false = fuel →
  DRel P ops H st (fun i=>listed.getD i false = true) nb0 ρ k0 w0 k a w→EOk ops E H→Still P cfg ops R E H st K ρ.bare k→wpAny P .any ops Q fuel listed a w:=by
 -- nothing is left
 have fin : ∀ {listed E : Array Bool} {H : Hist} {st : St} {ρ : Env} {k : World} {a : Act} {w : World},listed.size = ops.size →
  DRel P ops H st (fun i=>listed.getD i false = true) nb0 ρ k0 w0 k a w→EOk ops E H→Still P cfg ops R E H st K ρ.bare k→Region.ready .any ops listed = []→Q .normal a w:=by
  intro listed E H st ρ k a w hsz h hE hS hr
  have hall : ∀ (q : Nat) (s : St) (e : Ent),H[q]? = some (s,some e)→listed.getD e.i false = true:=by
   intro q
   induction q using Nat.strongRecOn with
   | _ q ih =>
    intro s e hq
    cases hl : listed.getD e.i false with
    | true=>rfl
    | false =>
     obtain ⟨o,ho,_⟩:=h.pend q s e hq (by rw [hl]; simp)
     have hlt : e.i < ops.size:=(Array.getElem?_eq_some_iff.1 ho).1
     have : e.i ∈ Region.ready .any ops listed:=mem_ready.2 ⟨by
      rw [Array.getD_eq_getD_getElem?,Array.getElem?_eq_getElem (by omega)] at hl ⊢; simpa using hl,o,ho,fun ed he hb=>by
      obtain ⟨q',s',e',f1,f2,f3⟩:=hE.pre q s e o hq ho ed he hb
      rw [← f3]; exact ih q' f1 s' e' f2⟩
     rw [hr] at this; cases this
  have hEq : E = listed:=by
   apply Array.ext (by rw [hE.size,hsz])
   intro i h1 h2
   have hh : (E.getD i false = true)↔(listed.getD i false = true):=by
    rw [hE.iff]
    constructor
    ·rintro ⟨q,s,e,f1,rfl⟩; exact hall q s e f1
    ·exact h.dsub i
   rw [Array.getD_eq_getD_getElem?,Array.getD_eq_getD_getElem?,Array.getElem?_eq_getElem h1,Array.getElem?_eq_getElem h2] at hh
   simp at hh
   exact hh
  subst hEq
  rcases hS with ⟨_,hS⟩ | ⟨r,o,f,args,e,n,h1,_⟩ | ⟨r,o,ty,cs,m,e,n,h1,_⟩
  ·exact hK _ _ _ _ _ (h.done hall) hS
  ·rw [hr] at h1; cases h1
  ·rw [hr] at h1; cases h1
 intro fuel
 induction fuel with
 | zero =>
  intro listed E H st ρ k a w hsz hc h hE hS
  have hr : Region.ready .any ops listed = []:=by
   cases hr : Region.ready .any ops listed with
   | nil=>rfl
   | cons i rs =>
    have hi : i ∈ Region.ready .any ops listed:=by rw [hr]; simp
    have:=count_set (mem_ready.1 hi).1
    omega
  exact ⟨hr,fin hsz h hE hS hr⟩
 | succ fuel ih =>
  intro listed E H st ρ k a w hsz hc h hE hS
  refine ⟨fun hr=>fin hsz h hE hS hr,fun i hi=>?_⟩
  obtain ⟨hi0,o,ho,hpre⟩:=mem_ready.1 hi
  have hlt:=(getD_false hi0).1
  have hnD : ¬ listed.getD i false = true:=by rw [(getD_false hi0).2]; simp
  have hD' : ∀ j,(listed.setIfInBounds i true).getD j false = true↔(listed.getD j false = true∨j = i):=getD_set hlt
  have hfun : (fun j=>(listed.setIfInBounds i true).getD j false = true) = (fun j=>listed.getD j false = true∨j = i):=funext fun j=>propext (hD' j)
  have hcl : Closed ops (fun j=>listed.getD j false = true∨j = i):=fun j oj hoj hj e he hb=>by
   rcases hj with hj | rfl
   ·exact .inl (h.dcl j oj hoj hj e he hb)
   ·rw [ho] at hoj; injection hoj with hoj; subst hoj
    exact .inl (hpre e he hb)
  have hcount : (listed.setIfInBounds i true).toList.count false = fuel:=by have:=count_set hi0; omega
  cases hEi : E.getD i false with
  | true =>
   obtain ⟨q,s,e,hq,rfl⟩:=(hE.iff i).1 hEi
   refine h.exec hq hnD hcl fun ρ' k' a' w' e1 e2 e3 hup hrel=>?_
   have hb : ρ'.bare = ρ.bare:=by unfold Env.bare; rw [e1,e2,e3]
   refine ih (by simpa using hsz) hcount (by rw [hfun]; exact hrel) hE ?_
   rw [hb]
   exact hS.up hup
  | false =>
   have hiE : i ∈ Region.ready .any ops E:=mem_ready.2 ⟨by
    have : i < E.size:=by rw [hE.size,← hsz]; exact hlt
    rw [Array.getD_eq_getD_getElem?,Array.getElem?_eq_getElem this] at hEi ⊢; simpa using hEi,o,ho,fun ed he hb=>(hE.iff _).2 (h.dsub _ (hpre ed he hb))⟩
   rcases hS with ⟨hr,_⟩ | ⟨r,o',f,args,e,n,h1,h2,h3,h4,h5,h6,h7⟩ | ⟨r,o',ty,cs,m,e,n,h1,h2,h3,h4,h5,h6,h7⟩
   ·rw [hr] at hiE; cases hiE
   ·rw [h1] at hiE
    have hri : i = r:=by simpa using hiE
    subst hri
    rw [ho] at h2; injection h2 with h2; subst h2
    have hei : e.i = i:=by rw [h5]
    have htm : ∀ t ∈ tmpsOf ops o,Ok ρ (st.tm t) (a.tmps.getD t undef):=fun t ht=>h.endT fun q s e' hq ht'=>by
     have:=okConf_spec h6 hq (by rw [h5]; simp only [conflict,ht',Bool.or_eq_true]; exact .inl (.inl (.inl (.inl (by simpa using ht)))))
     rw [hei] at this
     rcases masks_spec hcl (.inr rfl) this with g | g
     ·exact g
     ·have:=(hE.iff i).2 ⟨q,s,e',hq,g⟩
      rw [hEi] at this; cases this
    have hKn : Knows1 ρ st.tm a o:=fun t ht=>htm t (by
     unfold tmpsOf
     exact List.mem_append.2 (.inl (List.mem_filterMap.2 ⟨.tmp t,by simpa using ht,rfl⟩)))
    have hwant : Region.wanted o (yielded ops a.tmps) = true:=by
     unfold guardOf at h3
     unfold Region.wanted
     cases hg : o.guard with
     | none=>rfl
     | some g =>
      obtain ⟨j,want⟩:=g
      rw [hg] at h3
      simp only at h3 ⊢
      cases hj : (ops[j]?).bind (·.dst) with
      | none=>rw [hj] at h3; cases h3
      | some t =>
       rw [hj] at h3
       simp only at h3
       have hok:=htm t (by unfold tmpsOf; refine List.mem_append.2 (.inr ?_); rw [hg]; simp only [hj]; simp)
       split at h3
       ·rename_i b hb
        rw [hb] at hok
        rw [yielded_eq hj (Ok.den_bool hok)]
        split at h3
        ·rename_i hbw; subst hbw; simp
        ·cases h3
       ·cases h3
       ·cases h3
       ·cases h3
    have hpbs : PubOk ρ st.hp:=by have:=h.pubs H.length; rw [stAt_end] at this; exact this
    have hstep:=step_sound (P:=P) (w:=w) (hp:=st.hp) h.env hpbs hKn
    rw [h4] at hstep
    unfold wpOp
    rw [ho]
    simp only
    rw [if_pos hwant]
    left
    unfold Oper.wp
    unfold T.den at h7
    split at h7
    ·rename_i vs hvs
     rw [hstep vs (argsD_le (Env.bare_le ρ) hvs),Oper.upon_enter]
     refine (h7 k (Up.refl k) w h.sees).mono ?_
     rintro e0 w' ⟨v,k',rfl,s1,s2,s3,hex⟩
     obtain ⟨us,hf,hr,ht⟩:=exL_elim hex
     have hr':=bare_den (ρ:=ρ.ext st.kinds.length (resOf P cfg.opq o.type st.kinds.length).2 us) hr
     have hwt : e.wt = o.dst:=by rw [h5]
     have hrel:=h.called (e:=e) hf (fun q s e' hq hh=>by
      have:=(hE.iff i).2 ⟨q,s,e',hq,hh.trans hei⟩
      rw [hEi] at this; cases this) h6 (by rw [h5]) (by rw [h5]) (by rw [hei]; exact hcl) hr' s1 s2 s3
     rw [hwt,hei] at hrel
     have hiE0 : E.getD i true = false:=by
      have : i < E.size:=by rw [hE.size,← hsz]; exact hlt
      rw [Array.getD_eq_getD_getElem?,Array.getElem?_eq_getElem this] at hEi ⊢; simpa using hEi
     have hE' : EOk ops (E.setIfInBounds i true) (H ++ [(st,some e)]):=by
      rw [← hei]
      exact hE.snoc (by rw [hei]; exact hiE0) (by rw [hei]; exact ho) (fun ed he hb=>(hE.iff _).2 (h.dsub _ (hpre ed he hb)))
     obtain ⟨E2,H2,st2,ρ2,a1,a2,a3⟩:=advance n hrel.at hE' ht
     exact ih (by simpa using hsz) hcount (by rw [hfun]; exact a1) a2 a3
    ·exact h7.elim
   ·rw [h1] at hiE
    have hri : i = r:=by simpa using hiE
    subst hri
    rw [ho] at h2; injection h2 with h2; subst h2
    have hei : e.i = i:=by rw [h5]
    have htm : ∀ t ∈ tmpsOf ops o,Ok ρ (st.tm t) (a.tmps.getD t undef):=fun t ht=>h.endT fun q s e' hq ht'=>by
     have:=okConf_spec h6 hq (by rw [h5]; simp only [conflict,ht',Bool.or_eq_true]; exact .inl (.inl (.inl (.inl (by simpa using ht)))))
     rw [hei] at this
     rcases masks_spec hcl (.inr rfl) this with g | g
     ·exact g
     ·have:=(hE.iff i).2 ⟨q,s,e',hq,g⟩
      rw [hEi] at this; cases this
    have hKn : Knows1 ρ st.tm a o:=fun t ht=>htm t (by
     unfold tmpsOf
     exact List.mem_append.2 (.inl (List.mem_filterMap.2 ⟨.tmp t,by simpa using ht,rfl⟩)))
    have hwant : Region.wanted o (yielded ops a.tmps) = true:=by
     unfold guardOf at h3
     unfold Region.wanted
     cases hg : o.guard with
     | none=>rfl
     | some g =>
      obtain ⟨j,want⟩:=g
      rw [hg] at h3
      simp only at h3 ⊢
      cases hj : (ops[j]?).bind (·.dst) with
      | none=>rw [hj] at h3; cases h3
      | some t =>
       rw [hj] at h3
       simp only at h3
       have hok:=htm t (by unfold tmpsOf; refine List.mem_append.2 (.inr ?_); rw [hg]; simp only [hj]; simp)
       split at h3
       ·rename_i b hb
        rw [hb] at hok
        rw [yielded_eq hj (Ok.den_bool hok)]
        split at h3
        ·rename_i hbw; subst hbw; simp
        ·cases h3
       ·cases h3
       ·cases h3
       ·cases h3
    have hpbs : PubOk ρ st.hp:=by have:=h.pubs H.length; rw [stAt_end] at this; exact this
    have hstep:=step_sound (P:=P) (w:=w) (hp:=st.hp) h.env hpbs hKn
    rw [h4] at hstep
    unfold wpOp
    rw [ho]
    simp only
    rw [if_pos hwant]
    left
    unfold Oper.wp
    unfold T.den at h7
    split at h7
    ·rename_i vs hvs
     obtain ⟨vs',g1,g2⟩:=hstep
     rw [cellsD_le (Env.bare_le ρ) hvs] at g1; injection g1 with g1; subst g1
     rw [g2,Oper.upon_value]
     obtain ⟨k',s1,s2,s3,s4,s5⟩:=pub_world h.sees (vs:=vs) ty
     have ht:=h7 w.heap.size k' s2 s5
     have hwt : e.wt = o.dst:=by rw [h5]
     have hv0:=ext_new (ρ:=ρ) (n:=st.kinds.length) (lks:=[LK.any]) (us:=[.pointer (some ⟨w.heap.size,0,none⟩)]) 0
     have hr' : (SV.one (.psl st.kinds.length 0 m m)).den (ρ.ext st.kinds.length [.any] [.pointer (some ⟨w.heap.size,0,none⟩)]) = some (resD (some m) w.heap.size):=by
      have:=hv0.1
      rw [Nat.add_zero] at this
      simp only [SV.den,SC.den,this]
      rfl
     have hrel:=h.called (e:=e) (lks:=[.any]) (us:=[.pointer (some ⟨w.heap.size,0,none⟩)]) ⟨⟨rfl,rfl⟩,trivial⟩ (fun q s e' hq hh=>by
      have:=(hE.iff i).2 ⟨q,s,e',hq,hh.trans hei⟩
      rw [hEi] at this; cases this) h6 (by rw [h5]) (by rw [h5]) (by rw [hei]; exact hcl) hr' s1 s3 s4
     rw [hwt,hei] at hrel
     have hiE0 : E.getD i true = false:=by
      have : i < E.size:=by rw [hE.size,← hsz]; exact hlt
      rw [Array.getD_eq_getD_getElem?,Array.getElem?_eq_getElem this] at hEi ⊢; simpa using hEi
     have hE' : EOk ops (E.setIfInBounds i true) (H ++ [(st,some e)]):=by
      rw [← hei]
      exact hE.snoc (by rw [hei]; exact hiE0) (by rw [hei]; exact ho) (fun ed he hb=>(hE.iff _).2 (h.dsub _ (hpre ed he hb)))
     obtain ⟨E2,H2,st2,ρ2,a1,a2,a3⟩:=advance n hrel.at hE' ht
     exact ih (by simpa using hsz) hcount (by rw [hfun]; exact a1) a2 a3
    ·exact h7.elim
end
end Go.Proofs.YtpjakokgmgggiaaGreat.Sy
