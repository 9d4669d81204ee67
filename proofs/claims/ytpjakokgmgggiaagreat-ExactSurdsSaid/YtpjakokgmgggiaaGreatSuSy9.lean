/- A symbolic executor of the model's code: regions that draw their order. -/
import Derived.Test.YtpjakokgmgggiaaGreatSuSy8
namespace Go.Proofs.YtpjakokgmgggiaaGreat.Sy
open Go.RowKit
structure Ent where
 i : Nat
 rt : List Tmp
 wt : Option Tmp
 rb : Option Nat
 wb : Option Nat
 al : Option Nat
 deriving Inhabited
abbrev Hist:=List (St × Option Ent)
def conflict (e e' : Ent) : Bool :=
 (match e.wt with | some t=>e'.rt.contains t || e'.wt == some t | none=>false) ||
 (match e'.wt with | some t=>e.rt.contains t | none=>false) ||
 (match e.wb with | some b=>e'.rb == some b || e'.wb == some b | none=>false) ||
 (match e'.wb with | some b=>e.rb == some b | none=>false)
def maskOf (acc : List Nat) (o : Oper) : Nat:=o.after.toList.foldl (fun s e=>if Region.binds .any e then s ||| 2 ^ e.on ||| acc.getD e.on 0 else s) 0
def masksL : List Oper→List Nat→List Nat
 | [],acc=>acc
 | o :: os,acc=>masksL os (acc ++ [maskOf acc o])
def masks (ops : Array Oper) : List Nat:=masksL ops.toList []
def okConf (ms : List Nat) (H : Hist) (e' : Ent) : Bool :=
 H.all fun p=>match p.2 with
  | some e=>!conflict e e' || (ms.getD e'.i 0).testBit e.i
  | none=>true
def tmpsOf (ops : Array Oper) (o : Oper) : List Tmp :=
 (o.op.operands.toList.filterMap fun | .tmp t=>some t | _=>none) ++
 (match o.guard with | some (j,_)=>((ops[j]?).bind (·.dst)).toList | none=>[])
inductive GRes where
 | yes | no
 | open_ (t : Tmp) (c : SC)
 | bad
def guardOf (ops : Array Oper) (st : St) (o : Oper) : GRes :=
 match o.guard with
 | none=>.yes
 | some (j,want)=>match (ops[j]?).bind (·.dst) with
  | some t=>match st.tm t with
   | .one (.lit (.bool b))=>if b = want then .yes else .no
   | .one (.lit _)=>.no
   | .one c=>.open_ t c
   | _=>.bad
  | none=>.bad
def isCall (o : Oper) : Bool :=
 match o.op with
 | .call c=>match c.callee with
  | .value _=>true
  | .invoke _ _=>true
  | _=>false
 | _=>false
def callArgs (ops : Array Oper) : List Tmp:=ops.toList.flatMap fun o=>match o.op with
 | .call c=>match c.callee with
  | .value _=>c.args.toList.filterMap fun | .tmp t=>some t | _=>none
  | _=>[]
 | _=>[]
def isLit (ops : Array Oper) (o : Oper) : Bool :=
 match o.op,o.dst with
 | .buildSlice _ _ _,some d=>(callArgs ops).contains d
 | _,_=>false
def quietNow (ops : Array Oper) (st : St) (i : Nat) : Bool :=
 match ops[i]? with
 | none=>false
 | some o=>match guardOf ops st o with
  | .yes=>!isCall o && !isLit ops o
  | .no=>true
  | .open_ _ _=>true
  | .bad=>false
def defD (st : St) (v : SV) (K : St→Hist→SV→T) : T :=
 if simple v then K st [] v else match v with
  | .one (.elem (.slr w) i s j)=>match rowOf st w with
   | some _=>.need (.idx i (.len (.var w))) (K st [] (.one (.elem (.slr w) i s j)))
   | none=>.elem (.slr w) i (K st [] (.one (.elem (.slr w) i s j)))
  | .one (.elem a i s j)=>.elem a i (K st [] (.one (.elem a i s j)))
  | .one (.slc a lo hi s)=>.name (.one (.slc a lo hi s)) st.kinds.length [.slice] (.one (.var st.kinds.length)) (K (st.vars [.slice]) [(st,none)] (.one (.var st.kinds.length)))
  | v=>.defd v (K st [] v)
def drawnT (P : Program) (cfg : Cfg) (ops : Array Oper) (ms : List Nat) : Nat→Array Bool→Hist→St→(St→T)→T
 | 0, _, _, _, _ => .fail "drawn: fuel"
 | n+1,E,H,st,K =>
  match Region.ready .any ops E with
  | []=>K st
  | r :: rs =>
   match (r :: rs).find? (quietNow ops st) with
   | some i=>match ops[i]? with
    | none => .fail "drawn"
    | some o=>match guardOf ops st o with
     | .bad => .fail "drawn: guard"
     | .open_ t c=>.branch c (drawnT P cfg ops ms n E (H ++ [(st,none)]) (st.put (some t) (.one (.lit (.bool true)))) K) (drawnT P cfg ops ms n E (H ++ [(st,none)]) (st.put (some t) (.one (.lit (.bool false)))) K)
     | .no =>
      let e : Ent:={ i,rt:=tmpsOf ops o,wt:=o.dst,rb:=none,wb:=none,al:=none }
      if okConf ms H e then drawnT P cfg ops ms n (E.setIfInBounds i true) (H ++ [(st, some e)]) (st.put o.dst undefS) K else .fail "drawn: conflict"
     | .yes=>match stepOp P st.tm st.hp o with
      | .pure v needs =>
       let e : Ent:={ i,rt:=tmpsOf ops o,wt:=o.dst,rb:=none,wb:=none,al:=none }
       if okConf ms H e then needsT needs (defD st v fun st1 H1 v1 => drawnT P cfg ops ms n (E.setIfInBounds i true) (H ++ H1 ++ [(st1, some e)]) (st1.put o.dst v1) K) else .fail "drawn: conflict"
      | .read a i' s j t =>
       let e : Ent:={ i,rt:=tmpsOf ops o,wt:=o.dst,rb:=none,wb:=none,al:=none }
       if okConf ms H e then readT P cfg st none a i' s j t fun v st1 => drawnT P cfg ops ms n (E.setIfInBounds i true) (H ++ [(st, none)] ++ [(st1, some e)]) (st1.put o.dst v) K else .fail "drawn: conflict"
      | .getw w i' s j t =>
       let e : Ent:={ i,rt:=tmpsOf ops o,wt:=o.dst,rb:=none,wb:=none,al:=none }
       if okConf ms H e then readT P cfg st (some w) (.slr w) i' s j t fun v st1 => drawnT P cfg ops ms n (E.setIfInBounds i true) (H ++ [(st, none)] ++ [(st1, some e)]) (st1.put o.dst v) K else .fail "drawn: conflict"
      | .load v b =>
       let e : Ent:={ i,rt:=tmpsOf ops o,wt:=o.dst,rb:=some b,wb:=none,al:=none }
       if okConf ms H e && (st.heap[b]?).isSome then drawnT P cfg ops ms n (E.setIfInBounds i true) (H ++ [(st, some e)]) (st.put o.dst v) K else .fail "drawn: conflict"
      | .alloc ty cs sl =>
       let b:=st.heap.length
       let e : Ent:={ i,rt:=tmpsOf ops o,wt:=o.dst,rb:=none,wb:=some b,al:=some b }
       if okConf ms H e && cs.all (wordless st.kd) then drawnT P cfg ops ms n (E.setIfInBounds i true) (H ++ [(st, some e)]) ((st.new ty cs).put o.dst (resV sl b)) K else .fail "drawn: conflict"
      | .store b cs=>match st.heap[b]? with
       | some blk =>
        let e : Ent:={ i,rt:=tmpsOf ops o,wt:=o.dst,rb:=some b,wb:=some b,al:=none }
        if okConf ms H e && !blk.pub && cs.all (wordless st.kd) then drawnT P cfg ops ms n (E.setIfInBounds i true) (H ++ [(st, some e)]) ((st.setB b cs).put o.dst undefS) K else .fail "drawn: conflict"
       | none => .fail "drawn: store"
      | .call _ _ => .fail "drawn: call"
      | .fail why=>.fail why
   | none=>match rs with
    | []=>match ops[r]? with
     | none => .fail "drawn"
     | some o=>match guardOf ops st o with
      | .yes=>match stepOp P st.tm st.hp o with
       | .call f args =>
        let e : Ent:={ i:=r,rt:=tmpsOf ops o,wt:=o.dst,rb:=none,wb:=none,al:=none }
        let res:=resOf P cfg.opq o.type st.kinds.length
        if okConf ms H e then .call f args st.kinds.length res.2 res.1 (drawnT P cfg ops ms n (E.setIfInBounds r true) (H ++ [(st, some e)]) ((st.vars res.2).put o.dst res.1) K) else .fail "drawn: conflict"
       | .alloc ty cs (some m) =>
        let e : Ent:={ i:=r,rt:=tmpsOf ops o,wt:=o.dst,rb:=none,wb:=none,al:=none }
        if okConf ms H e then .pub ty cs st.kinds.length (drawnT P cfg ops ms n (E.setIfInBounds r true) (H ++ [(st, some e)]) ((st.vars [.any]).put o.dst (.one (.psl st.kinds.length 0 m m))) K) else .fail "drawn: conflict"
       | .fail why=>.fail why
       | _ => .fail "drawn: no call"
      | _ => .fail "drawn: guard"
    | _ => .fail "drawn: two calls"
def Closed (ops : Array Oper) (D : Nat→Prop) : Prop:=∀ (i : Nat) (o : Oper),ops[i]? = some o→D i→∀ e ∈ o.after,Region.binds .any e = true→D e.on
theorem foldMask (acc : List Nat) (j : Nat) : ∀ (l : List Edge) (s : Nat),(l.foldl (fun s e=>if Region.binds .any e then s ||| 2 ^ e.on ||| acc.getD e.on 0 else s) s).testBit j = true →
 s.testBit j = true∨∃ e ∈ l,Region.binds .any e = true∧(e.on = j∨(acc.getD e.on 0).testBit j = true)
 | [],s,h=>.inl h
 | e :: l,s,h=>by
  simp only [List.foldl_cons] at h
  rcases foldMask acc j l _ h with h | ⟨e',h1,h2⟩
  ·split at h
   ·rename_i hb
    simp only [Nat.testBit_or,Bool.or_eq_true] at h
    rcases h with (h | h) | h
    ·exact .inl h
    ·refine .inr ⟨e,by simp,hb,.inl ?_⟩
     rw [Nat.testBit_two_pow] at h
     simpa using h
    ·exact .inr ⟨e,by simp,hb,.inr h⟩
   ·exact .inl h
  ·exact .inr ⟨e',by simp [h1],h2⟩
theorem masksL_spec (ops : Array Oper) : ∀ (os : List Oper) (acc : List Nat) (pre : List Oper),ops.toList = pre ++ os→acc.length = pre.length →
 (∀ D,Closed ops D→∀ i j,i < acc.length→D i→(acc.getD i 0).testBit j = true→D j) →
 ∀ D,Closed ops D→∀ i j,D i→((masksL os acc).getD i 0).testBit j = true→D j
 | [],acc,pre,_,_,hacc,D,hD,i,j,hi,hj=>by
  unfold masksL at hj
  rcases Nat.lt_or_ge i acc.length with hlt | hge
  ·exact hacc D hD i j hlt hi hj
  ·simp [List.getD_eq_getElem?_getD,List.getElem?_eq_none hge] at hj
 | o :: os,acc,pre,hops,hlen,hacc,D,hD,i,j,hi,hj=>by
  unfold masksL at hj
  refine masksL_spec ops os (acc ++ [maskOf acc o]) (pre ++ [o]) (by simp [hops]) (by simp [hlen]) ?_ D hD i j hi hj
  intro D hD i j hlt hi hj
  rcases Nat.lt_or_ge i acc.length with h | h
  ·refine hacc D hD i j h hi ?_
   simpa [List.getD_eq_getElem?_getD,List.getElem?_append_left h] using hj
  ·have hi0 : i = acc.length:=by simp at hlt; omega
   subst hi0
   have hj' : (maskOf acc o).testBit j = true:=by simpa [List.getD_eq_getElem?_getD] using hj
   have ho : ops[acc.length]? = some o:=by
    rw [← Array.getElem?_toList,hops,hlen]; simp
   rcases foldMask acc j o.after.toList 0 hj' with h0 | ⟨e,h1,h2,h3⟩
   ·simp at h0
   ·have hDe : D e.on:=hD _ _ ho hi e (by simpa using h1) h2
    rcases h3 with h3 | h3
    ·exact h3 ▸ hDe
    ·rcases Nat.lt_or_ge e.on acc.length with h4 | h4
     ·exact hacc D hD e.on j h4 hDe h3
     ·simp [List.getD_eq_getElem?_getD,List.getElem?_eq_none h4] at h3
theorem masks_spec {ops : Array Oper} {D : Nat→Prop} (hD : Closed ops D) {i j : Nat} (hi : D i) (hj : ((masks ops).getD i 0).testBit j = true) : D j :=
 masksL_spec ops ops.toList [] [] rfl rfl (fun _ _ i _ h=>by simp at h) D hD i j hi hj
end Go.Proofs.YtpjakokgmgggiaaGreat.Sy
