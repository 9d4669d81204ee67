/- A symbolic executor of the model's code: regions that draw, reckoned with bit masks. -/
import Derived.Test.YthiaclljcnincaaGreatApSy12
namespace Go.Proofs.YthiaclljcnincaaGreat.Sy
open Go.RowKit
def dmask (o:Oper):Nat:=o.after.toList.foldl (fun s e=>if Region.binds .any e then s ||| 2^e.on else s) 0
def dmasks (ops:Array Oper):List Nat:=ops.toList.map dmask
def aDu (n:Nat) (dm:List Nat) (E:Nat):List Nat:=(List.range n).filter fun i=>!E.testBit i && ((dm.getD i 0) &&& E == dm.getD i 0)
def okL (m:Nat) (L:List Ent) (e':Ent):Bool:=L.all fun e=>m.testBit e.i || !conflict e e'
def aDg (m:Nat) (L:List Ent):Bool:=L.all fun e=>!e.rr || m.testBit e.i
def evF (P:Program) (ops:Array Oper) (ms:List Nat) (E:Nat) (L:List Ent) (st:St) (r:Nat) (rec:Nat→List Ent→St→T):T:=
 match ops[r]? with
 | none => .fail "drawn"
 | some o=>match aW ops st o with
  | .yes=>match uR P ops st o with
   | some ev=>
    if okL (ms.getD r 0) L { i := r, rt := aS ops o, wt := o.dst, rb := none, wb := none, al := none } && aDg (ms.getD r 0) L then ev.node (rec (E ||| 2 ^ r) ({ i := r, rt := aS ops o, wt := o.dst, rb := none, wb := none, al := none } :: L) (((st.vars ev.pre).row2 ev.rows ev.e ev.s).put o.dst (.one (.slr (st.kinds.length + ev.pre.length))))) else .fail "drawn: conflict"
   | none => .fail "drawn: two calls"
  | _ => .fail "drawn: guard"
def cR (P:Program) (cfg:Cfg) (ops:Array Oper) (ms dm:List Nat):Nat→Nat→List Ent→St→(St→T)→T
 | 0, _, _, _, _ => .fail "drawn: fuel"
 | n+1,E,L,st,K=>
  match aDu ops.size dm E with
  | []=>K st
  | r :: rs=>
   match (r :: rs).find? (tW P ops st) with
   | some i=>match ops[i]? with
    | none => .fail "drawn"
    | some o=>match aW ops st o with
     | .bad => .fail "drawn: guard"
     | .open_ t c=>.branch c (cR P cfg ops ms dm n E L (st.put (some t) (.one (.lit (.bool true)))) K) (cR P cfg ops ms dm n E L (st.put (some t) (.one (.lit (.bool false)))) K)
     | .no=>
      let e:Ent:={ i,rt:=aS ops o,wt:=o.dst,rb:=none,wb:=none,al:=none }
      if okL (ms.getD i 0) L e then cR P cfg ops ms dm n (E ||| 2 ^ i) (e :: L) (st.put o.dst bL) K else .fail "drawn: conflict"
     | .yes=>match bD P st.tm st.hp o with
      | .pure v needs=>
       let e:Ent:={ i,rt:=aS ops o,wt:=o.dst,rb:=none,wb:=none,al:=none }
       if okL (ms.getD i 0) L e then mX needs (aHe st v fun st1 _ v1 => cR P cfg ops ms dm n (E ||| 2 ^ i) (e :: L) (st1.put o.dst v1) K) else .fail "drawn: conflict"
      | .read a i' s j t=>
       let e:Ent:={ i,rt:=aS ops o,wt:=o.dst,rb:=none,wb:=none,al:=none }
       if okL (ms.getD i 0) L e then mH P cfg st none a i' s j t fun v st1 => cR P cfg ops ms dm n (E ||| 2 ^ i) (e :: L) (st1.put o.dst v) K else .fail "drawn: conflict"
      | .getw w i' s j t=>
       let e:Ent:={ i,rt:=aS ops o,wt:=o.dst,rb:=none,wb:=none,al:=none,rr:=true }
       if okL (ms.getD i 0) L e then mH P cfg st (some w) (.slr w) i' s j t fun v st1 => cR P cfg ops ms dm n (E ||| 2 ^ i) (e :: L) (st1.put o.dst v) K else .fail "drawn: conflict"
      | .load v b=>
       let e:Ent:={ i,rt:=aS ops o,wt:=o.dst,rb:=some b,wb:=none,al:=none }
       if okL (ms.getD i 0) L e && (st.heap[b]?).isSome then match aLz v with
        | some lk=>.name v st.kinds.length [lk] (.one (.var st.kinds.length)) (cR P cfg ops ms dm n (E ||| 2^i) (e :: L) ((st.vars [lk]).put o.dst (.one (.var st.kinds.length))) K)
        | none=>cR P cfg ops ms dm n (E ||| 2^i) (e :: L) (st.put o.dst v) K
       else .fail "drawn: conflict"
      | .alloc ty cs sl=>
       let b:=st.heap.length
       let e:Ent:={ i,rt:=aS ops o,wt:=o.dst,rb:=none,wb:=some b,al:=some b }
       if okL (ms.getD i 0) L e && cs.all (wordless st.kd) then cR P cfg ops ms dm n (E ||| 2 ^ i) (e :: L) ((st.new ty cs).put o.dst (tX sl b)) K else .fail "drawn: conflict"
      | .store b cs=>match st.heap[b]? with
       | some blk=>
        let e:Ent:={ i,rt:=aS ops o,wt:=o.dst,rb:=some b,wb:=some b,al:=none }
        if okL (ms.getD i 0) L e && !blk.pub && cs.all (wordless st.kd) then cR P cfg ops ms dm n (E ||| 2 ^ i) (e :: L) ((st.setB b cs).put o.dst bL) K else .fail "drawn: conflict"
       | none => .fail "drawn: store"
      | .call _ _ => .fail "drawn: call"
      | .fail why=>.fail why
   | none=>match rs with
    | []=>match ops[r]? with
     | none => .fail "drawn"
     | some o=>match aW ops st o with
      | .yes=>if (uR P ops st o).isSome=true then evF P ops ms E L st r fun E L st=>cR P cfg ops ms dm n E L st K
       else if aFi o=true then match uX P st o with
       | some ap=>
        let e:Ent:={ i:=r,rt:=aS ops o,wt:=o.dst,rb:=some ap.b,wb:=none,al:=none }
        if okL (ms.getD r 0) L e && aDg (ms.getD r 0) L then .app ap.r.v ap.r.x (.cells ap.cs) (.lit (.int .i64 ap.n)) ap.i.size ap.i.bytes st.kinds.length (cR P cfg ops ms dm n (E ||| 2 ^ r) (e :: L) ((st.row2 (st.without ap.r) ap.e ap.i.size).put o.dst (.one (.slr st.kinds.length))) K) else .fail "drawn: conflict"
       | none => .fail "drawn: append"
       else if aFj st o=true then match wJ P st o with
       | some so=>
        let e:Ent:={ i:=r,rt:=aS ops o,wt:=o.dst,rb:=none,wb:=none,al:=none }
        if okL (ms.getD r 0) L e && aDg (ms.getD r 0) L then .setr so.r.v so.r.x so.i so.r.s so.j so.new st.kinds.length (cR P cfg ops ms dm n (E ||| 2 ^ r) (e :: L) (({ st.vars [LK.row] with rows := st.without so.r ++ [{ so.r with x := st.kinds.length }] } : St).put o.dst bL) K) else .fail "drawn: conflict"
       | none => .fail "drawn: store to a row"
       else match bD P st.tm st.hp o with
       | .call f args=>(match aFw cfg st f args with
       | some q => if aDg (ms.getD ms.length 0) L then .pubr q.v q.x (cR P cfg ops ms dm n E L { st with rows := st.without q } K) else .fail "drawn: conflict"
       | none=>
        let e:Ent:={ i:=r,rt:=aS ops o,wt:=o.dst,rb:=none,wb:=none,al:=none }
        match (if cfg.adopt.contains f then agg3T P o.type else none) with
        | some (ty, z, d) => if okL (ms.getD r 0) L e && aDg (ms.getD r 0) L && decide (0 < z) then .callr3 f args ty z d st.kinds.length (cR P cfg ops ms dm n (E ||| 2 ^ r) (e :: L) (({ st.vars [.slice, .row, .slice, .row, .slice, .row] with rows := st.rows ++ [⟨st.kinds.length, st.kinds.length + 1, ty, z⟩, ⟨st.kinds.length + 2, st.kinds.length + 3, ty, z⟩, ⟨st.kinds.length + 4, st.kinds.length + 5, ty, z⟩] } : St).put o.dst (qG d [.slr st.kinds.length, .slr (st.kinds.length + 2), .slr (st.kinds.length + 4)])) K) else .fail "drawn: conflict"
        | none=>
        let res:=cV P cfg.opq o.type st.kinds.length
        if okL (ms.getD r 0) L e then .call f args st.kinds.length res.2 res.1 (cR P cfg ops ms dm n (E ||| 2 ^ r) (e :: L) ((st.vars res.2).put o.dst res.1) K) else .fail "drawn: conflict")
       | .alloc ty cs (some m)=>
        let e:Ent:={ i:=r,rt:=aS ops o,wt:=o.dst,rb:=none,wb:=none,al:=none }
        if okL (ms.getD r 0) L e then .pub ty cs st.kinds.length (cR P cfg ops ms dm n (E ||| 2 ^ r) (e :: L) ((st.vars [.any]).put o.dst (.one (.psl st.kinds.length 0 m m))) K) else .fail "drawn: conflict"
       | .fail why=>.fail why
       | _ => .fail "drawn: no call"
      | _ => .fail "drawn: guard"
    | [r2]=>.both (evF P ops ms E L st r fun E L st=>cR P cfg ops ms dm n E L st K) (evF P ops ms E L st r2 fun E L st=>cR P cfg ops ms dm n E L st K)
    | _ => .fail "drawn: two calls"
theorem sX (l:List Edge) (s j:Nat):(l.foldl (fun s e=>if Region.binds .any e then s ||| 2^e.on else s) s).testBit j=(s.testBit j || l.any fun e=>Region.binds .any e && e.on == j):=by
 induction l generalizing s with
 | nil=>simp
 | cons e l ih=>
  grind
theorem wR (a m:Nat):(a &&& m == a)=true↔∀j,a.testBit j=true→m.testBit j=true:=by
 rw [beq_iff_eq];constructor
 ·grind
 ·intro h;refine Nat.eq_of_testBit_eq fun j=>?_ <;> simp_all
structure Bits (ops:Array Oper) (E:Array Bool) (m:Nat):Prop where
 size:E.size=ops.size
 bit:∀j,E.getD j false=m.testBit j
theorem Bits.init {ops:Array Oper}:Bits ops (Array.replicate ops.size false) 0 where
 size:=Array.size_replicate
 bit j:=by
  rw [jv,vz,Nat.zero_testBit];split <;> rfl
theorem Bits.set {ops:Array Oper}{E:Array Bool}{m i:Nat}(h:Bits ops E m) (hi:i<ops.size):Bits ops (E.setIfInBounds i true) (m ||| 2^i) where
 size:=by rw [vq,h.size]
 bit j:=by
  rw [vw,tG (by rw [h.size];exact hi),Nat.testBit_or,Nat.testBit_two_pow,we,h.bit,decide_eq_true_iff] <;> grind
theorem aKb {ops:Array Oper}{E:Array Bool}{m:Nat}(h:Bits ops E m):aDu ops.size (dmasks ops) m=Region.ready .any ops E:=by
 unfold aDu Region.ready;refine List.filter_congr fun i hi=>?_;have hi:=List.mem_range.1 hi;have h1:E.getD i true=m.testBit i:=by
  rw [←h.bit,jv,jv,ql (by rw [h.size];exact hi)];rfl
 have h2:ops[i]?=some ops[i]:=ql hi;have h3:(dmasks ops).getD i 0=dmask ops[i]:=by
  unfold dmasks <;> simp_all
 rw [h1,h2,h3]
 congr 1
 rw [vw,wR];show _↔(ops[i].after.all fun e=>!Region.binds .any e || E.getD e.on false)=true;rw [Array.all_eq_true_iff_forall_mem];unfold dmask;constructor
 ·intro hb e he;cases hbi:Region.binds .any e with
  | false=>rfl
  | true=>
   rw [h.bit,hb e.on]
   ·rfl
   ·rw [sX,we] <;> grind
 ·intro hb j hj;rw [sX,we]at hj;rcases hj with hj|hj
  ·simp at hj
  ·obtain⟨e,he,hj⟩:=List.any_eq_true.1 hj;rw [qf,beq_iff_eq]at hj;obtain⟨hbi,rfl⟩:=hj;have:=hb e (jz.1 he);rw [hbi]at this;rw [←h.bit];exact this
def Ents (ms:List Nat) (H:Hist) (L:List Ent):Prop:=(∀e',okL (ms.getD e'.i 0) L e'=bH ms H e')∧∀r,aDg (ms.getD r 0) L=fB ms H r
theorem Ents.nil {ms:List Nat}:Ents ms [] []:=⟨fun _=>rfl,fun _=>rfl⟩
theorem Ents.old {ms:List Nat}{H H1:Hist}{L:List Ent}(h:Ents ms H L) (h1:∀p∈H1,p.2=none):Ents ms (H++H1) L:=by
 refine⟨fun e'=>(h.1 e').trans ?_,fun r=>(h.2 r).trans ?_⟩ <;> grind [bH,fB]
theorem Ents.new {ms:List Nat}{H:Hist}{L:List Ent}(h:Ents ms H L) (st:St) (e:Ent):Ents ms (H++[(st,some e)]) (e :: L):=by
 refine⟨fun e'=>?_,fun r=>?_⟩
 ·have h1:=h.1 e' <;> simp_all [okL,bH,Bool.and_comm,Bool.or_comm]
 ·have h1:=h.2 r <;> simp_all [aDg,fB,Bool.and_comm]
theorem nZ {c c':Bool}{A A' B:T}(h:c=c') (hA:A=A'):(if c=true then A else B)=(if c'=true then A' else B):=by rw [h,hA]
theorem aCi {st:St}{v:SV}{K1 K2:St→Hist→SV→T}(h:∀st1 H1 v1,(∀p∈H1,p.2=none)→K1 st1 H1 v1=K2 st1 H1 v1):aHe st v K1=aHe st v K2:=by
 simp_all [aHe]
theorem vI {P:Program}{cfg:Cfg}{ops:Array Oper}{ms:List Nat}{K:St→T}:∀(n:Nat) {E:Array Bool}{m:Nat}{H:Hist}{L:List Ent}{st:St},Bits ops E m→Ents ms H L→
 cR P cfg ops ms (dmasks ops) n m L st K=aZ P cfg ops ms n E H st K
 | 0,_,_,_,_,_,_,_=>rfl
 | n+1,E,m,H,L,st,hE,hL=>by
  have ih:=@vI P cfg ops ms K n;have hLi:∀(i:Nat) (e':Ent),e'.i=i→okL (ms.getD i 0) L e'=bH ms H e':=fun i e' h=>h▸hL.1 e';have hev:∀r,evF P ops ms m L st r (fun E L st=>cR P cfg ops ms (dmasks ops) n E L st K)=evT P ops ms E H st r (fun E H st=>aZ P cfg ops ms n E H st K):=fun r=>by
   unfold evF evT;cases ho:ops[r]? with
   | none=>rfl
   | some o=>
    have hi:r<ops.size:=(jq.1 ho).1;dsimp only;cases aW ops st o with
    | yes=>
     dsimp only;cases uR P ops st o with
     | none=>rfl
     | some ev=>exact nZ (congr (congrArg and (hLi _ _ rfl)) (hL.2 _)) (congrArg _ (ih (hE.set hi) (hL.new _ _)))
    | _=>rfl
  unfold cR aZ;rw [aKb hE];cases hr:Region.ready .any ops E with
  | nil=>rfl
  | cons r rs=>
   dsimp only;cases hf:(r :: rs).find? (tW P ops st) with
   | none=>
    dsimp only;cases rs with
    | cons r2 rs2=>
     cases rs2 with
     | cons _ _=>rfl
     | nil=>
      dsimp only;exact congr (congrArg T.both (hev r)) (hev r2)
    | nil=>
     dsimp only;cases ho:ops[r]? with
     | none=>rfl
     | some o=>
      have hi:r<ops.size:=(jq.1 ho).1;dsimp only;cases hg:aW ops st o with
      | yes=>
       dsimp only
       by_cases hie:(uR P ops st o).isSome=true
       ·rw [og hie,og hie];exact hev r
       rw [oh hie,oh hie]
       by_cases hia:aFi o=true
       ·rw [og hia,og hia];cases hap:uX P st o with
        | none=>rfl
        | some ap=>exact nZ (congr (congrArg and (hLi _ _ rfl)) (hL.2 _)) (congrArg _ (ih (hE.set hi) (hL.new _ _)))
       rw [oh hia,oh hia]
       by_cases hst:aFj st o=true
       ·rw [og hst,og hst];cases hso:wJ P st o with
        | none=>rfl
        | some so=>exact nZ (congr (congrArg and (hLi _ _ rfl)) (hL.2 _)) (congrArg _ (ih (hE.set hi) (hL.new _ _)))
       rw [oh hst,oh hst];cases hs:bD P st.tm st.hp o with
       | call f args=>
        dsimp only;cases aFw cfg st f args with
        | some q=>exact nZ (hL.2 _) (congrArg _ (ih hE (hL.old (H1:=[(st,none)]) (fun p hp=>by simp at hp;rw [hp]))))
        | none=>
        dsimp only;cases hga:(if cfg.adopt.contains f then agg3T P o.type else none) with
        | some p=>exact nZ (congrArg (fun x=>x && decide (0<p.2.1)) (congr (congrArg and (hLi _ _ rfl)) (hL.2 _))) (congrArg _ (ih (hE.set hi) (hL.new _ _)))
        | none=>exact nZ (hLi _ _ rfl) (congrArg _ (ih (hE.set hi) (hL.new _ _)))
       | alloc ty cs sl=>
        cases sl with
        | none=>rfl
        | some m=>exact nZ (hLi _ _ rfl) (congrArg _ (ih (hE.set hi) (hL.new _ _)))
       | _=>dsimp only
      | _=>dsimp only
   | some i=>
    dsimp only;cases ho:ops[i]? with
    | none=>rfl
    | some o=>
     have hi:i<ops.size:=(jq.1 ho).1;dsimp only;cases hg:aW ops st o with
     | bad=>rfl
     | open_ t c=>
      dsimp only;rw [ih hE (hL.old (H1:=[(st,none)]) (fun p hp=>by simp at hp;rw [hp])),ih hE (hL.old (H1:=[(st,none)]) (fun p hp=>by simp at hp;rw [hp]))]
     | no=>exact nZ (hLi _ _ rfl) (ih (hE.set hi) (hL.new _ _))
     | yes=>
      dsimp only;cases hs:bD P st.tm st.hp o with
      | pure v needs=>
       refine nZ (hLi _ _ rfl) (congrArg _ (aCi fun st1 H1 v1 h1=>?_));exact ih (hE.set hi) ((hL.old h1).new _ _)
      | read a i' s j t=>
       refine nZ (hLi _ _ rfl) (congrArg _ (funext fun v=>funext fun st1=>?_));exact ih (hE.set hi) ((hL.old (H1:=[(st,none)]) (fun p hp=>by simp at hp;rw [hp])).new _ _)
      | getw w i' s j t=>
       refine nZ (hLi _ _ rfl) (congrArg _ (funext fun v=>funext fun st1=>?_));exact ih (hE.set hi) ((hL.old (H1:=[(st,none)]) (fun p hp=>by simp at hp;rw [hp])).new _ _)
      | load v b=>
       refine nZ (congrArg (fun z=>z && (st.heap[b]?).isSome) (hLi _ _ rfl)) ?_;cases aLz v with
       | none=>exact ih (hE.set hi) (hL.new _ _)
       | some lk=>exact congrArg _ (ih (hE.set hi) ((hL.old (H1:=[(st,none)]) (fun p hp=>by simp at hp;rw [hp])).new _ _))
      | alloc ty cs sl=>exact nZ (congrArg (fun z=>z && cs.all (wordless st.kd)) (hLi _ _ rfl)) (ih (hE.set hi) (hL.new _ _))
      | store b cs=>
       dsimp only;cases hb:st.heap[b]? with
       | none=>rfl
       | some blk=>exact nZ (congrArg (fun z=>z && !blk.pub && cs.all (wordless st.kd)) (hLi _ _ rfl)) (ih (hE.set hi) (hL.new _ _))
      | call _ _=>rfl
      | fail why=>rfl
