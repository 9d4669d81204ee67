/- Several texts in one. (Printed by prep.py.) -/
import Derived.Test.YthiaclljcnincaaGreatApSy8
namespace Go.Proofs.YthiaclljcnincaaGreat.Sy
open Go.RowKit
structure Ent where
 i:Nat
 rt:List Tmp
 wt:Option Tmp
 rb:Option Nat
 wb:Option Nat
 al:Option Nat
 rr:Bool:=false
 deriving Inhabited
abbrev Hist:=List (St×Option Ent)
def conflict (e e':Ent):Bool:=
 (match e.wt with|some t=>e'.rt.contains t || e'.wt == some t|none=>false) ||
 (match e'.wt with|some t=>e.rt.contains t|none=>false) ||
 (match e.wb with|some b=>e'.rb == some b || e'.wb == some b|none=>false) ||
 (match e'.wb with|some b=>e.rb == some b|none=>false)
def aCv (acc:List Nat) (o:Oper):Nat:=o.after.toList.foldl (fun s e=>if Region.binds .any e then s ||| 2^e.on ||| acc.getD e.on 0 else s) 0
def xJ:List Oper→List Nat→List Nat
 | [],acc=>acc
 | o :: os,acc=>xJ os (acc++[aCv acc o])
def masks (ops:Array Oper):List Nat:=xJ ops.toList []
def bH (ms:List Nat) (H:Hist) (e':Ent):Bool:=
 H.all fun p=>match p.2 with
  | some e=>!conflict e e' || (ms.getD e'.i 0).testBit e.i
  | none=>true
def fB (ms:List Nat) (H:Hist) (r:Nat):Bool:=
 H.all fun p=>match p.2 with
  | some e=>!e.rr || (ms.getD r 0).testBit e.i
  | none=>true
def aS (ops:Array Oper) (o:Oper):List Tmp:=
 (o.op.operands.toList.filterMap fun | .tmp t=>some t|_=>none) ++
 (match o.guard with|some (j,_)=>((ops[j]?).bind (·.dst)).toList|none=>[])
inductive GRes where
 | yes|no
 | open_ (t:Tmp) (c:SC)
 | bad
def aW (ops:Array Oper) (st:St) (o:Oper):GRes:=
 match o.guard with
 | none=>.yes
 | some (j,want)=>match (ops[j]?).bind (·.dst) with
  | some t=>match st.tm t with
   | .one (.lit (.bool b))=>if b=want then .yes else .no
   | .one (.lit _)=>.no
   | .one c=>.open_ t c
   | _=>.bad
  | none=>.bad
def aYd (o:Oper):Bool:=
 match o.op with
 | .call c=>match c.callee with
  | .value _=>true
  | .invoke _ _=>true
  | _=>false
 | _=>false
def aFi (o:Oper):Bool:=
 match o.op with
 | .call ⟨.builtin .append,_,_⟩=>true
 | _=>false
structure AppI where
 r:RowI
 b:Nat
 cs:List SC
 n:Nat
 e:TypeId
 i:TypeInfo
def uX (P:Program) (st:St) (o:Oper):Option AppI:=match o.op with
 | .call ⟨.builtin .append,args,argTypes⟩=>match args.toList,argTypes.toList with
  | [x,y],[t,t']=>match iQ P t,opnd st.tm x,opnd st.tm y with
   | some (e,i,_),.one (.slr v),.one (.sl b off n _)=>match cW st v,st.heap[b]? with
    | some r,some blk=>match cutW off (n*i.size) blk.cells with
     | some cs=>if t=t'∧r.ty=e∧r.s=i.size∧cs.all (wordless st.kd)=true then some ⟨r,b,cs,n,e,i⟩ else none
     | none=>none
    | _,_=>none
   | _,_,_=>none
  | _,_=>none
 | _=>none
structure StoI where
 r:RowI
 i:SC
 j:Nat
 new:List SC
def aFj (st:St) (o:Oper):Bool:=match o.op with
 | .store _ a _=>match opnd st.tm a with
  | .one (.elem (.slr _) _ _ _)=>true
  | _=>false
 | _=>false
def wJ (P:Program) (st:St) (o:Oper):Option StoI:=match o.op with
 | .store t a x=>match opnd st.tm a with
  | .one (.elem (.slr v) i s j)=>match cW st v,(opnd st.tm x).cells?,bT P t with
   | some r,some new,some m=>if r.s=s && widths new=m && decide (j+m≤s) && new.all (wordless st.kd) then some ⟨r,i,j,new⟩ else none
   | _,_,_=>none
  | _=>none
 | _=>none
structure EvI where
 node:T→T
 e:TypeId
 s:Nat
 rows:List RowI
 pre:List LK:=[]
def aMu (ops:Array Oper):List Tmp:=ops.toList.flatMap fun o=>match o.op with
 | .buildSlice _ _ parts=>parts.toList.filterMap fun p=>match p.2 with
  | .tmp t=>some t
  | _=>none
 | _=>[]
def aAh (ops:Array Oper) (o:Oper):Bool:=match o.op,o.dst with
 | .buildSlice _ _ _,some d=>(aMu ops).contains d
 | _,_=>false
def uR (P:Program) (ops:Array Oper) (st:St) (o:Oper):Option EvI:=match o.op with
 | .makeSlice t l c=>match iQ P t,opnd st.tm l with
  | some (e,i,z),.one n=>if yH l c=true then some { node:=fun k=>.mkrow z.cells.toList n i.size i.bytes st.kinds.length k,e,s:=i.size,rows:=st.rows } else none
  | _,_=>none
 | .buildSlice t 0 parts=>match iQ P t with
  | some (e,i,_)=>if parts.size=0 then some { node:=fun k=>.lrow [] 0 st.kinds.length k,e,s:=i.size,rows:=st.rows } else none
  | none=>none
 | .buildSlice t (_+1) _=>if aAh ops o=true then match iQ P t,bD P st.tm st.hp o with
  | some (e,i,_),.alloc ty cs (some n)=>if ty=e∧widths cs=n*i.size∧cs.all (wordless st.kd)=true then some { node:=fun k=>.lrow cs n st.kinds.length k,e,s:=i.size,rows:=st.rows } else none
  | _,_=>none
  else none
 | .call ⟨.builtin .append,args,argTypes⟩=>match args.toList,argTypes.toList with
  | [x,y],[t,t']=>match iQ P t,opnd st.tm x,opnd st.tm y with
   | some (e,i,_),.one (.slr v),.one (.slr v')=>match cW st v,cW st v' with
    | some r,some q=>if t=t'∧r.ty=e∧r.s=i.size∧q.s=i.size then some { node:=fun k=>.app r.v r.x (.var q.x) (.len (.var v')) i.size i.bytes st.kinds.length k,e,s:=i.size,rows:=st.without r } else none
    | _,_=>none
   | some (e,i,_),.one (.slr v),.one (.var v')=>match cW st v with
    | some r=>if t=t'∧r.ty=e∧r.s=i.size then some { node:=fun k=>.spread (.var v') i.size st.kinds.length (.app r.v r.x (.var st.kinds.length) (.len (.var v')) i.size i.bytes (st.kinds.length+1) k),e,s:=i.size,rows:=st.without r,pre:=[.row] } else none
    | none=>none
   | _,_,_=>none
  | _,_=>none
 | _=>none
def bBb (o:Oper):Bool:=match o.op with
 | .makeSlice _ _ _=>true
 | .buildSlice _ 0 _=>true
 | _=>false
def evT (P:Program) (ops:Array Oper) (ms:List Nat) (E:Array Bool) (H:Hist) (st:St) (r:Nat) (rec:Array Bool→Hist→St→T):T:=
 match ops[r]? with
 | none => .fail "drawn"
 | some o=>match aW ops st o with
  | .yes=>match uR P ops st o with
   | some ev=>
    if bH ms H { i := r, rt := aS ops o, wt := o.dst, rb := none, wb := none, al := none } && fB ms H r then ev.node (rec (E.setIfInBounds r true) (H ++ [(st, some { i := r, rt := aS ops o, wt := o.dst, rb := none, wb := none, al := none })]) (((st.vars ev.pre).row2 ev.rows ev.e ev.s).put o.dst (.one (.slr (st.kinds.length + ev.pre.length))))) else .fail "drawn: conflict"
   | none => .fail "drawn: two calls"
  | _ => .fail "drawn: guard"
def aLq (ops:Array Oper):List Tmp:=ops.toList.flatMap fun o=>match o.op with
 | .call c=>match c.callee with
  | .value _=>c.args.toList.filterMap fun | .tmp t=>some t|_=>none
  | _=>[]
 | _=>[]
def aYe (P:Program) (st:St) (o:Oper):Bool:=
 match bD P st.tm st.hp o with
 | .pure _ _=>true
 | _=>false
def bAn (ops:Array Oper) (o:Oper):Bool:=
 match o.op,o.dst with
 | .buildSlice _ _ _,some d=>(aLq ops).contains d
 | _,_=>false
def tW (P:Program) (ops:Array Oper) (st:St) (i:Nat):Bool:=
 match ops[i]? with
 | none=>false
 | some o=>match aW ops st o with
  | .yes=>(!aYd o || aYe P st o) && !bAn ops o && !aFi o && !aFj st o && !bBb o && !aAh ops o
  | .no=>true
  | .open_ _ _=>true
  | .bad=>false
def aHe (st:St) (v:SV) (K:St→Hist→SV→T):T:=
 if simple v then K st [] v else match v with
  | .one (.elem (.slr w) i s j)=>match cW st w with
   | some _=>.need (.idx i (.len (.var w))) (K st [] (.one (.elem (.slr w) i s j)))
   | none=>.elem (.slr w) i (K st [] (.one (.elem (.slr w) i s j)))
  | .one (.elem a i s j)=>.elem a i (K st [] (.one (.elem a i s j)))
  | v=>match aLz v with
   | some lk=>.name v st.kinds.length [lk] (.one (.var st.kinds.length)) (K (st.vars [lk]) [(st,none)] (.one (.var st.kinds.length)))
   | none=>.defd v (K st [] v)
def aFw (cfg:Cfg) (st:St) (f:FuncId) (args:List SV):Option RowI:=
 if cfg.bare.contains f=true then none else (args.flatMap SV.scs).findSome? fun
  | .slr v=>cW st v
  | _=>none
def aZ (P:Program) (cfg:Cfg) (ops:Array Oper) (ms:List Nat):Nat→Array Bool→Hist→St→(St→T)→T
 | 0, _, _, _, _ => .fail "drawn: fuel"
 | n+1,E,H,st,K=>
  match Region.ready .any ops E with
  | []=>K st
  | r :: rs=>
   match (r :: rs).find? (tW P ops st) with
   | some i=>match ops[i]? with
    | none => .fail "drawn"
    | some o=>match aW ops st o with
     | .bad => .fail "drawn: guard"
     | .open_ t c=>.branch c (aZ P cfg ops ms n E (H++[(st,none)]) (st.put (some t) (.one (.lit (.bool true)))) K) (aZ P cfg ops ms n E (H++[(st,none)]) (st.put (some t) (.one (.lit (.bool false)))) K)
     | .no=>
      let e:Ent:={ i,rt:=aS ops o,wt:=o.dst,rb:=none,wb:=none,al:=none }
      if bH ms H e then aZ P cfg ops ms n (E.setIfInBounds i true) (H ++ [(st, some e)]) (st.put o.dst bL) K else .fail "drawn: conflict"
     | .yes=>match bD P st.tm st.hp o with
      | .pure v needs=>
       let e:Ent:={ i,rt:=aS ops o,wt:=o.dst,rb:=none,wb:=none,al:=none }
       if bH ms H e then mX needs (aHe st v fun st1 H1 v1 => aZ P cfg ops ms n (E.setIfInBounds i true) (H ++ H1 ++ [(st1, some e)]) (st1.put o.dst v1) K) else .fail "drawn: conflict"
      | .read a i' s j t=>
       let e:Ent:={ i,rt:=aS ops o,wt:=o.dst,rb:=none,wb:=none,al:=none }
       if bH ms H e then mH P cfg st none a i' s j t fun v st1 => aZ P cfg ops ms n (E.setIfInBounds i true) (H ++ [(st, none)] ++ [(st1, some e)]) (st1.put o.dst v) K else .fail "drawn: conflict"
      | .getw w i' s j t=>
       let e:Ent:={ i,rt:=aS ops o,wt:=o.dst,rb:=none,wb:=none,al:=none,rr:=true }
       if bH ms H e then mH P cfg st (some w) (.slr w) i' s j t fun v st1 => aZ P cfg ops ms n (E.setIfInBounds i true) (H ++ [(st, none)] ++ [(st1, some e)]) (st1.put o.dst v) K else .fail "drawn: conflict"
      | .load v b=>
       let e:Ent:={ i,rt:=aS ops o,wt:=o.dst,rb:=some b,wb:=none,al:=none }
       if bH ms H e && (st.heap[b]?).isSome then match aLz v with
        | some lk=>.name v st.kinds.length [lk] (.one (.var st.kinds.length)) (aZ P cfg ops ms n (E.setIfInBounds i true) (H++[(st,none)]++[(st.vars [lk],some e)]) ((st.vars [lk]).put o.dst (.one (.var st.kinds.length))) K)
        | none=>aZ P cfg ops ms n (E.setIfInBounds i true) (H++[(st,some e)]) (st.put o.dst v) K
       else .fail "drawn: conflict"
      | .alloc ty cs sl=>
       let b:=st.heap.length
       let e:Ent:={ i,rt:=aS ops o,wt:=o.dst,rb:=none,wb:=some b,al:=some b }
       if bH ms H e && cs.all (wordless st.kd) then aZ P cfg ops ms n (E.setIfInBounds i true) (H ++ [(st, some e)]) ((st.new ty cs).put o.dst (tX sl b)) K else .fail "drawn: conflict"
      | .store b cs=>match st.heap[b]? with
       | some blk=>
        let e:Ent:={ i,rt:=aS ops o,wt:=o.dst,rb:=some b,wb:=some b,al:=none }
        if bH ms H e && !blk.pub && cs.all (wordless st.kd) then aZ P cfg ops ms n (E.setIfInBounds i true) (H ++ [(st, some e)]) ((st.setB b cs).put o.dst bL) K else .fail "drawn: conflict"
       | none => .fail "drawn: store"
      | .call _ _ => .fail "drawn: call"
      | .fail why=>.fail why
   | none=>match rs with
    | []=>match ops[r]? with
     | none => .fail "drawn"
     | some o=>match aW ops st o with
      | .yes=>if (uR P ops st o).isSome=true then evT P ops ms E H st r fun E H st=>aZ P cfg ops ms n E H st K
       else if aFi o=true then match uX P st o with
       | some ap=>
        let e:Ent:={ i:=r,rt:=aS ops o,wt:=o.dst,rb:=some ap.b,wb:=none,al:=none }
        if bH ms H e && fB ms H r then .app ap.r.v ap.r.x (.cells ap.cs) (.lit (.int .i64 ap.n)) ap.i.size ap.i.bytes st.kinds.length (aZ P cfg ops ms n (E.setIfInBounds r true) (H ++ [(st, some e)]) ((st.row2 (st.without ap.r) ap.e ap.i.size).put o.dst (.one (.slr st.kinds.length))) K) else .fail "drawn: conflict"
       | none => .fail "drawn: append"
       else if aFj st o=true then match wJ P st o with
       | some so=>
        let e:Ent:={ i:=r,rt:=aS ops o,wt:=o.dst,rb:=none,wb:=none,al:=none }
        if bH ms H e && fB ms H r then .setr so.r.v so.r.x so.i so.r.s so.j so.new st.kinds.length (aZ P cfg ops ms n (E.setIfInBounds r true) (H ++ [(st, some e)]) (({ st.vars [LK.row] with rows := st.without so.r ++ [{ so.r with x := st.kinds.length }] } : St).put o.dst bL) K) else .fail "drawn: conflict"
       | none => .fail "drawn: store to a row"
       else match bD P st.tm st.hp o with
       | .call f args=>(match aFw cfg st f args with
       | some q => if fB ms H ms.length then .pubr q.v q.x (aZ P cfg ops ms n E (H ++ [(st, none)]) { st with rows := st.without q } K) else .fail "drawn: conflict"
       | none=>
        let e:Ent:={ i:=r,rt:=aS ops o,wt:=o.dst,rb:=none,wb:=none,al:=none }
        match (if cfg.adopt.contains f then agg3T P o.type else none) with
        | some (ty, z, d) => if bH ms H e && fB ms H r && decide (0 < z) then .callr3 f args ty z d st.kinds.length (aZ P cfg ops ms n (E.setIfInBounds r true) (H ++ [(st, some e)]) (({ st.vars [.slice, .row, .slice, .row, .slice, .row] with rows := st.rows ++ [⟨st.kinds.length, st.kinds.length + 1, ty, z⟩, ⟨st.kinds.length + 2, st.kinds.length + 3, ty, z⟩, ⟨st.kinds.length + 4, st.kinds.length + 5, ty, z⟩] } : St).put o.dst (qG d [.slr st.kinds.length, .slr (st.kinds.length + 2), .slr (st.kinds.length + 4)])) K) else .fail "drawn: conflict"
        | none=>
        let res:=cV P cfg.opq o.type st.kinds.length
        if bH ms H e then .call f args st.kinds.length res.2 res.1 (aZ P cfg ops ms n (E.setIfInBounds r true) (H ++ [(st, some e)]) ((st.vars res.2).put o.dst res.1) K) else .fail "drawn: conflict")
       | .alloc ty cs (some m)=>
        let e:Ent:={ i:=r,rt:=aS ops o,wt:=o.dst,rb:=none,wb:=none,al:=none }
        if bH ms H e then .pub ty cs st.kinds.length (aZ P cfg ops ms n (E.setIfInBounds r true) (H ++ [(st, some e)]) ((st.vars [.any]).put o.dst (.one (.psl st.kinds.length 0 m m))) K) else .fail "drawn: conflict"
       | .fail why=>.fail why
       | _ => .fail "drawn: no call"
      | _ => .fail "drawn: guard"
    | [r2]=>.both (evT P ops ms E H st r fun E H st=>aZ P cfg ops ms n E H st K) (evT P ops ms E H st r2 fun E H st=>aZ P cfg ops ms n E H st K)
    | _ => .fail "drawn: two calls"
def Closed (ops:Array Oper) (D:Nat→Prop):Prop:=∀(i:Nat) (o:Oper),ops[i]?=some o→D i→∀e∈o.after,Region.binds .any e=true→D e.on
theorem aAd (acc:List Nat) (j:Nat):∀(l:List Edge) (s:Nat),(l.foldl (fun s e=>if Region.binds .any e then s ||| 2^e.on ||| acc.getD e.on 0 else s) s).testBit j=true→
 s.testBit j=true∨∃e∈l,Region.binds .any e=true∧(e.on=j∨(acc.getD e.on 0).testBit j=true)
 | [],s,h=>.inl h
 | e :: l,s,h=>by
  rcases aAd acc j l _ h with h|⟨e',h1,h2⟩ <;> grind
theorem qH (ops:Array Oper):∀(os:List Oper) (acc:List Nat) (pre:List Oper),ops.toList=pre++os→acc.length=pre.length→
 (∀D,Closed ops D→∀i j,i<acc.length→D i→(acc.getD i 0).testBit j=true→D j)→
 ∀D,Closed ops D→∀i j,D i→((xJ os acc).getD i 0).testBit j=true→D j
 | [],acc,pre,_,_,hacc,D,hD,i,j,hi,hj=>by
  unfold xJ at hj <;> grind
 | o :: os,acc,pre,hops,hlen,hacc,D,hD,i,j,hi,hj=>by
  refine qH ops os (acc++[aCv acc o]) (pre++[o]) (by simp [hops]) (by simp [hlen]) ?_ D hD i j hi hj;intro D hD i j hlt hi hj;rcases zb i acc.length with h|h
  ·refine hacc D hD i j h hi ?_ <;> simp_all
  ·have hi0:i=acc.length:=by grind
   subst hi0;have hj':(aCv acc o).testBit j=true:=by simp_all
   have ho:ops[acc.length]?=some o:=by
    rw [←jk,hops,hlen];simp
   rcases aAd acc j o.after.toList 0 hj' with h0|⟨e,h1,h2,h3⟩
   ·simp at h0
   ·have hDe:D e.on:=hD _ _ ho hi e (by simpa using h1) h2 <;> grind
theorem dH {ops:Array Oper}{D:Nat→Prop}(hD:Closed ops D) {i j:Nat}(hi:D i) (hj:((masks ops).getD i 0).testBit j=true):D j:=
 qH ops ops.toList [] [] rfl rfl (fun _ _ i _ h=>by simp at h) D hD i j hi hj
theorem PubOk.le {ρ ρ':Env}{hp:Nat→Option SB}(h:PubOk ρ hp) (he:ρ.le ρ'):PubOk ρ' hp:=fun b blk hb hp=>by
 obtain⟨n,h1,h2⟩:=h b blk hb hp;exact⟨n,he.blk _ _ h1,he.val _ _ h2⟩
def BlkRel (ρ:Env) (k0:Anc) (k w:World) (s:St) (b:Nat):Prop:=
 ∀blk,s.heap[b]?=some blk→∃n vs,ρ.blk b=some n∧aC ρ blk.cells=some vs∧Blk w n blk.ty vs.toArray∧
  (blk.pub=false→k0.heap.size≤n∧k.heap[n]?=some dead)∧(blk.pub=true→Blk k n blk.ty vs.toArray∧ρ.val blk.pv=some (.pointer (some ⟨n,0,none⟩)))
theorem BlkRel.mono {ρ ρ':Env}{k0:Anc}{k k' w w':World}{s:St}{b:Nat}(h:BlkRel ρ k0 k w s b) (he:ρ.le ρ') (hk:Below k.heap.size k k') (hw:∀n,n<w.heap.size→ρ.blk b=some n→w'.heap[n]?=w.heap[n]?):BlkRel ρ' k0 k' w' s b:=by
 intro blk hb;obtain⟨n,vs,h1,h2,h3,h4,h5⟩:=h blk hb;refine⟨n,vs,he.blk _ _ h1,aJ he h2,(hw n h3.lt h1).trans h3,fun hp=>?_,fun hp=>?_⟩
 ·obtain⟨a1,a2⟩:=h4 hp;exact⟨a1,(hk.block _ (heap_lt a2)).trans a2⟩
 ·obtain⟨a1,a2⟩:=h5 hp;exact⟨(hk.block _ a1.lt).trans a1,he.val _ _ a2⟩
def dS (H:Hist) (st:St) (p:Nat):St:=match H[p]? with
 | some x=>x.1
 | none=>st
structure Fw (ρ:Env) (s s':St) (oe:Option Ent):Prop where
 tmps:∀ρ',ρ.le ρ'→∀t,(∀e,oe=some e→e.wt≠some t)→∀v,Ok ρ' (s.tm t) v→Ok ρ' (s'.tm t) v
 heap:∀b,(∀e,oe=some e→e.wb≠some b)→s'.heap[b]?=s.heap[b]?
 size:s'.tmps.length=s.tmps.length
 grow:s.heap.length≤s'.heap.length
 al:∀e b,oe=some e→e.al=some b→e.wb=some b∧b=s.heap.length∧s'.heap.length=s.heap.length+1
def ReadNow (P:Program) (ρ:Env) (s:St) (o:Oper) (x:Value):Prop:=∃sa i sz j t m,(bD P s.tm s.hp o=.read sa i sz j t∨∃v,sa=.slr v∧bD P s.tm s.hp o=.getw v i sz j t)∧fI P t x∧
 ((∃A n c kk I,sa.den ρ=some (.slice A n c)∧i.den ρ=some (.int kk I)∧ReadAt ρ.mem A (I.toNat*sz+j) m x)∨
  (∃v q xs kk I,sa=.slr v∧q∈s.rows∧q.v=v∧q.s=sz∧ρ.val q.x=some (.agg xs)∧i.den ρ=some (.int kk I)∧ReadIn xs (I.toNat*sz+j) m x))
theorem ReadAt.le {m m':Addr→Option Value}(h:∀A v,m A=some v→m' A=some v) {A:Option Addr}{p k:Nat}{x:Value}(hr:ReadAt m A p k x):ReadAt m' A p k x:=⟨hr.1,fun q u hu=>cellAt_le h (hr.2 q u hu)⟩
theorem ReadNow.le {P:Program}{ρ ρ':Env}{s:St}{o:Oper}{x:Value}(h:ReadNow P ρ s o x) (hl:ρ.le ρ'):ReadNow P ρ' s o x:=by
 obtain⟨sa,i,sz,j,t,m,h1,h2,h3⟩:=h;refine⟨sa,i,sz,j,t,m,h1,h2,?_⟩;rcases h3 with ⟨A,n,c,kk,I,e1,e2,e3⟩|⟨v,q,xs,kk,I,e1,e2,e3,e4,e5,e6,e7⟩
 ·exact .inl ⟨A,n,c,kk,I,SC.den_le hl e1,SC.den_le hl e2,e3.le hl.mem⟩
 ·exact .inr ⟨v,q,xs,kk,I,e1,e2,e3,e4,hl.val _ _ e5,SC.den_le hl e6,e7⟩
theorem ReadNow.run {P:Program}{ρ:Env}{s:St}{o:Oper}{x:Value}{a:Act}{w k:World}{base:Nat}(h:ReadNow P ρ s o x) (hE:ρ.Ok) (hpub:PubOk ρ s.hp) (hk:Knows1 ρ s.tm a o) (hm:∀A v,ρ.mem A=some v→w.cell? A=some v)
 (hr:∀q∈s.rows,RowOk ρ base k w q):(execOp a.eval o).run P w=.ok (.value x) w:=by
 obtain⟨sa,i,sz,j,t,m,h1,h2,h3⟩:=h;have hst:=fC (P:=P) (w:=w) (hp:=s.hp) hE hpub hk;have hp:∃p,(SC.elem sa i sz j).den ρ=some p:=by
  rcases h1 with h1|⟨v,rfl,h1⟩
  ·grind [nU]
  grind [nT]
 have hrun:∀b o' n c kk I,sa.den ρ=some (.slice (some ⟨b,o',none⟩) n c)→i.den ρ=some (.int kk I)→0≤I→I<n→(∀(p:Nat) u,x.cells[p]?=some u→w.cell? ⟨b,o'+(I.toNat*sz+j+p),none⟩=some u)→(execOp a.eval o).run P w=.ok (.value x) w:=by
  intro b o' n c kk I e1 e2 e3 e4 e5;rcases h1 with h1|⟨v,rfl,h1⟩
  ·rw [h1]at hst;exact hst b o' n c kk I x e1 e2 e3 e4 h2 e5
  ·rw [h1]at hst;exact hst b o' n c kk I x e1 e2 e3 e4 h2 e5
 obtain⟨p,hp⟩:=hp;simp only [SC.den]at hp;split at hp
 ·rename_i va vi hva hvi;obtain⟨b,o',n,c,kk,I,rfl,rfl,h0,hI,rfl⟩:=dU hp;rcases h3 with ⟨A,n',c',kk',I',e1,e2,e3⟩|⟨v,q,xs,kk',I',rfl,e2,e3,e4,e5,e6,e7⟩
  ·rw [hva]at e1;injection e1 with e1;injection e1 with e1 _ _;subst e1;rw [hvi]at e2;injection e2 with e2;injection e2 with _ e2;subst e2;exact hrun b o' n c kk I hva hvi h0 hI fun p u hu=>qB hm (e3.2 p u hu)
  ·rw [hvi]at e6;injection e6 with e6;injection e6 with _ e6;subst e6;obtain⟨A2,n2,c2,xs2,g1,g2,_,_,_,g6,g7,g8⟩:=hr q e2;rw [e5]at g2;injection g2 with g2;injection g2 with g2;subst g2;have hva':ρ.val v=some (.slice (some ⟨b,o',none⟩) n c):=by
    have hva2:=hva;simp only [SC.den]at hva2;split at hva2
    ·cases hva2
    ·cases hva2
    ·exact hva2
   rw [e3,hva']at g1;injection g1 with g1;injection g1 with g1 _ _;subst g1;rcases g8 with ⟨g8,_⟩|⟨g,cs,g8,_,hB,_,g4,_⟩
   ·cases g8
   ·injection g8 with g8;injection g8 with e8 e9 _;subst e8 e9;exact hrun b 0 n c kk I hva hvi h0 hI fun p u hu=>by
     rw [hB.cell,qc];exact g4 _ u (e7.2 p u hu)
 ·cases hp
def Pend (P:Program) (ops:Array Oper) (ρ:Env) (s s':St) (e:Ent):Prop:=
 ∃o,ops[e.i]?=some o∧e.rt=aS ops o∧e.wt=o.dst∧
  ((aW ops s o=.no∧e.wb=none∧e.al=none∧s'=s.put o.dst bL)∨
   (aW ops s o=.yes∧
     ((∃v v' needs,bD P s.tm s.hp o=.pure v needs∧(∀c∈needs,c.den ρ=some (.bool true))∧((simple v=true∧v'=v)∨∃x,v.den ρ=some x∧v'.den ρ=some x)∧e.wb=none∧e.al=none∧s'=s.put o.dst v')∨
      (∃res x,ReadNow P ρ (if e.rr=true then s else { s with rows:=[] }) o x∧res.den ρ=some x∧e.wb=none∧e.al=none∧s'=s.put o.dst res)∨
      (∃v v' b blk,bD P s.tm s.hp o=.load v b∧e.rb=some b∧s.heap[b]?=some blk∧(v'=v∨∃x,v.den ρ=some x∧v'.den ρ=some x)∧e.wb=none∧e.al=none∧s'=s.put o.dst v')∨
      (∃ty cs sl,bD P s.tm s.hp o=.alloc ty cs sl∧cs.all (wordless ρ.kd)=true∧e.wb=some s.heap.length∧e.al=some s.heap.length∧s'=(s.new ty cs).put o.dst (tX sl s.heap.length))∨
      (∃b cs blk,bD P s.tm s.hp o=.store b cs∧s.heap[b]?=some blk∧blk.pub=false∧cs.all (wordless ρ.kd)=true∧e.wb=some b∧e.al=none∧s'=(s.setB b cs).put o.dst bL))))
structure DRel (P:Program) (ops:Array Oper) (H:Hist) (st:St) (D:Nat→Prop) (nb0:Nat) (ρ:Env) (k0:Anc) (w0 k:World) (a:Act) (w:World):Prop where
 anc:k0.ρ.le ρ
 up:Up k0.kk k
 dep:k0.d≤st.depth
 env:ρ.Ok
 kinds:∀i,ρ.kd i=st.kinds[i]?
 vals:∀i,st.kinds.length≤i→ρ.val i=none
 inj:∀b b' n,k0.heap.size≤n→ρ.blk b=some n→ρ.blk b'=some n→b=b'
 size:a.tmps.size=st.tmps.length
 defers:a.defers=[]
 sees:Sees k w
 base:k0.heap.size=w0.heap.size
 kb:Below k0.heap.size k0 k
 wb:Below w0.heap.size w0 w
 lt:∀b n,ρ.blk b=some n→n<w.heap.size
 nb:∀p,nb0≤(dS H st p).heap.length
 blks:∀b n,ρ.blk b=some n→b<nb0∨∃(q:Nat) (s:St) (e:Ent),H[q]?=some (s,some e)∧e.al=some b∧D e.i
 tmps:∀t p,p≤H.length→(∀(q:Nat) (s:St) (e:Ent),H[q]?=some (s,some e)→e.wt=some t→(D e.i↔q<p))→Ok ρ ((dS H st p).tm t) (a.tmps.getD t undef)
 heap:∀b p,p≤H.length→(∀(q:Nat) (s:St) (e:Ent),H[q]?=some (s,some e)→e.wb=some b→(D e.i↔q<p))→BlkRel ρ k0 k w (dS H st p) b
 uniq:∀(q q':Nat) (s s':St) (e e':Ent),H[q]?=some (s,some e)→H[q']?=some (s',some e')→e.i=e'.i→q=q'
 conf:∀(q q':Nat) (s s':St) (e e':Ent),q<q'→H[q]?=some (s,some e)→H[q']?=some (s',some e')→conflict e e'=true→((masks ops).getD e'.i 0).testBit e.i=true
 pend:∀(q:Nat) (s:St) (e:Ent),H[q]?=some (s,some e)→¬ D e.i→Pend P ops ρ s (dS H st (q+1)) e
 dsub:∀i,D i→∃(q:Nat) (s:St) (e:Ent),H[q]?=some (s,some e)∧e.i=i
 dcl:Closed ops D
 pubs:∀p,PubOk ρ (dS H st p).hp
 fw:∀(q:Nat) (s:St) (oe:Option Ent),H[q]?=some (s,oe)→Fw ρ s (dS H st (q+1)) oe
 mem:∀A v,ρ.mem A=some v→k.cell? A=some v
 rows:RowsOk ρ k0.heap.size k w st.rows
 rowsEq:∀(q:Nat) (s:St) (e:Ent),H[q]?=some (s,some e)→¬ D e.i→e.rr=true→s.rows=st.rows
 fam:FamOk ρ k0.heap.size k w st.fam st.rows
section
variable {P:Program}{ops:Array Oper}{H:Hist}{st:St}{D:Nat→Prop}{nb0:Nat}{ρ:Env}{k0:Anc}{w0 k w:World}{a:Act}
theorem fS {H:Hist}{st s:St}{oe:Option Ent}{q:Nat}(h:H[q]?=some (s,oe)):dS H st q=s:=by grind [dS]
theorem bQ (H:Hist) (st:St):dS H st H.length=st:=by unfold dS <;> simp_all
theorem Ok.den_bool {ρ:Env}{b:Bool}{v:Value}(h:Ok ρ (.one (.lit (.bool b))) v):v=.bool b:=by
 rcases h with h|h <;> simp_all [SV.den,SC.den]
theorem DRel.fwT (h:DRel P ops H st D nb0 ρ k0 w0 k a w) {ρ':Env}(hle:ρ.le ρ') {t:Tmp}{v:Value}{p:Nat}:∀ {p':Nat},p≤p'→p'≤H.length→(∀(q:Nat) (s:St) (e:Ent),p≤q→q<p'→H[q]?=some (s,some e)→e.wt≠some t)→Ok ρ' ((dS H st p).tm t) v→Ok ρ' ((dS H st p').tm t) v:=by
 intro p'
 induction p' with
 | zero=>simp_all
 | succ p' ih=>
  intro h1 h2 h3 hv
  by_cases e:p=p'+1
  ·simp_all
  ·have hv':=ih oq oq (fun q s e hq hq'=>h3 q s e hq oq) hv;obtain⟨⟨s,oe⟩,hx⟩:∃x,H[p']?=some x:=⟨_,qi oq⟩;have hf:=h.fw p' s oe hx;rw [fS hx]at hv';exact hf.tmps ρ' hle t (fun e he=>by grind) v hv'
theorem DRel.fwH (h:DRel P ops H st D nb0 ρ k0 w0 k a w) {b:Nat}{p:Nat}:∀ {p':Nat},p≤p'→p'≤H.length→(∀(q:Nat) (s:St) (e:Ent),p≤q→q<p'→H[q]?=some (s,some e)→e.wb≠some b)→(dS H st p').heap[b]?=(dS H st p).heap[b]?:=by
 intro p'
 induction p' with
 | zero=>simp_all
 | succ p' ih=>
  intro h1 h2 h3
  by_cases e:p=p'+1
  ·subst e;rfl
  ·have hv':=ih oq oq (fun q s e hq hq'=>h3 q s e hq oq);obtain⟨⟨s,oe⟩,hx⟩:∃x,H[p']?=some x:=⟨_,qi oq⟩;have hf:=h.fw p' s oe hx;rw [fS hx]at hv';exact (hf.heap b (fun e he=>by grind)).trans hv'
theorem DRel.fwL (h:DRel P ops H st D nb0 ρ k0 w0 k a w) {p:Nat}:∀ {p':Nat},p≤p'→p'≤H.length→(dS H st p).heap.length≤(dS H st p').heap.length:=by
 intro p'
 induction p' with
 | zero=>simp_all
 | succ p' ih=>
  intro h1 h2
  by_cases e:p=p'+1
  ·simp_all
  ·have hv':=ih oq oq;obtain⟨⟨s,oe⟩,hx⟩:∃x,H[p']?=some x:=⟨_,qi oq⟩;have hf:=h.fw p' s oe hx;rw [fS hx]at hv';exact qr hv' hf.grow
theorem DRel.fwS (h:DRel P ops H st D nb0 ρ k0 w0 k a w):∀ {n p:Nat},p+n=H.length→(dS H st p).tmps.length=st.tmps.length:=by
 intro n
 induction n with
 | zero=>simp_all [bQ]
 | succ n ih=>
  intro p hp;obtain⟨⟨s,oe⟩,hx⟩:∃x,H[p]?=some x:=⟨_,qi oq⟩;have hf:=h.fw p s oe hx;rw [fS hx,←hf.size] <;> grind
theorem DRel.seesT (h:DRel P ops H st D nb0 ρ k0 w0 k a w) {q:Nat}{s:St}{e:Ent}(hq:H[q]?=some (s,some e)) (hn:¬ D e.i) (hcl:Closed ops (fun i=>D i∨i=e.i)) {t:Tmp}(ht:t∈e.rt):Ok ρ (s.tm t) (a.tmps.getD t undef):=by
 have:=h.tmps t q (by grind) (fun q' s' e' hq' ht'=>?_)
 ·grind [fS]
 ·constructor
  ·intro hD;rcases yj q' q with h1|h1|h1
   ·exact h1
   ·simp_all
   ·have:=h.conf q q' s s' e e' h1 hq hq' (by simp only [conflict] <;> simp_all);exact absurd (dH h.dcl hD this) hn
  ·intro hlt;have:=h.conf q' q s' s e' e hlt hq' hq (by simp only [conflict] <;> simp_all);rcases dH hcl (.inr rfl) this with h1|h1
   ·exact h1
   ·have:=h.uniq q' q s' s e' e hq' hq h1;omega
theorem DRel.seesH (h:DRel P ops H st D nb0 ρ k0 w0 k a w) {q:Nat}{s:St}{e:Ent}(hq:H[q]?=some (s,some e)) (hn:¬ D e.i) (hcl:Closed ops (fun i=>D i∨i=e.i)) {b:Nat}(hb:e.rb=some b∨e.wb=some b):BlkRel ρ k0 k w s b:=by
 have:=h.heap b q (by grind) (fun q' s' e' hq' ht'=>?_)
 ·grind [fS]
 ·constructor
  ·intro hD;rcases yj q' q with h1|h1|h1
   ·exact h1
   ·simp_all
   ·have:=h.conf q q' s s' e e' h1 hq hq' (by
     simp only [conflict] <;> grind)
    exact absurd (dH h.dcl hD this) hn
  ·intro hlt
   have:=h.conf q' q s' s e' e hlt hq' hq (by
    simp only [conflict] <;> simp_all)
   rcases dH hcl (.inr rfl) this with h1|h1
   ·exact h1
   ·have:=h.uniq q' q s' s e' e hq' hq h1;omega
theorem DRel.moreT (h:DRel P ops H st D nb0 ρ k0 w0 k a w) {q:Nat}{s:St}{e:Ent}(hq:H[q]?=some (s,some e)) (hn:¬ D e.i) {ρ':Env}(hle:ρ.le ρ') {x:Value}
 {v:SV}(hs':∀t,(dS H st (q+1)).tm t=(s.put e.wt v).tm t) (hx:Ok ρ' v x) :
 ∀t p,p≤H.length→(∀(q':Nat) (s':St) (e':Ent),H[q']?=some (s',some e')→e'.wt=some t→((D e'.i∨e'.i=e.i)↔q'<p))→Ok ρ' ((dS H st p).tm t) ((a.put e.wt x).tmps.getD t undef):=by
 intro t p hp hv
 by_cases ht:e.wt=some t
 ·have hqp:q<p:=(hv q s e hq ht).1 (.inr rfl);refine h.fwT hle (p:=q+1) oq hp (fun q' s' e' h1 h2 hq' ht'=>?_) ?_
  ·rcases (hv q' s' e' hq' ht').2 h2 with hD|hD
   ·have:=h.conf q q' s s' e e' oq hq hq' (by simp only [conflict] <;> simp_all);exact absurd (dH h.dcl hD this) hn
   ·have:=h.uniq q' q s' s e' e hq' hq hD;omega
  ·rw [hs',ht,pT,lG];have hsz:a.tmps.size=s.tmps.length:=by
    rw [h.size,←h.fwS (n:=H.length-q) (p:=q) oq,fS hq]
   rw [hsz];split
   ·exact hx
   ·rename_i hnot;have hlt:s.tmps.length≤t:=zw fun hl=>hnot ⟨rfl,hl⟩;have e1:s.tm t=bL:=Tab.get_ge hlt;have e2:a.tmps.getD t undef=undef:=by simp_all
    rw [e1,e2];exact .inr rfl
 ·have hold:=h.tmps t p hp (fun q' s' e' hq' ht'=>by
   rw [←hv q' s' e' hq' ht'];refine⟨.inl,fun hh=>hh.resolve_right fun hi=>?_⟩
   have:=h.uniq q' q s' s e' e hq' hq hi <;> simp_all)
  have e2:(a.put e.wt x).tmps.getD t undef=a.tmps.getD t undef:=by
   cases hw:e.wt with
   | none=>rfl
   | some d=>rw [lG,oh (fun hh=>ht (by rw [hw,hh.1]))]
  rw [e2];exact hold.le hle
theorem DRel.next (h:DRel P ops H st D nb0 ρ k0 w0 k a w) {q:Nat}{s:St}{e:Ent}(hq:H[q]?=some (s,some e)) (_hn:¬ D e.i) (hcl:Closed ops (fun i=>D i∨i=e.i)) {ρ':Env}{k' w':World}{a':Act}
 (hle:ρ.le ρ') (hval:ρ'.val=ρ.val) (hkd:ρ'.kd=ρ.kd) (inj:∀b b' n,k0.heap.size≤n→ρ'.blk b=some n→ρ'.blk b'=some n→b=b') (lt:∀b n,ρ'.blk b=some n→n<w'.heap.size)
 (blks:∀b n,ρ'.blk b=some n→ρ.blk b=some n∨e.al=some b) (sz:a'.tmps.size=a.tmps.size) (df:a'.defers=a.defers) (sees:Sees k' w') (kb:Below k.heap.size k k') (wb:Below w0.heap.size w w')
 (tm:∀t p,p≤H.length→(∀(q':Nat) (s':St) (e':Ent),H[q']?=some (s',some e')→e'.wt=some t→((D e'.i∨e'.i=e.i)↔q'<p))→Ok ρ' ((dS H st p).tm t) (a'.tmps.getD t undef))
 (hp:∀b p,p≤H.length→(∀(q':Nat) (s':St) (e':Ent),H[q']?=some (s',some e')→e'.wb=some b→((D e'.i∨e'.i=e.i)↔q'<p))→BlkRel ρ' k0 k' w' (dS H st p) b)
 (hmem:ρ'.mem=ρ.mem) (hrows:RowsOk ρ' k0.heap.size k' w' st.rows) (hfam:FamOk ρ' k0.heap.size k' w' st.fam st.rows) :
 DRel P ops H st (fun i=>D i∨i=e.i) nb0 ρ' k0 w0 k' a' w' where
 anc:=h.anc.trans hle
 up:=h.up.trans (Up.of_below kb)
 dep:=h.dep
 env:=fun i kk v h1 h2=>h.env i kk v (by simp_all) (by simp_all)
 kinds:=fun i=>by rw [hkd];exact h.kinds i
 vals:=fun i hi=>by rw [hval];exact h.vals i hi
 inj:=inj
 size:=sz.trans h.size
 defers:=df.trans h.defers
 sees:=sees
 base:=h.base
 kb:=h.kb.trans (kb.mono h.kb.size)
 wb:=h.wb.trans wb
 lt:=lt
 nb:=h.nb
 blks:=fun b n hb=>by
  rcases blks b n hb with hb|hb
  ·rcases h.blks b n hb with h1|⟨q',s',e',h1,h2,h3⟩ <;> grind
  grind
 tmps:=tm
 heap:=hp
 uniq:=h.uniq
 conf:=h.conf
 pend:=fun q' s' e' h1 h2=>by
  obtain⟨o,p1,p2,p3,p4⟩:=h.pend q' s' e' h1 (fun hh=>h2 (.inl hh));refine⟨o,p1,p2,p3,p4.imp id fun ⟨g,p5⟩=>⟨g,?_⟩⟩;rcases p5 with ⟨v,v',needs,r1,r2,r3,r4⟩|⟨res,x,r1,r2,r3⟩|⟨v,v',b,blk,r1,r2,r3,r4,r5⟩|⟨ty,cs,sl,r1,r2,r3⟩|⟨b,cs,blk,r1,r2,r3,r4,r5⟩
  ·grind [SC.den_le,id,SV.den_le]
  ·exact .inr (.inl ⟨res,x,r1.le hle,SV.den_le hle r2,r3⟩)
  ·grind [id,SV.den_le]
  ·simp_all
  simp_all
 dsub:=fun i hi=>by
  rcases hi with hi|hi
  ·exact h.dsub i hi
  grind
 dcl:=hcl
 pubs:=fun p=>(h.pubs p).le hle
 fw:=fun q' s' oe h1=>by
  obtain⟨f1,f2,f3,f4,f5⟩:=h.fw q' s' oe h1;exact⟨fun ρ2 h2=>f1 ρ2 (hle.trans h2),f2,f3,f4,f5⟩
 mem:=fun A v hv=>(Up.of_below kb).cell (h.mem A v (by rw [←hmem];exact hv))
 rows:=hrows
 fam:=hfam
 rowsEq:=fun q' s' e' h1 h2=>h.rowsEq q' s' e' h1 (fun hh=>h2 (.inl hh))
theorem DRel.moreH (h:DRel P ops H st D nb0 ρ k0 w0 k a w) {q:Nat}{s:St}{e:Ent}(hq:H[q]?=some (s,some e)) (_hn:¬ D e.i) {ρ':Env}(hle:ρ.le ρ') {k' w':World}(hk:Below k.heap.size k k')
 {b p:Nat}(hb:e.wb≠some b) (hp:p≤H.length) (hv:∀(q':Nat) (s':St) (e':Ent),H[q']?=some (s',some e')→e'.wb=some b→((D e'.i∨e'.i=e.i)↔q'<p))
 (hw:∀n,n<w.heap.size→ρ.blk b=some n→w'.heap[n]?=w.heap[n]?):BlkRel ρ' k0 k' w' (dS H st p) b:=by
 refine (h.heap b p hp fun q' s' e' hq' ht'=>?_).mono hle hk hw;rw [←hv q' s' e' hq' ht'];refine⟨.inl,fun hh=>hh.resolve_right fun hi=>?_⟩;have:=h.uniq q' q s' s e' e hq' hq hi <;> simp_all
theorem DRel.moreB (h:DRel P ops H st D nb0 ρ k0 w0 k a w) {q:Nat}{s:St}{e:Ent}(hq:H[q]?=some (s,some e)) (hn:¬ D e.i) {ρ':Env}{k' w':World}
 {b p:Nat}(hb:e.wb=some b) (hp:p≤H.length) (hv:∀(q':Nat) (s':St) (e':Ent),H[q']?=some (s',some e')→e'.wb=some b→((D e'.i∨e'.i=e.i)↔q'<p))
 (hnew:BlkRel ρ' k0 k' w' (dS H st (q+1)) b):BlkRel ρ' k0 k' w' (dS H st p) b:=by
 have hqp:q<p:=(hv q s e hq hb).1 (.inr rfl)
 have:=h.fwH (b:=b) (p:=q+1) (p':=p) oq hp (fun q' s' e' h1 h2 hq' ht'=>by
  rcases (hv q' s' e' hq' ht').2 h2 with hD|hD
  ·have:=h.conf q q' s s' e e' oq hq hq' (by simp only [conflict] <;> simp_all);exact absurd (dH h.dcl hD this) hn
  ·have:=h.uniq q' q s' s e' e hq' hq hD;omega)
 intro blk hblk;rw [this]at hblk;exact hnew blk hblk
theorem jG (s:St) (d:Option Tmp) (v:SV):(s.put d v).heap=s.heap:=by cases d <;> rfl
theorem DRel.exec (h:DRel P ops H st D nb0 ρ k0 w0 k a w) {q:Nat}{s:St}{e:Ent}(hq:H[q]?=some (s,some e)) (hn:¬ D e.i) (hcl:Closed ops (fun i=>D i∨i=e.i)) {Q:Exit→Act→World→Prop}{next:Act→World→Prop}
 (hnext:∀ρ' k' a' w',ρ'.val=ρ.val→ρ'.kd=ρ.kd→ρ'.mem=ρ.mem→Up k k'→DRel P ops H st (fun i=>D i∨i=e.i) nb0 ρ' k0 w0 k' a' w'→next a' w'):wpOp P ops Q e.i next a w:=by
 obtain⟨o,ho,hrt,hwt,hp⟩:=h.pend q s e hq hn;have hql:q<H.length:=(qe.1 hq).1;have htm:∀t∈e.rt,Ok ρ (s.tm t) (a.tmps.getD t undef):=fun t ht=>h.seesT hq hn hcl ht
 have hK:Knows1 ρ s.tm a o:=fun t ht=>htm t (by
  rw [hrt];unfold aS
  refine qd.2 (.inl (List.mem_filterMap.2 ⟨.tmp t,by simp_all,rfl⟩)))
 have hgy:∀ {j want},o.guard=some (j,want)→∀t,(ops[j]?).bind (·.dst)=some t→Ok ρ (s.tm t) (a.tmps.getD t undef):=fun hg t hj=>htm t (by
  simp_all [aS,List.mem_append])
 have hwant:(aW ops s o=.yes→Region.wanted o (yielded ops a.tmps)=true)∧(aW ops s o=.no→Region.wanted o (yielded ops a.tmps)=false):=by
  unfold aW Region.wanted;cases hg:o.guard with
  | none=>simp
  | some g=>
   obtain⟨j,want⟩:=g;simp only;cases hj:(ops[j]?).bind (·.dst) with
   | none=>simp
   | some t=>
    simp only;have hok:=hgy hg t hj;split
    ·rename_i b hb;rw [hb]at hok;have hv:=Ok.den_bool hok <;> simp_all [kE]
    ·rename_i v hnb hb;rw [hb]at hok;have hy:yielded ops a.tmps j=none:=by
      unfold yielded;rw [hj];simp only [zz];split
      ·rename_i b hb';exfalso;rcases hok with hok|hok
       ·cases hok
       ·simp only [SV.den,SC.den]at hok;injection hok with hok;rw [jv,hb']at hok;exact hnb b hok
      ·rfl
     rw [hy];simp
    ·simp
    ·simp
 unfold wpOp;rw [ho];simp only
 -- a step that changes no block
 have quiet:∀ {v:SV}{x:Value},e.wb=none→e.al=none→dS H st (q+1)=s.put o.dst v→Ok ρ v x→next (a.put o.dst x) w:=fun {v x} hwb hal hs' hx=>by
  refine hnext ρ k _ w rfl rfl rfl (Up.refl k) (h.next hq hn hcl (Env.le.refl ρ) rfl rfl h.inj h.lt (fun b n hb=>.inl hb) ?_ ?_ h.sees (Below.refl _ _) (Below.refl _ _) ?_ ?_ rfl h.rows h.fam)
  ·unfold Act.put;split <;> simp
  ·unfold Act.put;split <;> rfl
  ·have:=h.moreT hq hn (Env.le.refl ρ) (v:=v) (x:=x) (fun t=>by rw [hs',hwt]) hx;rw [hwt]at this;exact this
  ·exact fun b p hp hv=>h.moreH hq hn (Env.le.refl ρ) (Below.refl _ _) (by rw [hwb];simp) hp hv (fun _ _ _=>rfl)
 have hE:=h.env;rcases hp with ⟨hg,hwb,hal,hs'⟩|⟨hg,hp⟩
 ·rw [oh (by rw [hwant.2 hg];simp)];exact quiet hwb hal hs' (.inr rfl)
 ·rw [og (hwant.1 hg)]
  left
  have hpb:PubOk ρ s.hp:=by have:=h.pubs q;rw [fS hq]at this;exact this
  have hstep:=fC (P:=P) (w:=w) (hp:=s.hp) hE hpb hK;unfold Oper.wp;rcases hp with ⟨v,v',needs,r1,r2,r3,hwb,hal,hs'⟩|⟨res,x,r1,r2,hwb,hal,hs'⟩|⟨v,v',b,blk,r1,r2,r3,r4,hwb,hal,hs'⟩|⟨ty,cs,sl,r1,r2,hwb,hal,hs'⟩|⟨b,cs,blk,r1,r2,r3,r4,hwb,hal,hs'⟩
  ·have r3:∃x,v.den ρ=some x∧v'.den ρ=some x:=r3.elim (fun ⟨hsim,e⟩=>let ⟨x,hx⟩:=rB hE hpb hK r1 r2 hsim;⟨x,hx,by rw [e];exact hx⟩) id;obtain⟨x,r3,r3'⟩:=r3;rw [r1]at hstep;rw [hstep r2 x r3,jw];exact quiet hwb hal hs' (.inr r3')
  ·by_cases hrr:e.rr=true
   ·rw [og hrr]at r1;have hrs:s.rows=st.rows:=h.rowsEq q s e hq hn hrr;rw [r1.run (k:=k) (base:=k0.heap.size) hE hpb hK (fun A v hv=>h.sees.cell (h.mem A v hv)) (fun q hq=>h.rows.ok q (by rw [←hrs];exact hq)),jw];exact quiet hwb hal hs' (.inr r2)
   ·rw [oh hrr]at r1;rw [r1.run (k:=k) (base:=k0.heap.size) hE hpb hK (fun A v hv=>h.sees.cell (h.mem A v hv)) (fun q hq=>by cases hq),jw];exact quiet hwb hal hs' (.inr r2)
  ·rw [r1]at hstep;obtain⟨n,vs,g1,g2,g3,_⟩:=h.seesH hq hn hcl (.inl r2) blk r3;obtain⟨x,x1,x2⟩:=hstep blk n vs r3 g1 g2 g3;rw [x2,jw];refine quiet hwb hal hs' (.inr ?_);rcases r4 with rfl|⟨y,y1,y2⟩
   ·exact x1
   ·rw [x1]at y1;injection y1 with y1;subst y1;exact y2
  ·rw [r1]at hstep;obtain⟨vs,g1,g2⟩:=hstep;rw [g2,jw];have hnw:=bO hE r2 g1;obtain⟨k',s1,s2,s3,s4,s5⟩:=pW h.sees hnw ty;have hnone:ρ.blk s.heap.length=none:=by
    cases hb:ρ.blk s.heap.length with
    | none=>rfl
    | some n=>
     have hlen:∀q' s' e',H[q']?=some (s',some e')→e'.al=some s.heap.length→q'=q:=fun q' s' e' hq' hal'=>by
      obtain⟨_,f2,f3⟩:=(h.fw q' s' _ hq').al e' _ rfl hal';obtain⟨_,f2',f3'⟩:=(h.fw q s _ hq).al e _ rfl hal;have hql':q'<H.length:=(qe.1 hq').1;rcases yj q' q with hh|hh|hh
      ·have:=h.fwL (p:=q'+1) (p':=q) oq oq;rw [fS hq]at this;omega
      ·exact hh
      ·have:=h.fwL (p:=q+1) (p':=q') oq oq;rw [fS hq']at this;omega
     rcases h.blks _ n hb with h1|⟨q',s',e',h1,h2,h3⟩
     ·have:=h.nb q;rw [fS hq]at this;omega
     ·have:=hlen q' s' e' h1 h2;subst this;rw [hq]at h1;injection h1 with h1;injection h1 with _ h1;injection h1 with h1;subst h1;exact absurd h3 hn
   let ρ':Env:={ ρ with blk:=fun b=>if b=s.heap.length then some w.heap.size else ρ.blk b }
   have hle:ρ.le ρ':=⟨fun _ _ h=>h,fun b n hb=>by
    show (if b=s.heap.length then some w.heap.size else ρ.blk b)=some n
    by_cases e:b=s.heap.length
    ·rw [e,hnone]at hb;cases hb
    ·rw [oh e];exact hb,fun _ _ h=>h,fun _ _ h=>h⟩
   have hbk:∀b g,ρ'.blk b=some g→g<w.heap.size→∃b',ρ.blk b'=some g:=fun b g hb hg=>by
    have hb:(if b=s.heap.length then some w.heap.size else ρ.blk b)=some g:=hb;split at hb
    ·injection hb with hb;omega
    ·exact⟨b,hb⟩
   refine hnext ρ' k' _ _ rfl rfl rfl s2 (h.next hq hn hcl hle rfl rfl ?_ ?_ ?_ ?_ ?_ s1 s3 (s4.mono h.wb.size) ?_ ?_ rfl (h.rows.mono hle hbk (fun g hg _=>(s3.block g (heap_lt hg)).trans hg) (fun g hg _=>s4.block g hg)) (h.fam.same h.rows hle hbk (fun g hg _=>(s3.block g (heap_lt hg)).trans hg) (fun g hg _=>s4.block g hg)))
   ·intro b b' n hbase h1 h2;have h1:(if b=s.heap.length then some w.heap.size else ρ.blk b)=some n:=h1;have h2:(if b'=s.heap.length then some w.heap.size else ρ.blk b')=some n:=h2
    by_cases e:b=s.heap.length <;> by_cases e':b'=s.heap.length
    ·omega
    ·rw [og e]at h1;rw [oh e']at h2;injection h1 with h1;have:=h.lt _ _ h2;omega
    ·rw [oh e]at h1;rw [og e']at h2;injection h2 with h2;have:=h.lt _ _ h1;omega
    ·rw [oh e]at h1;rw [oh e']at h2;exact h.inj _ _ _ hbase h1 h2
   ·intro b n h1;have h1:(if b=s.heap.length then some w.heap.size else ρ.blk b)=some n:=h1;show n<(w.heap.push _).size;rw [Array.size_push];split at h1
    ·injection h1 with h1;omega
    ·have:=h.lt _ _ h1;omega
   ·intro b n h1;have h1:(if b=s.heap.length then some w.heap.size else ρ.blk b)=some n:=h1;split at h1
    ·rename_i e;subst e;exact .inr hal
    ·exact .inl h1
   ·unfold Act.put;split <;> simp
   ·unfold Act.put;split <;> rfl
   ·have:=h.moreT hq hn hle (v:=tX sl s.heap.length) (x:=yE sl w.heap.size) (fun t=>by rw [hs',hwt];unfold St.put St.new St.tm;cases o.dst <;> rfl)
     (.inr (tY (og rfl)))
    rw [hwt]at this;exact this
   ·intro b p hp hv
    by_cases hb:e.wb=some b
    ·refine h.moreB hq hn hb hp hv ?_;rw [hwb]at hb;injection hb with hb;subst hb;intro blk hblk;rw [hs']at hblk;have hblk':((s.heap++[({ ty,cells:=cs,pub:=false }:SB)])[s.heap.length]?)=some blk:=by
      rw [jG]at hblk;exact hblk
     simp at hblk';subst hblk';refine⟨w.heap.size,vs,og rfl,aJ hle g1,by unfold Blk;simp,fun _=>⟨?_,s5⟩,fun hp=>by cases hp⟩;have:=h.kb.size;have:=h.sees.size;omega
    ·refine h.moreH hq hn hle s3 hb hp hv fun n hlt hb'=>s4.block n hlt
  ·rw [r1]at hstep;obtain⟨n,vs,g1,g2,g3,g4,_⟩:=h.seesH hq hn hcl (.inr hwb) blk r2;obtain⟨us,u1,u2⟩:=hstep r4 blk n vs r2 g1 g2 g3;rw [u2,Oper.upon_skip];obtain⟨hbase,hdead⟩:=g4 r3;have hnw:=bO hE r4 u1;refine hnext ρ k _ _ rfl rfl rfl (Up.refl k) (h.next hq hn hcl (Env.le.refl ρ) rfl rfl h.inj ?_ (fun b n hb=>.inl hb) ?_ ?_ (rC h.sees g3 hdead hnw) (Below.refl _ _) ?_ ?_ ?_ rfl (h.rows.mono (Env.le.refl ρ) (fun b g e _=>⟨b,e⟩) (fun _ e _=>e) (fun g _ hg=>gC fun e=>hg b (by rw [e];exact g1))) (h.fam.same h.rows (Env.le.refl ρ) (fun b g e _=>⟨b,e⟩) (fun _ e _=>e) (fun g _ hg=>gC fun e=>hg b (by rw [e];exact g1))))
   ·intro b' n' hb';rw [kZ];exact h.lt _ _ hb'
   ·unfold Act.put;split <;> simp
   ·unfold Act.put;split <;> rfl
   ·exact⟨rfl,rfl,rfl,by rw [kZ];exact oy _,fun g hg=>gC (by have:=h.base;omega)⟩
   ·have:=h.moreT hq hn (Env.le.refl ρ) (v:=bL) (x:=undef) (fun t=>by rw [hs',hwt];unfold St.put St.setB St.tm;cases o.dst <;> rfl) (.inr rfl);rw [hwt]at this;exact this
   ·intro b' p hp hv
    by_cases hb:e.wb=some b'
    ·refine h.moreB hq hn hb hp hv ?_;rw [hwb]at hb;injection hb with hb;subst hb;intro blk' hblk;rw [hs']at hblk;have hblk':((s.heap.modify b fun blk=>{ blk with cells:=cs })[b]?)=some blk':=by
      rw [jG]at hblk;exact hblk
     rw [ka,r2]at hblk';simp at hblk';subst hblk';exact⟨n,us,g1,u1,g3.put _,fun _=>⟨hbase,hdead⟩,fun hp'=>by rw [r3]at hp';cases hp'⟩
    ·refine h.moreH hq hn (Env.le.refl ρ) (Below.refl _ _) hb hp hv fun n' hlt hb'=>gC fun hne=>?_;subst hne;have:=h.inj _ _ _ hbase hb' g1;exact hb (by rw [this,hwb])
end
theorem aV (H:Hist) (st st':St) (oe:Option Ent) (p:Nat):dS (H++[(st,oe)]) st' p=if p≤H.length then dS H st p else st':=by
 unfold dS <;> grind
theorem aU {H:Hist}{st:St}{oe:Option Ent}{q:Nat}{x:St×Option Ent}(h:(H++[(st,oe)])[q]?=some x):H[q]?=some x∨(q=H.length∧x=(st,oe)):=by
 grind
theorem bW {H:Hist}{x y:St×Option Ent}{q:Nat}(h:H[q]?=some x):(H++[y])[q]?=some x:=by
 grind
theorem xE (H:Hist) (y:St×Option Ent):(H++[y])[H.length]?=some y:=by simp
theorem rI {kd kd':Nat→Option LK}(h:∀i k,kd i=some k→kd' i=some k):∀ {c:SC},wordless kd c=true→wordless kd' c=true:=by
 intro c
 induction c with
 | var i=>
  grind [wordless]
 | bin cl op a b iha ihb=>
  intro hw;unfold wordless at hw ⊢ <;> grind
 | neg a ih=>assumption
 | conv k a _=>exact fun hw=>hw
 | pick c a b ihc iha ihb=>simp_all [wordless]
 | lit v=>exact fun hw=>hw
 | cel x i s k _=>exact fun hw=>hw
 | upd x N i s j y _ ih=>assumption
 | cat a b iha ihb=>simp_all [wordless]
 | slr i=>
  grind [wordless]
 | _=>intro _;rfl
theorem Pend.le {P:Program}{ops:Array Oper}{ρ ρ':Env}{s s':St}{e:Ent}(h:Pend P ops ρ s s' e) (hle:ρ.le ρ'):Pend P ops ρ' s s' e:=by
 obtain⟨o,p1,p2,p3,p4⟩:=h;refine⟨o,p1,p2,p3,p4.imp id fun ⟨g,p5⟩=>⟨g,?_⟩⟩;rcases p5 with ⟨v,v',needs,r1,r2,r3,r4⟩|⟨res,x,r1,r2,r3⟩|⟨v,v',b,blk,r1,r2,r3,r4,r5⟩|⟨ty,cs,sl,r1,r2,r3⟩|⟨b,cs,blk,r1,r2,r3,r4,r5⟩
 ·grind [SC.den_le,SV.den_le]
 ·exact .inr (.inl ⟨res,x,r1.le hle,SV.den_le hle r2,r3⟩)
 ·grind [SV.den_le]
 ·exact .inr (.inr (.inr (.inl ⟨ty,cs,sl,r1,vp.2 fun c hc=>rI hle.kd (vp.1 r2 c hc),r3⟩)))
 ·exact .inr (.inr (.inr (.inr ⟨b,cs,blk,r1,r2,r3,vp.2 fun c hc=>rI hle.kd (vp.1 r4 c hc),r5⟩)))
theorem iU {ms:List Nat}{H:Hist}{e':Ent}(h:bH ms H e'=true) {q:Nat}{s:St}{e:Ent}(hq:H[q]?=some (s,some e)) (hc:conflict e e'=true):(ms.getD e'.i 0).testBit e.i=true:=by
 unfold bH at h <;> grind
section
variable {P:Program}{ops:Array Oper}{H:Hist}{st:St}{D:Nat→Prop}{nb0:Nat}{ρ:Env}{k0:Anc}{w0 k w:World}{a:Act}
theorem DRel.snoc (h:DRel P ops H st D nb0 ρ k0 w0 k a w) {st':St}{oe:Option Ent}(hdep:st'.depth=st.depth) (hk:st'.kinds=st.kinds) (hf:Fw ρ st st' oe)
 (hrows:st'.rows=st.rows∧st'.fam=st.fam) (hpubs:PubOk ρ st'.hp) (he:∀e,oe=some e→(∀(q:Nat) (s:St) (e':Ent),H[q]?=some (s,some e')→e'.i≠e.i)∧bH (masks ops) H e=true∧Pend P ops ρ st st' e) :
 DRel P ops (H++[(st,oe)]) st' D nb0 ρ k0 w0 k a w:=by
 have hnD:∀e,oe=some e→¬ D e.i:=fun e hoe hD=>by
  obtain⟨q,s,e',h1,h2⟩:=h.dsub _ hD <;> grind
 refine { h with dep:=?_,kinds:=?_,vals:=?_,size:=?_,nb:=?_,blks:=?_,tmps:=?_,heap:=?_,uniq:=?_,conf:=?_,pend:=?_,dsub:=?_,pubs:=?_,fw:=?_,rows:=by rw [hrows.1];exact h.rows,rowsEq:=?_,fam:=by rw [hrows.1,hrows.2];exact h.fam }
 ·rw [hdep];exact h.dep
 ·rw [hk];exact h.kinds
 ·rw [hk];exact h.vals
 ·rw [hf.size];exact h.size
 ·intro p;rw [aV];split
  ·exact h.nb p
  ·have:=h.nb H.length;rw [bQ]at this;exact qr this hf.grow
 ·intro b n hb;rcases h.blks b n hb with h1|⟨q,s,e,h1,h2,h3⟩
  ·exact .inl h1
  ·exact .inr ⟨q,s,e,bW h1,h2,h3⟩
 ·intro t p hp hv;rw [aV];split
  ·rename_i hle;exact h.tmps t p hle fun q s e hq ht=>hv q s e (bW hq) ht
  ·rename_i hgt;have hp':p=H.length+1:=by grind
   subst hp';have hne:∀e,oe=some e→e.wt≠some t:=fun e hoe ht=>hnD e hoe ((hv H.length st e (by simp_all) ht).2 oq);refine hf.tmps ρ (Env.le.refl ρ) t hne _ ?_;have:=h.tmps t H.length (oy _) fun q s e hq ht=>by
    rw [hv q s e (bW hq) ht] <;> grind
   simp_all [bQ]
 ·intro b p hp hv;rw [aV];split
  ·rename_i hle;exact h.heap b p hle fun q s e hq ht=>hv q s e (bW hq) ht
  ·rename_i hgt;have hp':p=H.length+1:=by grind
   subst hp';have hne:∀e,oe=some e→e.wb≠some b:=fun e hoe ht=>hnD e hoe ((hv H.length st e (by simp_all) ht).2 oq);have:=h.heap b H.length (oy _) fun q s e hq ht=>by
    rw [hv q s e (bW hq) ht] <;> grind
   rw [bQ]at this;intro blk hblk;rw [hf.heap b hne]at hblk;exact this blk hblk
 ·intro q q' s s' e e' h1 h2 h3;replace h1:=aU h1;replace h2:=aU h2;rcases h1 with h1|⟨rfl,h1⟩ <;> rcases h2 with h2|⟨rfl,h2⟩
  ·exact h.uniq q q' s s' e e' h1 h2 h3
  ·grind
  ·grind
  ·rfl
 ·intro q q' s s' e e' hlt h1 h2 h3;replace h1:=aU h1;replace h2:=aU h2;rcases h1 with h1|⟨rfl,h1⟩ <;> rcases h2 with h2|⟨rfl,h2⟩
  ·exact h.conf q q' s s' e e' hlt h1 h2 h3
  ·grind [iU]
  ·grind
  ·omega
 ·intro q s e h1 h2;replace h1:=aU h1;rcases h1 with h1|⟨rfl,h1⟩
  ·have hql:=(qe.1 h1).1;rw [aV,og oq];exact h.pend q s e h1 h2
  simp_all [aV,if_neg]
 ·intro i hi;obtain⟨q,s,e,h1,h2⟩:=h.dsub i hi;exact⟨q,s,e,bW h1,h2⟩
 ·intro p;rw [aV];split
  ·exact h.pubs p
  ·exact hpubs
 ·intro q s oe' h1;replace h1:=aU h1;rcases h1 with h1|⟨rfl,h1⟩
  ·have hql:=(qe.1 h1).1;rw [aV,og oq];exact h.fw q s oe' h1
  simp_all [aV,if_neg]
 ·intro q s e h1 h2 h3;rw [hrows.1];rcases aU h1 with h1|⟨_,h1⟩
  ·exact h.rowsEq q s e h1 h2 h3
  ·injection h1 with h1 _;rw [h1]
theorem DRel.endT (h:DRel P ops H st D nb0 ρ k0 w0 k a w) {t:Tmp}(hv:∀(q:Nat) (s:St) (e:Ent),H[q]?=some (s,some e)→e.wt=some t→D e.i):Ok ρ (st.tm t) (a.tmps.getD t undef):=by
 have:=h.tmps t H.length (oy _) fun q s e hq ht=>⟨fun _=>(qe.1 hq).1,fun _=>hv q s e hq ht⟩
 simp_all [bQ]
theorem DRel.endH (h:DRel P ops H st D nb0 ρ k0 w0 k a w) {b:Nat}(hv:∀(q:Nat) (s:St) (e:Ent),H[q]?=some (s,some e)→e.wb=some b→D e.i):BlkRel ρ k0 k w st b:=by
 have:=h.heap b H.length (oy _) fun q s e hq ht=>⟨fun _=>(qe.1 hq).1,fun _=>hv q s e hq ht⟩
 simp_all [bQ]
theorem DRel.done (h:DRel P ops H st D nb0 ρ k0 w0 k a w) (hall:∀(q:Nat) (s:St) (e:Ent),H[q]?=some (s,some e)→D e.i):Rel st ρ k0 w0 k a w where
 anc:=h.anc
 up:=h.up
 dep:=h.dep
 env:=h.env
 kinds:=h.kinds
 vals:=h.vals
 blks:=fun b hb=>by
  cases hn:ρ.blk b with
  | none=>rfl
  | some n=>
   have hend:=h.nb H.length;rw [bQ]at hend;rcases h.blks b n hn with h1|⟨q,s,e,h1,h2,h3⟩
   ·omega
   ·obtain⟨_,f2,f3⟩:=(h.fw q s _ h1).al e b rfl h2;have hql:=(qe.1 h1).1;have:=h.fwL (p:=q+1) (p':=H.length) oq (oy _)
    grind [bQ]
 inj:=h.inj
 size:=h.size
 tmps:=fun t=>h.endT fun q s e hq _=>hall q s e hq
 defers:=h.defers
 sees:=h.sees
 base:=h.base
 kb:=h.kb
 wb:=h.wb
 heap:=fun b=>h.endH fun q s e hq _=>hall q s e hq
 mem:=h.mem
 rows:=h.rows
 fam:=h.fam
theorem DRel.at (h:DRel P ops H st D nb0 ρ k0 w0 k a w):DRel P ops H st D nb0 (ρ.at k) k0 w0 k a w:=
 have hle:=Env.at_le h.mem
 { h with
   anc:=h.anc.trans hle
   tmps:=fun t p hp hv=>(h.tmps t p hp hv).le hle
   heap:=fun b p hp hv=>(h.heap b p hp hv).mono hle (Below.refl _ _) (fun _ _ _=>rfl)
   pend:=fun q s e h1 h2=>(h.pend q s e h1 h2).le hle
   fw:=fun q s oe h1=>let f:=h.fw q s oe h1;⟨fun ρ2 h2=>f.tmps ρ2 (hle.trans h2),f.heap,f.size,f.grow,f.al⟩
   mem:=fun _ _ h=>h
   pubs:=fun p=>(h.pubs p).le hle
   rows:=h.rows.mono hle (fun b _g e _=>⟨b,e⟩) (fun _ e _=>e) (fun _ _ _=>rfl)
   fam:=h.fam.same h.rows hle (fun b _g e _=>⟨b,e⟩) (fun _ e _=>e) (fun _ _ _=>rfl) }
theorem DRel.stepped (h:DRel P ops H st D nb0 ρ k0 w0 k a w) {e:Ent}{lks:List LK}{us:List Value}{res:SV}{v:Value}{k' w':World}{rows':List RowI}(hf:fitsL lks us)
 (hfresh:∀(q:Nat) (s:St) (e':Ent),H[q]?=some (s,some e')→e'.i≠e.i) (hconf:bH (masks ops) H e=true) (hwb:e.wb=none) (hal:e.al=none) (hcl:Closed ops (fun i=>D i∨i=e.i))
 (hr:res.den (ρ.ext st.kinds.length lks us)=some v) (hs:Sees k' w') (hk:Below k.heap.size k k') (hwb0:Below w0.heap.size w0 w') (hwz:w.heap.size≤w'.heap.size)
 (hwblk:∀b n,ρ.blk b=some n→w'.heap[n]?=w.heap[n]?) (hrows:RowsOk (ρ.ext st.kinds.length lks us) k0.heap.size k' w' rows') (hfam:FamOk (ρ.ext st.kinds.length lks us) k0.heap.size k' w' st.fam rows') (hkeep:∀(q:Nat) (s:St) (e':Ent),H[q]?=some (s,some e')→¬ D e'.i→e'.rr=true→st.rows=rows') :
 DRel P ops (H++[(st,some e)]) (({ st.vars lks with rows:=rows' }:St).put e.wt res) (fun i=>D i∨i=e.i) nb0 (ρ.ext st.kinds.length lks us) k0 w0 k' (a.put e.wt v) w':=by
 have hle:ρ.le (ρ.ext st.kinds.length lks us):=Sy.ext_le ρ lks us h.vals (fun i hi=>by rw [h.kinds,ob hi]);have htm:∀t,(({ st.vars lks with rows:=rows' }:St).put e.wt res).tm t=(st.put e.wt res).tm t:=fun t=>by cases e.wt <;> rfl
 have hheap:(({ st.vars lks with rows:=rows' }:St).put e.wt res).heap=st.heap:=by cases e.wt <;> rfl
 have hkinds:(({ st.vars lks with rows:=rows' }:St).put e.wt res).kinds=st.kinds++lks:=by cases e.wt <;> rfl
 have hlen:(({ st.vars lks with rows:=rows' }:St).put e.wt res).tmps.length=st.tmps.length:=by cases e.wt <;> rfl
 have hDi:∀(q:Nat) (s:St) (e':Ent),H[q]?=some (s,some e')→((D e'.i∨e'.i=e.i)↔D e'.i):=fun q s e' hq=>⟨fun hh=>hh.resolve_right (hfresh q s e' hq),.inl⟩;have hfwd:Fw (ρ.ext st.kinds.length lks us) st (({ st.vars lks with rows:=rows' }:St).put e.wt res) (some e):=by
  refine⟨fun ρ2 _ t ht v hv=>?_,fun b _=>by rw [hheap],hlen,by simp_all,fun e' b he' hb=>?_⟩
  ·rw [htm];cases hw:e.wt with
   | none=>exact hv
   | some d=>rw [pT,oh (fun hh=>ht e rfl (by rw [hw,hh.1]))];exact hv
  simp_all
 have hputs:∀t,e.wt≠some t→(a.put e.wt v).tmps.getD t undef=a.tmps.getD t undef:=fun t ht=>by
  cases hw:e.wt with
  | none=>rfl
  | some d=>rw [lG,oh (fun hh=>ht (by rw [hw,hh.1]))]
 have hsz:(a.put e.wt v).tmps.size=a.tmps.size:=by unfold Act.put <;> grind
 exact
  { anc:=h.anc.trans hle
    up:=h.up.trans (Up.of_below hk)
    dep:=by have:(({ st.vars lks with rows:=rows' }:St).put e.wt res).depth=st.depth:=by cases e.wt <;> rfl
            rw [this];exact h.dep
    env:=fun i kk x h1 h2=>by
     have h1:(if i<st.kinds.length then ρ.kd i else lks[i-st.kinds.length]?)=some kk:=h1;have h2:(if i<st.kinds.length then ρ.val i else us[i-st.kinds.length]?)=some x:=h2
     by_cases e:i<st.kinds.length
     ·rw [og e]at h1 h2;exact h.env i kk x h1 h2
     ·rw [oh e]at h1 h2;grind [bZ]
    kinds:=fun i=>by
     rw [hkinds];show (if i<st.kinds.length then ρ.kd i else lks[i-st.kinds.length]?)=(st.kinds++lks)[i]?;rw [jn];split
     ·exact h.kinds i
     ·rfl
    vals:=fun i hi=>by
     rw [hkinds]at hi;have hi':st.kinds.length+lks.length≤i:=by simp_all
     show (if i<st.kinds.length then ρ.val i else us[i-st.kinds.length]?)=none;rw [oh oq]
     grind [List.getElem?_eq_none,bZ]
    inj:=h.inj
    size:=by rw [hsz,hlen];exact h.size
    defers:=by unfold Act.put;split <;> exact h.defers
    sees:=hs
    base:=h.base
    kb:=h.kb.trans (hk.mono h.kb.size)
    wb:=hwb0
    lt:=fun b n hb=>qy (h.lt b n hb) hwz
    nb:=fun p=>by
     rw [aV];split
     ·exact h.nb p
     ·rw [hheap];have:=h.nb H.length <;> simp_all [bQ]
    blks:=fun b n hb=>by
     rcases h.blks b n hb with h1|⟨q,s,e',h1,h2,h3⟩
     ·exact .inl h1
     ·exact .inr ⟨q,s,e',bW h1,h2,.inl h3⟩
    tmps:=fun t p hp hv=>by
     rw [aV]
     by_cases ht:e.wt=some t
     ·have hgt:H.length<p:=(hv H.length st e (xE H _) ht).1 (.inr rfl);rw [oh oq,htm,ht,pT,lG,h.size];split
      ·exact .inr hr
      ·rename_i hnot;have hlt:st.tmps.length≤t:=zw fun hl=>hnot ⟨rfl,hl⟩;have hlt2:a.tmps.size≤t:=by rw [h.size];exact hlt
       have e1:st.tm t=bL:=Tab.get_ge hlt;have e2:a.tmps.getD t undef=undef:=by simp_all
       rw [e1,e2];exact .inr rfl
     ·rw [hputs t ht];split
      ·rename_i hle';exact (h.tmps t p hle' fun q s e' hq ht'=>by rw [←hv q s e' (bW hq) ht',hDi q s e' hq]).le hle
      ·have hp':p=H.length+1:=by grind
       have:=h.tmps t H.length (oy _) fun q s e' hq ht'=>by
        rw [←hDi q s e' hq,hv q s e' (bW hq) ht'] <;> grind
       rw [bQ]at this;exact hfwd.tmps _ (Env.le.refl _) t (fun e' he'=>by simp_all) _ (this.le hle)
    heap:=fun b p hp hv=>by
     rw [aV];have hmono:∀s:St,BlkRel ρ k0 k w s b→BlkRel (ρ.ext st.kinds.length lks us) k0 k' w' s b:=fun s hb=>hb.mono hle hk (fun n _ hn=>hwblk b n hn);split
     ·rename_i hle';exact hmono _ (h.heap b p hle' fun q s e' hq ht'=>by rw [←hv q s e' (bW hq) ht',hDi q s e' hq])
     ·have hp':p=H.length+1:=by grind
      have:=h.heap b H.length (oy _) fun q s e' hq ht'=>by
       rw [←hDi q s e' hq,hv q s e' (bW hq) ht'] <;> grind
      rw [bQ]at this;intro blk hblk;rw [hheap]at hblk;exact hmono _ this blk hblk
    uniq:=fun q q' s s' e1 e2 h1 h2 h3=>by
     replace h1:=aU h1;replace h2:=aU h2;rcases h1 with h1|⟨rfl,h1⟩ <;> rcases h2 with h2|⟨rfl,h2⟩
     ·exact h.uniq q q' s s' e1 e2 h1 h2 h3
     ·grind
     ·grind
     ·rfl
    conf:=fun q q' s s' e1 e2 hlt h1 h2 h3=>by
     replace h1:=aU h1;replace h2:=aU h2;rcases h1 with h1|⟨rfl,h1⟩ <;> rcases h2 with h2|⟨rfl,h2⟩
     ·exact h.conf q q' s s' e1 e2 hlt h1 h2 h3
     ·injection h2 with _ h2;injection h2 with h2;subst h2;exact iU hconf h1 h3
     ·have:=(qe.1 h2).1;omega
     ·omega
    pend:=fun q s e' h1 h2=>by
     replace h1:=aU h1;rcases h1 with h1|⟨rfl,h1⟩
     ·have hql:=(qe.1 h1).1;rw [aV,og oq];exact (h.pend q s e' h1 (fun hh=>h2 (.inl hh))).le hle
     ·injection h1 with _ h1;injection h1 with h1;subst h1;exact absurd (.inr rfl) h2
    dsub:=fun i hi=>by
     rcases hi with hi|hi
     ·obtain⟨q,s,e',h1,h2⟩:=h.dsub i hi;exact⟨q,s,e',bW h1,h2⟩
     ·exact⟨H.length,st,e,xE H _,hi.symm⟩
    dcl:=hcl
    pubs:=fun p=>by
     rw [aV];split
     ·exact (h.pubs p).le hle
     ·have:=h.pubs H.length;rw [bQ]at this;have e:(({ st.vars lks with rows:=rows' }:St).put e.wt res).hp=st.hp:=by unfold St.hp;rw [hheap]
      rw [e];exact this.le hle
    fw:=fun q s oe' h1=>by
     replace h1:=aU h1;rcases h1 with h1|⟨rfl,h1⟩
     ·have hql:=(qe.1 h1).1;rw [aV,og oq];obtain⟨f1,f2,f3,f4,f5⟩:=h.fw q s oe' h1;exact⟨fun ρ2 h2=>f1 ρ2 (hle.trans h2),f2,f3,f4,f5⟩
     ·injection h1 with h3 h4;subst h3 h4;rw [aV,oh oq];exact hfwd
    mem:=fun A v hv=>(Up.of_below hk).cell (h.mem A v hv)
    rows:=by
     have e:(({ st.vars lks with rows:=rows' }:St).put e.wt res).rows=rows':=by cases e.wt <;> rfl
     rw [e];exact hrows
    fam:=by
     have e0:(({ st.vars lks with rows:=rows' }:St).put e.wt res).rows=rows':=by cases e.wt <;> rfl
     have e1:(({ st.vars lks with rows:=rows' }:St).put e.wt res).fam=st.fam:=by cases e.wt <;> rfl
     rw [e0,e1];exact hfam
    rowsEq:=fun q s e1 h1 h2 h3=>by
     have e0:(({ st.vars lks with rows:=rows' }:St).put e.wt res).rows=rows':=by cases e.wt <;> rfl
     rw [e0];rcases aU h1 with h1|⟨_,h1⟩
     ·rw [h.rowsEq q s e1 h1 (fun hh=>h2 (.inl hh)) h3];exact hkeep q s e1 h1 (fun hh=>h2 (.inl hh)) h3
     ·injection h1 with _ h1;injection h1 with h1;subst h1;exact absurd (.inr rfl) h2 }
theorem DRel.called (h:DRel P ops H st D nb0 ρ k0 w0 k a w) {e:Ent}{lks:List LK}{us:List Value}{res:SV}{v:Value}{k' w':World}(hf:fitsL lks us)
 (hfresh:∀(q:Nat) (s:St) (e':Ent),H[q]?=some (s,some e')→e'.i≠e.i) (hconf:bH (masks ops) H e=true) (hwb:e.wb=none) (hal:e.al=none) (hcl:Closed ops (fun i=>D i∨i=e.i))
 (hr:res.den (ρ.ext st.kinds.length lks us)=some v) (hs:Sees k' w') (hk:Below k.heap.size k k') (hw:Below w.heap.size w w') :
 DRel P ops (H++[(st,some e)]) ((st.vars lks).put e.wt res) (fun i=>D i∨i=e.i) nb0 (ρ.ext st.kinds.length lks us) k0 w0 k' (a.put e.wt v) w':=
 have hle:ρ.le (ρ.ext st.kinds.length lks us):=Sy.ext_le ρ lks us h.vals (fun i hi=>by rw [h.kinds,ob hi])
 h.stepped (rows':=st.rows) hf hfresh hconf hwb hal hcl hr hs hk (h.wb.trans (hw.mono h.wb.size)) hw.size (fun b n hb=>hw.block n (h.lt b n hb))
  (h.rows.mono hle (fun b g e _=>⟨b,e⟩) (fun g e _=>(hk.block _ (heap_lt e)).trans e) (fun g hg _=>hw.block g hg)) (h.fam.same h.rows hle (fun b g e _=>⟨b,e⟩) (fun g e _=>(hk.block _ (heap_lt e)).trans e) (fun g hg _=>hw.block g hg)) (fun _ _ _ _ _ _=>rfl)
theorem DRel.named (h:DRel P ops H st D nb0 ρ k0 w0 k a w) {lks:List LK}{us:List Value}(hf:fitsL lks us):DRel P ops (H++[(st,none)]) (st.vars lks) D nb0 (ρ.ext st.kinds.length lks us) k0 w0 k a w:=by
 have hle:ρ.le (ρ.ext st.kinds.length lks us):=Sy.ext_le ρ lks us h.vals (fun i hi=>by rw [h.kinds,ob hi]);have hfwd:Fw (ρ.ext st.kinds.length lks us) st (st.vars lks) none:=⟨fun _ _ t _ v hv=>hv,fun b _=>rfl,rfl,oy _,fun e b he=>by cases he⟩;exact
  { anc:=h.anc.trans hle
    up:=h.up
    dep:=h.dep
    env:=fun i kk x h1 h2=>by
     have h1:(if i<st.kinds.length then ρ.kd i else lks[i-st.kinds.length]?)=some kk:=h1;have h2:(if i<st.kinds.length then ρ.val i else us[i-st.kinds.length]?)=some x:=h2
     by_cases e:i<st.kinds.length
     ·rw [og e]at h1 h2;exact h.env i kk x h1 h2
     ·rw [oh e]at h1 h2;grind [bZ]
    kinds:=fun i=>by
     show (if i<st.kinds.length then ρ.kd i else lks[i-st.kinds.length]?)=(st.kinds++lks)[i]?;rw [jn];split
     ·exact h.kinds i
     ·rfl
    vals:=fun i hi=>by
     have hi':st.kinds.length+lks.length≤i:=by simp_all [St.vars]
     show (if i<st.kinds.length then ρ.val i else us[i-st.kinds.length]?)=none;rw [oh oq]
     grind [List.getElem?_eq_none,bZ]
    inj:=h.inj
    size:=h.size
    defers:=h.defers
    sees:=h.sees
    base:=h.base
    kb:=h.kb
    wb:=h.wb
    lt:=h.lt
    nb:=fun p=>by
     rw [aV];split
     ·exact h.nb p
     ·have:=h.nb H.length;rw [bQ]at this;exact this
    blks:=fun b n hb=>by
     rcases h.blks b n hb with h1|⟨q,s,e',h1,h2,h3⟩
     ·exact .inl h1
     ·exact .inr ⟨q,s,e',bW h1,h2,h3⟩
    tmps:=fun t p hp hv=>by
     rw [aV];split
     ·rename_i hle';exact (h.tmps t p hle' fun q s e' hq ht'=>hv q s e' (bW hq) ht').le hle
     ·have:=h.tmps t H.length (oy _) fun q s e' hq ht'=>by
       rw [hv q s e' (bW hq) ht'] <;> grind
      rw [bQ]at this;exact this.le hle
    heap:=fun b p hp hv=>by
     rw [aV];split
     ·rename_i hle';exact (h.heap b p hle' fun q s e' hq ht'=>hv q s e' (bW hq) ht').mono hle (Below.refl _ _) (fun _ _ _=>rfl)
     ·have:=h.heap b H.length (oy _) fun q s e' hq ht'=>by
       rw [hv q s e' (bW hq) ht'] <;> grind
      rw [bQ]at this;exact this.mono hle (Below.refl _ _) (fun _ _ _=>rfl)
    uniq:=fun q q' s s' e1 e2 h1 h2 h3=>by
     replace h1:=aU h1;replace h2:=aU h2;rcases h1 with h1|⟨rfl,h1⟩ <;> rcases h2 with h2|⟨rfl,h2⟩
     ·exact h.uniq q q' s s' e1 e2 h1 h2 h3
     ·simp_all
     ·simp_all
     ·rfl
    conf:=fun q q' s s' e1 e2 hlt h1 h2 h3=>by
     replace h1:=aU h1;replace h2:=aU h2;rcases h1 with h1|⟨rfl,h1⟩ <;> rcases h2 with h2|⟨rfl,h2⟩
     ·exact h.conf q q' s s' e1 e2 hlt h1 h2 h3
     ·simp_all
     ·simp_all
     ·omega
    pend:=fun q s e' h1 h2=>by
     replace h1:=aU h1;rcases h1 with h1|⟨rfl,h1⟩
     ·have hql:=(qe.1 h1).1;rw [aV,og oq];exact (h.pend q s e' h1 h2).le hle
     simp_all
    dsub:=fun i hi=>by
     obtain⟨q,s,e',h1,h2⟩:=h.dsub i hi;exact⟨q,s,e',bW h1,h2⟩
    dcl:=h.dcl
    pubs:=fun p=>by
     rw [aV];split
     ·exact (h.pubs p).le hle
     ·have:=h.pubs H.length;rw [bQ]at this;exact this.le hle
    fw:=fun q s oe' h1=>by
     replace h1:=aU h1;rcases h1 with h1|⟨rfl,h1⟩
     ·have hql:=(qe.1 h1).1;rw [aV,og oq];obtain⟨f1,f2,f3,f4,f5⟩:=h.fw q s oe' h1;exact⟨fun ρ2 h2=>f1 ρ2 (hle.trans h2),f2,f3,f4,f5⟩
     simp_all [aV,if_neg]
    mem:=h.mem
    rows:=h.rows.mono hle (fun b g e _=>⟨b,e⟩) (fun _ e _=>e) (fun _ _ _=>rfl)
    fam:=h.fam.same h.rows hle (fun b g e _=>⟨b,e⟩) (fun _ e _=>e) (fun _ _ _=>rfl)
    rowsEq:=fun q s e h1 h2 h3=>by
     rcases aU h1 with h1|⟨_,h1⟩
     ·exact h.rowsEq q s e h1 h2 h3
     simp_all }
theorem jJ (H:Hist) (st:St) (rows0:List RowI) (p:Nat):dS H { st with rows:=rows0 } p=dS H st p∨dS H { st with rows:=rows0 } p={ st with rows:=rows0 }∧dS H st p=st:=by
 unfold dS;cases H[p]? with
 | none=>exact .inr ⟨rfl,rfl⟩
 | some x=>exact .inl rfl
theorem DRel.pubRow (h0:DRel P ops H st D nb0 ρ k0 w0 k a w) {r:RowI}(hr:r∈st.rows) {rows0:List RowI}(hsub:∀q∈rows0,q∈st.rows∧q≠r) {A:Option Addr}{n c:Nat}{xs:Array Value}
 (hrr:∀(q:Nat) (s:St) (e:Ent),H[q]?=some (s,some e)→e.rr=false)
 (hv:ρ.val r.v=some (.slice A n c)) (hx:ρ.val r.x=some (.agg xs)):∃k',Up k k'∧RowAt k' A xs∧DRel P ops (H++[(st,none)]) { st with rows:=rows0 } D nb0 ρ k0 w0 k' a w:=by
 have hkn:∀i,st.kinds.length≤i→ρ.kd i=none:=fun i hi=>by rw [h0.kinds,ob hi]
 obtain⟨k',u,r1,r2,r3,r4,r5,r6⟩:=aGb h0.sees h0.kb h0.rows h0.fam hr hsub hv hx;refine⟨k',u,r1,?_⟩;have h:=h0.named (lks:=[]) (us:=[]) trivial;rw [xB ρ h0.vals hkn]at h;have es:st.vars []=st:=by simp [St.vars]
 rw [es]at h;have hb:∀(s:St) b,BlkRel ρ k0 k w s b→BlkRel ρ k0 k' w s b:=fun s b hb blk hblk=>by
  obtain⟨n,vs,h1,h2,h3,h4,h5⟩:=hb blk hblk;refine⟨n,vs,h1,h2,h3,fun hp=>⟨(h4 hp).1,(r4 b n h1).trans (h4 hp).2⟩,fun hp=>⟨(r4 b n h1).trans (h5 hp).1,(h5 hp).2⟩⟩
 have cell:∀A v,k.cell? A=some v→k'.cell? A=some v:=fun A v=>u.cell
 refine { h with
  up:=h.up.trans u
  sees:=r2
  kb:=r3
  nb:=fun p=>?_
  tmps:=fun t p hp hq=>?_
  heap:=fun b p hp hq=>?_
  pend:=fun q s e hq hd=>?_
  pubs:=fun p=>?_
  fw:=fun q s oe hq=>?_
  mem:=fun A v hA=>cell A v (h.mem A v hA)
  rows:=r5
  fam:=r6
  rowsEq:=fun q s e hq hd he=>?_ }
 ·rcases jJ (H++[(st,none)]) st rows0 p with e|⟨e,e'⟩
  ·rw [e];exact h.nb p
  ·have:=h.nb p;rw [e']at this;rw [e];exact this
 ·have:=h.tmps t p hp hq;rcases jJ (H++[(st,none)]) st rows0 p with e|⟨e,e'⟩
  ·rw [e];exact this
  ·rw [e']at this;rw [e];exact this
 ·have:=hb _ _ (h.heap b p hp hq);rcases jJ (H++[(st,none)]) st rows0 p with e|⟨e,e'⟩
  ·rw [e];exact this
  ·rw [e']at this;rw [e];exact this
 ·have:=h.pend q s e hq hd;rcases aU hq with hq'|⟨_,hq'⟩
  ·have hql:=(qe.1 hq').1;rw [aV,og oq]at this ⊢;exact this
  ·cases hq'
 ·have:=h.pubs p;rcases jJ (H++[(st,none)]) st rows0 p with e|⟨e,e'⟩
  ·rw [e];exact this
  ·rw [e']at this;rw [e];exact this
 ·have:=h.fw q s oe hq;rcases jJ (H++[(st,none)]) st rows0 (q+1) with e|⟨e,e'⟩
  ·rw [e];exact this
  ·rw [e']at this;rw [e];exact⟨this.1,this.2,this.3,this.4,this.5⟩
 ·rcases aU hq with hq'|⟨_,hq'⟩
  ·rw [hrr q s e hq']at he;cases he
  ·cases hq'
end
section
variable {P:Program}{ops:Array Oper}{D:Nat→Prop}{nb0:Nat}{ρ:Env}{k0:Anc}{w0 k w:World}{a:Act}{R:Ctx}{cfg:Cfg}
structure EOk (ops:Array Oper) (E:Array Bool) (H:Hist):Prop where
 size:E.size=ops.size
 iff:∀i,E.getD i false=true↔∃(q:Nat) (s:St) (e:Ent),H[q]?=some (s,some e)∧e.i=i
 pre:∀(q:Nat) (s:St) (e:Ent) (o:Oper),H[q]?=some (s,some e)→ops[e.i]?=some o→∀ed∈o.after,Region.binds .any ed=true→∃(q':Nat) (s':St) (e':Ent),q'<q∧H[q']?=some (s',some e')∧e'.i=ed.on
theorem tG {E:Array Bool}{i:Nat}(hi:i<E.size) (j:Nat):(E.setIfInBounds i true).getD j false=true↔(E.getD j false=true∨j=i):=by
 rw [jv,jv,qz] <;> grind
theorem mS {E:Array Bool}{i:Nat}(h:E.getD i true=false):i<E.size∧E.getD i false=false:=by
 grind
theorem EOk.snoc {E:Array Bool}{H:Hist}(h:EOk ops E H) {st:St}{e:Ent}{o:Oper}(hi:E.getD e.i true=false) (ho:ops[e.i]?=some o) (hpre:∀ed∈o.after,Region.binds .any ed=true→E.getD ed.on false=true) :
 EOk ops (E.setIfInBounds e.i true) (H++[(st,some e)]) where
 size:=by simp [h.size]
 iff:=fun i=>by
  rw [tG (mS hi).1,h.iff];constructor
  ·rintro (⟨q,s,e',h1,h2⟩|rfl)
   ·exact⟨q,s,e',bW h1,h2⟩
   ·exact⟨H.length,st,e,xE H _,rfl⟩
  grind
 pre:=fun q s e' o' h1 h2 ed he hb=>by
  rcases aU h1 with g1|⟨rfl,g1⟩
  ·obtain⟨q',s',e2,f1,f2,f3⟩:=h.pre q s e' o' g1 h2 ed he hb;exact⟨q',s',e2,f1,bW f2,f3⟩
  ·injection g1 with _ g1;injection g1 with g1;subst g1;rw [ho]at h2;injection h2 with h2;subst h2;obtain⟨q',s',e2,f1,f2⟩:=(h.iff _).1 (hpre ed he hb) <;> grind
theorem EOk.snocNone {E:Array Bool}{H:Hist}(h:EOk ops E H) {st:St}:EOk ops E (H++[(st,none)]) where
 size:=h.size
 iff:=fun i=>by
  rw [h.iff];constructor
  ·rintro⟨q,s,e',h1,h2⟩;exact⟨q,s,e',bW h1,h2⟩
  grind
 pre:=fun q s e' o' h1 h2 ed he hb=>by
  rcases aU h1 with g1|⟨rfl,g1⟩
  ·obtain⟨q',s',e2,f1,f2,f3⟩:=h.pre q s e' o' g1 h2 ed he hb;exact⟨q',s',e2,f1,bW f2,f3⟩
  simp_all
def Still (P:Program) (cfg:Cfg) (ops:Array Oper) (R:Ctx) (E:Array Bool) (H:Hist) (st:St) (K:St→T) (ν:Env) (k:World):Prop:=
 (Region.ready .any ops E=[]∧(K st).den P R ν k)∨
 (∃(r:Nat) (o:Oper) (f:FuncId) (args:List SV) (e:Ent) (n:Nat),Region.ready .any ops E=[r]∧ops[r]?=some o∧aW ops st o=.yes∧bD P st.tm st.hp o=.call f args∧
   e={ i:=r,rt:=aS ops o,wt:=o.dst,rb:=none,wb:=none,al:=none }∧bH (masks ops) H e=true∧
   (T.call f args st.kinds.length (cV P cfg.opq o.type st.kinds.length).2 (cV P cfg.opq o.type st.kinds.length).1
     (aZ P cfg ops (masks ops) n (E.setIfInBounds r true) (H++[(st,some e)]) ((st.vars (cV P cfg.opq o.type st.kinds.length).2).put o.dst (cV P cfg.opq o.type st.kinds.length).1) K)).den P R ν k)∨
 (∃(r:Nat) (o:Oper) (ty:TypeId) (cs:List SC) (m:Nat) (e:Ent) (n:Nat),Region.ready .any ops E=[r]∧ops[r]?=some o∧aW ops st o=.yes∧bD P st.tm st.hp o=.alloc ty cs (some m)∧
   e={ i:=r,rt:=aS ops o,wt:=o.dst,rb:=none,wb:=none,al:=none }∧bH (masks ops) H e=true∧
   (T.pub ty cs st.kinds.length (aZ P cfg ops (masks ops) n (E.setIfInBounds r true) (H++[(st,some e)]) ((st.vars [.any]).put o.dst (.one (.psl st.kinds.length 0 m m))) K)).den P R ν k)∨
 (∃(r:Nat) (o:Oper) (ap:AppI) (e:Ent) (n:Nat),Region.ready .any ops E=[r]∧ops[r]?=some o∧aW ops st o=.yes∧uX P st o=some ap∧
   e={ i:=r,rt:=aS ops o,wt:=o.dst,rb:=some ap.b,wb:=none,al:=none }∧bH (masks ops) H e=true∧fB (masks ops) H r=true∧
   (T.app ap.r.v ap.r.x (.cells ap.cs) (.lit (.int .i64 ap.n)) ap.i.size ap.i.bytes st.kinds.length (aZ P cfg ops (masks ops) n (E.setIfInBounds r true) (H++[(st,some e)]) ((st.row2 (st.without ap.r) ap.e ap.i.size).put o.dst (.one (.slr st.kinds.length))) K)).den P R ν k)∨
 (∃(r:Nat) (o:Oper) (so:StoI) (e:Ent) (n:Nat),Region.ready .any ops E=[r]∧ops[r]?=some o∧aW ops st o=.yes∧wJ P st o=some so∧
   e={ i:=r,rt:=aS ops o,wt:=o.dst,rb:=none,wb:=none,al:=none }∧bH (masks ops) H e=true∧fB (masks ops) H r=true∧
   (T.setr so.r.v so.r.x so.i so.r.s so.j so.new st.kinds.length (aZ P cfg ops (masks ops) n (E.setIfInBounds r true) (H++[(st,some e)]) (({ st.vars [LK.row] with rows:=st.without so.r++[{ so.r with x:=st.kinds.length }] }:St).put o.dst bL) K)).den P R ν k)∨
 (∃(r:Nat) (o:Oper) (f:FuncId) (args:List SV) (ty:TypeId) (z:Nat) (d:Bool) (e:Ent) (n:Nat),Region.ready .any ops E=[r]∧ops[r]?=some o∧aW ops st o=.yes∧bD P st.tm st.hp o=.call f args∧
   e={ i:=r,rt:=aS ops o,wt:=o.dst,rb:=none,wb:=none,al:=none }∧bH (masks ops) H e=true∧fB (masks ops) H r=true∧0<z∧
   (T.callr3 f args ty z d st.kinds.length (aZ P cfg ops (masks ops) n (E.setIfInBounds r true) (H++[(st,some e)]) (({ st.vars [.slice,.row,.slice,.row,.slice,.row] with rows:=st.rows++[⟨st.kinds.length,st.kinds.length+1,ty,z⟩,⟨st.kinds.length+2,st.kinds.length+3,ty,z⟩,⟨st.kinds.length+4,st.kinds.length+5,ty,z⟩] }:St).put o.dst (qG d [.slr st.kinds.length,.slr (st.kinds.length+2),.slr (st.kinds.length+4)])) K)).den P R ν k)∨
 (Region.ready .any ops E≠[]∧∀r∈Region.ready .any ops E,∃(o:Oper) (ev:EvI) (e:Ent) (n:Nat),ops[r]?=some o∧aW ops st o=.yes∧uR P ops st o=some ev∧
   e={ i:=r,rt:=aS ops o,wt:=o.dst,rb:=none,wb:=none,al:=none }∧bH (masks ops) H e=true∧fB (masks ops) H r=true∧
   (ev.node (aZ P cfg ops (masks ops) n (E.setIfInBounds r true) (H++[(st,some e)]) (((st.vars ev.pre).row2 ev.rows ev.e ev.s).put o.dst (.one (.slr (st.kinds.length+ev.pre.length)))) K)).den P R ν k)
theorem Still.up {E:Array Bool}{H:Hist}{st:St}{K:St→T}{ν:Env}{k k':World}(h:Still P cfg ops R E H st K ν k) (hu:Up k k'):Still P cfg ops R E H st K ν k':=by
 rcases h with ⟨h1,h2⟩|⟨r,o,f,args,e,n,h1,h2,h3,h4,h5,h6,h7⟩|⟨r,o,ty,cs,m,e,n,h1,h2,h3,h4,h5,h6,h7⟩|⟨r,o,ap,e,n,h1,h2,h3,h4,h5,h6,h7,h8⟩|⟨r,o,so,e,n,h1,h2,h3,h4,h5,h6,h7,h8⟩|⟨r,o,f,args,ty,z,dd,e,n,h1,h2,h3,h4,h5,h6,h7,hz,h8⟩|⟨h0,h1⟩
 ·exact .inl ⟨h1,T.den_up h2 hu⟩
 ·exact .inr (.inl ⟨r,o,f,args,e,n,h1,h2,h3,h4,h5,h6,T.den_up h7 hu⟩)
 ·exact .inr (.inr (.inl ⟨r,o,ty,cs,m,e,n,h1,h2,h3,h4,h5,h6,T.den_up h7 hu⟩))
 ·exact .inr (.inr (.inr (.inl ⟨r,o,ap,e,n,h1,h2,h3,h4,h5,h6,h7,T.den_up h8 hu⟩)))
 ·exact .inr (.inr (.inr (.inr (.inl ⟨r,o,so,e,n,h1,h2,h3,h4,h5,h6,h7,T.den_up h8 hu⟩))))
 ·exact .inr (.inr (.inr (.inr (.inr (.inl ⟨r,o,f,args,ty,z,dd,e,n,h1,h2,h3,h4,h5,h6,h7,hz,T.den_up h8 hu⟩)))))
 ·exact .inr (.inr (.inr (.inr (.inr (.inr ⟨h0,fun r hr=>by
   grind [T.den_up]⟩)))))
theorem aYc {st st1:St}{o:Oper}{v:SV}{e:Ent}(hwt:e.wt=o.dst) (htm:st1.tmps=st.tmps) (hwb:∀b,e.wb≠some b→st1.heap[b]?=st.heap[b]?) (hg:st.heap.length≤st1.heap.length)
 (hal:∀b,e.al=some b→e.wb=some b∧b=st.heap.length∧st1.heap.length=st.heap.length+1):Fw ρ st (st1.put o.dst v) (some e):=by
 refine⟨fun ρ2 _ t ht x hx=>?_,fun b hb=>?_,?_,?_,fun e' b he' hb=>?_⟩
 ·have e1:(st1.put o.dst v).tm t=(st.put o.dst v).tm t:=by unfold St.put St.tm <;> grind
  rw [e1];cases hd:o.dst with
  | none=>exact hx
  | some d=>rw [pT,oh (fun hh=>ht e rfl (by rw [hwt,hd,hh.1]))];exact hx
 ·rw [jG] <;> simp_all
 ·cases o.dst <;> simp [St.put,htm,iM]
 ·grind [jG]
 simp_all [jG]
theorem advance {K:St→T}:∀(n:Nat) {E:Array Bool}{H:Hist}{st:St}{ρ:Env}{k:World},DRel P ops H st D nb0 ρ k0 w0 k a w→EOk ops E H→(aZ P cfg ops (masks ops) n E H st K).den P R ρ.bare k→
 ∃E' H' st' ρ' k',DRel P ops H' st' D nb0 ρ' k0 w0 k' a w∧EOk ops E' H'∧Still P cfg ops R E' H' st' K ρ'.bare k'
 | 0,E,H,st,ρ,k,h,hE,hT=>hT.elim
 | n+1,E,H,st,ρ,k,h,hE,hT=>by
  unfold aZ at hT;split at hT
  ·rename_i hr;exact⟨E,H,st,ρ,k,h,hE,.inl ⟨hr,hT⟩⟩
  ·rename_i r rs hr;split at hT
   ·rename_i i hfind;have hi:i∈Region.ready .any ops E:=by grind
    obtain⟨hi0,o,ho,hpre⟩:=mem_ready.1 hi;rw [ho]at hT;simp only at hT;have hfresh:∀(q:Nat) (s:St) (e':Ent),H[q]?=some (s,some e')→e'.i≠i:=fun q s e' hq he=>by
     have:=(hE.iff i).2 ⟨q,s,e',hq,he⟩ <;> grind
    have hpbs:PubOk ρ st.hp:=by have:=h.pubs H.length <;> simp_all [bQ]
    -- one more operation of the history
    have go:∀ {ρ:Env}{H:Hist}{st:St},DRel P ops H st D nb0 ρ k0 w0 k a w→EOk ops E H→(∀(q:Nat) (s:St) (e':Ent),H[q]?=some (s,some e')→e'.i≠i)→∀(e:Ent) (st1:St) (v:SV),e.i=i→bH (masks ops) H e=true→Pend P ops ρ st (st1.put o.dst v) e→e.wt=o.dst→st1.tmps=st.tmps→(st1.depth=st.depth∧st1.kinds=st.kinds∧st1.rows=st.rows∧st1.fam=st.fam)→
     PubOk ρ st1.hp→(∀b,e.wb≠some b→st1.heap[b]?=st.heap[b]?)→st.heap.length≤st1.heap.length→(∀b,e.al=some b→e.wb=some b∧b=st.heap.length∧st1.heap.length=st.heap.length+1)→
     (aZ P cfg ops (masks ops) n (E.setIfInBounds i true) (H++[(st,some e)]) (st1.put o.dst v) K).den P R ρ.bare k→
     ∃E' H' st' ρ' k',DRel P ops H' st' D nb0 ρ' k0 w0 k' a w∧EOk ops E' H'∧Still P cfg ops R E' H' st' K ρ'.bare k':=by
     intro ρ H st h hE hfresh e st1 v he hc hp hwt htm hkd hpb hwb hg hal hT';refine advance n (h.snoc (st':=st1.put o.dst v) (oe:=some e) (by cases o.dst <;> exact hkd.1) (by cases o.dst <;> exact hkd.2.1) (aYc hwt htm hwb hg hal) (by cases o.dst <;> exact hkd.2.2) (by unfold St.hp;rw [jG];exact hpb) fun e' he'=>?_) ?_ hT'
     ·grind
     ·rw [←he];exact hE.snoc (by simp_all) (by simp_all) hpre
    have freshN:∀(q:Nat) (s:St) (e':Ent),(H++[(st,none)])[q]?=some (s,some e')→e'.i≠i:=fun q s e' hq=>by
     grind
    have confN:∀e:Ent,bH (masks ops) H e=true→bH (masks ops) (H++[(st,none)]) e=true:=fun e he=>by
     unfold bH at he ⊢ <;> grind
    -- what is read
    have reads:∀ {v?:Option Nat} {sa i':SC}{s j:Nat}{t:TypeId},aW ops st o=.yes→(∀v,v?=some v→sa=.slr v)→(bD P st.tm st.hp o=.read sa i' s j t∧v?=none∨∃v,v?=some v∧bD P st.tm st.hp o=.getw v i' s j t)→
     bH (masks ops) H { i,rt:=aS ops o,wt:=o.dst,rb:=none,wb:=none,al:=none,rr:=v?.isSome }=true→
     (mH P cfg st v? sa i' s j t fun v st1=>aZ P cfg ops (masks ops) n (E.setIfInBounds i true) (H++[(st,none)]++[(st1,some { i,rt:=aS ops o,wt:=o.dst,rb:=none,wb:=none,al:=none,rr:=v?.isSome })]) (st1.put o.dst v) K).den P R ρ.bare k→
     ∃E' H' st' ρ' k',DRel P ops H' st' D nb0 ρ' k0 w0 k' a w∧EOk ops E' H'∧Still P cfg ops R E' H' st' K ρ'.bare k':=by
     intro v? sa i' s j t hg hv? hs hc hT;have fin:∀ {m:Nat}{lks:List LK}{res:SV}{us:List Value}{x:Value},fitsL lks us→fI P t x→res.den (ρ.ext st.kinds.length lks us)=some x→
      ((∃A n c kk I,sa.den ρ=some (.slice A n c)∧i'.den ρ=some (.int kk I)∧ReadAt ρ.mem A (I.toNat*s+j) m x)∨
       (∃v q xs kk I,v?=some v∧sa=.slr v∧q∈st.rows∧q.v=v∧q.s=s∧ρ.val q.x=some (.agg xs)∧i'.den ρ=some (.int kk I)∧ReadIn xs (I.toNat*s+j) m x))→
      (aZ P cfg ops (masks ops) n (E.setIfInBounds i true) (H++[(st,none)]++[(st.vars lks,some { i,rt:=aS ops o,wt:=o.dst,rb:=none,wb:=none,al:=none,rr:=v?.isSome })]) ((st.vars lks).put o.dst res) K).den P R (ρ.ext st.kinds.length lks us).bare k→
      ∃E' H' st' ρ' k',DRel P ops H' st' D nb0 ρ' k0 w0 k' a w∧EOk ops E' H'∧Still P cfg ops R E' H' st' K ρ'.bare k':=by
      intro m lks res us x hf hsh hres hread hT;have hn:=h.named hf;have hle:ρ.le (ρ.ext st.kinds.length lks us):=Sy.ext_le ρ lks us h.vals (fun i hi=>by rw [h.kinds,ob hi]);have hst:bD P (st.vars lks).tm (st.vars lks).hp o=bD P st.tm st.hp o:=rfl;have hgd:aW ops (st.vars lks) o=aW ops st o:=rfl;refine go hn hE.snocNone freshN _ (st.vars lks) res rfl (confN _ hc) ⟨o,ho,rfl,rfl,.inr ⟨hgd.trans hg,.inr (.inl ⟨res,x,?_,hres,rfl,rfl,rfl⟩)⟩⟩ rfl rfl ⟨rfl,rfl,rfl,rfl⟩ (hpbs.le hle) (fun _ _=>rfl) (oy _) (fun b hb=>by cases hb) hT;refine ReadNow.le (ρ:=ρ) ?_ hle;have hs':bD P (st.vars lks).tm (st.vars lks).hp o=.read sa i' s j t∨∃v,sa=.slr v∧bD P (st.vars lks).tm (st.vars lks).hp o=.getw v i' s j t:=by
       grind
      rcases hread with hread|⟨v,q,xs,kk,I,hv,hread⟩
      ·split
       ·exact⟨sa,i',s,j,t,m,hs',hsh,.inl hread⟩
       ·exact⟨sa,i',s,j,t,m,hs',hsh,.inl hread⟩
      ·have hv':v?.isSome=true:=by rw [hv];rfl
       rw [og hv'];exact⟨sa,i',s,j,t,m,hs',hsh,.inr ⟨v,q,xs,kk,I,hread⟩⟩
     unfold mH at hT;split at hT
     ·rename_i m hm;split at hT
      ·rename_i hsh;generalize hl:(aDw P cfg st i' t).2=lks at hT;generalize hr:(aDw P cfg st i' t).1=res at hT hsh;have key:(T.read sa i' s j m st.kinds.length lks res (aZ P cfg ops (masks ops) n (E.setIfInBounds i true) (H++[(st,none)]++[(st.vars lks,some { i,rt:=aS ops o,wt:=o.dst,rb:=none,wb:=none,al:=none,rr:=v?.isSome })]) ((st.vars lks).put o.dst res) K)).den P R ρ.bare k→
        ∃E' H' st' ρ' k',DRel P ops H' st' D nb0 ρ' k0 w0 k' a w∧EOk ops E' H'∧Still P cfg ops R E' H' st' K ρ'.bare k':=by
        intro hT;unfold T.den at hT;split at hT
        ·rename_i e1 e2;obtain⟨us,hf,hu⟩:=aR hT;split at hu
         ·rename_i x hx;have hx':=aQ (ρ:=ρ.ext st.kinds.length lks us) hx;exact fin hf (oQ hsh hm hx' hu.1.1) hx' (.inl ⟨_,_,_,_,_,SC.den_le (Env.bare_le ρ) e1,SC.den_le (Env.bare_le ρ) e2,hu.1⟩) hu.2
         ·exact hu.elim
        ·exact hT.elim
       unfold aDt at hT;split at hT
       ·rename_i v;split at hT
        ·rename_i q hq;obtain⟨hq1,hq2⟩:=aN hq;split at hT
         ·rename_i hqs;unfold T.den at hT;split at hT
          ·rename_i e1 e2;obtain⟨us,hf,hu⟩:=aR hT;split at hu
           ·rename_i x hx;have hx':=aQ (ρ:=ρ.ext st.kinds.length lks us) hx;exact fin hf (oQ hsh hm hx' hu.1.1) hx' (.inr ⟨v,q,_,_,_,rfl,hv? v rfl,hq1,hq2,hqs,e1,SC.den_le (Env.bare_le ρ) e2,hu.1⟩) hu.2
           ·exact hu.elim
          ·exact hT.elim
         ·exact hT.elim
        ·exact key hT
       ·exact key hT
      ·exact hT.elim
     ·exact hT.elim
    split at hT
    ·exact hT.elim
    ·-- an open guard
     rename_i t c hg;unfold T.den at hT;split at hT
     ·rename_i b hb;have hcond:∃b',c.den ρ.bare=some (.bool b')∧(aZ P cfg ops (masks ops) n E (H++[(st,none)]) (st.put (some t) (.one (.lit (.bool b')))) K).den P R ρ.bare k:=by
       cases b
       ·exact⟨false,hb,hT.2 rfl⟩
       ·exact⟨true,hb,hT.1 rfl⟩
      obtain⟨b',hb',hT'⟩:=hcond;have hc:st.tm t=.one c:=by
       unfold aW at hg;split at hg
       ·cases hg
       ·split at hg
        ·split at hg
         ·split at hg <;> cases hg
         ·cases hg
         ·rename_i hst;injection hg with e1 e2;subst e1 e2;exact hst
         ·cases hg
        ·cases hg
      refine advance n (h.snoc (st':=st.put (some t) (.one (.lit (.bool b')))) (oe:=none) rfl rfl ⟨fun ρ2 h2 t' _ x hx=>?_,fun b _=>rfl,by simp [St.put,iM],oy _,fun e b he=>by cases he⟩ ⟨rfl,rfl⟩ hpbs fun e he=>by cases he) hE.snocNone hT';rw [pT];split
      ·rename_i hh;obtain⟨rfl,_⟩:=hh;rw [hc]at hx;rcases hx with hx|hx
       ·cases hx
       ·simp only [SV.den]at hx;rw [SC.den_le ((Env.bare_le ρ).trans h2) hb']at hx;injection hx with hx;subst hx;exact .inr rfl
      ·exact hx
     ·exact hT.elim
    ·-- skipped
     rename_i hg;split at hT
     ·rename_i hc;exact go h hE hfresh _ st bL rfl hc ⟨o,ho,rfl,rfl,.inl ⟨hg,rfl,rfl,rfl⟩⟩ rfl rfl ⟨rfl,rfl,rfl,rfl⟩ hpbs (fun _ _=>rfl) (oy _) (fun b hb=>by cases hb) hT
     ·exact hT.elim
    ·rename_i hg;split at hT
     ·rename_i v needs hs;split at hT
      ·rename_i hc;obtain⟨n1,n2⟩:=jO hT;have hneeds:∀c∈needs,c.den ρ=some (.bool true):=fun c hc=>SC.den_le (Env.bare_le ρ) (n1 c hc);unfold aHe at n2;split at n2
       ·rename_i hsim;simp only [qo]at n2;exact go h hE hfresh _ st v rfl hc ⟨o,ho,rfl,rfl,.inr ⟨hg,.inl ⟨v,v,needs,hs,hneeds,.inl ⟨hsim,rfl⟩,rfl,rfl,rfl⟩⟩⟩ rfl rfl ⟨rfl,rfl,rfl,rfl⟩ hpbs (fun _ _=>rfl) (oy _) (fun b hb=>by cases hb) n2
       ·have gen:∀ {sa si:SC}{s j:Nat}{K':T},v=.one (.elem sa si s j)→(T.elem sa si K').den P R ρ.bare k→(∃x,v.den ρ=some x)∧K'.den P R ρ.bare k:=by
         intro sa si s j K' hv hG;clear n2;rw [hv];unfold T.den at hG;split at hG
         ·rename_i A nn c kk I e1 e2;obtain⟨⟨b,o',rfl⟩,⟨h0,h1⟩,hG⟩:=hG;have hx:(SV.one (.elem sa si s j)).den ρ=some (.pointer (some ⟨b,o'+I.toNat*s+j,none⟩)):=by
           simp only [SV.den,SC.den,SC.den_le (Env.bare_le ρ) e1,SC.den_le (Env.bare_le ρ) e2,kG,h0,h1,and_self,if_true]
          exact⟨⟨_,hx⟩,hG⟩
         ·exact hG.elim
        have fin:(∃x,v.den ρ=some x)→(aZ P cfg ops (masks ops) n (E.setIfInBounds i true) (H++[]++[(st,some { i,rt:=aS ops o,wt:=o.dst,rb:=none,wb:=none,al:=none })]) (st.put o.dst v) K).den P R ρ.bare k→
         ∃E' H' st' ρ' k',DRel P ops H' st' D nb0 ρ' k0 w0 k' a w∧EOk ops E' H'∧Still P cfg ops R E' H' st' K ρ'.bare k':=by
         rintro⟨x,hx⟩ n2;simp only [qo]at n2;exact go h hE hfresh _ st _ rfl hc ⟨o,ho,rfl,rfl,.inr ⟨hg,.inl ⟨_,_,needs,hs,hneeds,.inr ⟨_,hx,hx⟩,rfl,rfl,rfl⟩⟩⟩ rfl rfl ⟨rfl,rfl,rfl,rfl⟩ hpbs (fun _ _=>rfl) (oy _) (fun b hb=>by cases hb) n2
        split at n2
        ·rename_i y si s j _;split at n2
         ·rename_i q hq;obtain⟨hq1,hq2⟩:=aN hq;unfold T.den at n2;split at n2
          ·rename_i b hb;obtain⟨rfl,n2⟩:=n2;exact fin (zY (s:=s) (j:=j) (h.rows.ok q hq1) hq2 (SC.den_le (Env.bare_le ρ) hb)) n2
          ·exact n2.elim
         ·obtain⟨n3,n4⟩:=gen rfl n2;exact fin n3 n4
        ·obtain⟨n3,n4⟩:=gen rfl n2;exact fin n3 n4
        ·split at n2
         ·rename_i lk _;unfold T.den at n2;obtain⟨us,hf,hu⟩:=aR n2;split at hu
          ·rename_i x hx;have hxv:=aQ hu.1;have hx':=aQ (ρ:=ρ.ext st.kinds.length [lk] us) hx;have hle:ρ.le (ρ.ext st.kinds.length [lk] us):=Sy.ext_le ρ _ us h.vals (fun i hi=>by rw [h.kinds,ob hi]);have hgd:aW ops (st.vars [lk]) o=aW ops st o:=rfl;have hst:bD P (st.vars [lk]).tm (st.vars [lk]).hp o=bD P st.tm st.hp o:=rfl;exact go (h.named hf) hE.snocNone freshN _ (st.vars [lk]) _ rfl (confN _ hc) ⟨o,ho,rfl,rfl,.inr ⟨hgd.trans hg,.inl ⟨_,_,needs,hst.trans hs,fun c hc=>SC.den_le hle (hneeds c hc),.inr ⟨x,SV.den_le hle hxv,hx'⟩,rfl,rfl,rfl⟩⟩⟩ rfl rfl ⟨rfl,rfl,rfl,rfl⟩ (hpbs.le hle) (fun _ _=>rfl) (oy _) (fun b hb=>by cases hb) hu.2
          ·exact hu.elim
         ·unfold T.den at n2;split at n2
          ·rename_i x hx;simp only [qo]at n2;exact go h hE hfresh _ st _ rfl hc ⟨o,ho,rfl,rfl,.inr ⟨hg,.inl ⟨_,_,needs,hs,hneeds,.inr ⟨x,aQ hx,aQ hx⟩,rfl,rfl,rfl⟩⟩⟩ rfl rfl ⟨rfl,rfl,rfl,rfl⟩ hpbs (fun _ _=>rfl) (oy _) (fun b hb=>by cases hb) n2
          ·exact n2.elim
      ·exact hT.elim
     ·rename_i sa si s j t hs;split at hT
      ·rename_i hc;exact reads hg (fun v e=>by cases e) (.inl ⟨hs,rfl⟩) hc hT
      ·exact hT.elim
     ·rename_i v si s j t hs;split at hT
      ·rename_i hc;exact reads hg (fun v' e=>by injection e with e;rw [e]) (.inr ⟨v,rfl,hs⟩) hc hT
      ·exact hT.elim
     ·rename_i v b hs;split at hT
      ·rename_i hc;simp only [qf]at hc;obtain⟨blk,hblk⟩:=Option.isSome_iff_exists.1 hc.2;split at hT
       ·rename_i lk _;unfold T.den at hT;obtain⟨us,hf,hu⟩:=aR hT;split at hu
        ·rename_i x hx;have hxv:=aQ hu.1;have hx':=aQ (ρ:=ρ.ext st.kinds.length [lk] us) hx;have hle:ρ.le (ρ.ext st.kinds.length [lk] us):=Sy.ext_le ρ _ us h.vals (fun i hi=>by rw [h.kinds,ob hi]);have hgd:aW ops (st.vars [lk]) o=aW ops st o:=rfl;have hst:bD P (st.vars [lk]).tm (st.vars [lk]).hp o=bD P st.tm st.hp o:=rfl;exact go (h.named hf) hE.snocNone freshN _ (st.vars [lk]) _ rfl (confN _ hc.1) ⟨o,ho,rfl,rfl,.inr ⟨hgd.trans hg,.inr (.inr (.inl ⟨v,_,b,blk,hst.trans hs,rfl,hblk,.inr ⟨x,SV.den_le hle hxv,hx'⟩,rfl,rfl,rfl⟩))⟩⟩ rfl rfl ⟨rfl,rfl,rfl,rfl⟩ (hpbs.le hle) (fun _ _=>rfl) (oy _) (fun b hb=>by cases hb) hu.2
        ·exact hu.elim
       ·exact go h hE hfresh _ st v rfl hc.1 ⟨o,ho,rfl,rfl,.inr ⟨hg,.inr (.inr (.inl ⟨v,v,b,blk,hs,rfl,hblk,.inl rfl,rfl,rfl,rfl⟩))⟩⟩ rfl rfl ⟨rfl,rfl,rfl,rfl⟩ hpbs (fun _ _=>rfl) (oy _) (fun b hb=>by cases hb) hT
      ·exact hT.elim
     ·rename_i ty cs sl hs;split at hT
      ·rename_i hc;simp only [qf]at hc;have hkd:st.kd=ρ.kd:=funext fun i=>(h.kinds i).symm;refine go h hE hfresh _ (st.new ty cs) (tX sl st.heap.length) rfl hc.1 ⟨o,ho,rfl,rfl,.inr ⟨hg,.inr (.inr (.inr (.inl ⟨ty,cs,sl,hs,by rw [←hkd];exact hc.2,rfl,rfl,rfl⟩)))⟩⟩ rfl rfl ⟨rfl,rfl,rfl,rfl⟩ ?_ (fun b hb=>?_) (by simp [St.new]) (fun b hb=>?_) hT
       ·intro b blk hb hp;simp only [St.hp,St.new,jn]at hb;split at hb
        ·exact hpbs b blk hb hp
        ·have hm:=zh hb;simp at hm;subst hm;cases hp
       ·simp only [St.new];have hne:b≠st.heap.length:=fun e=>hb (by rw [e]);rw [jn];split
        ·rfl
        ·rw [ob (by simp;omega),ob oq]
       ·injection hb with hb;subst hb;exact⟨rfl,rfl,by simp [St.new]⟩
      ·exact hT.elim
     ·rename_i b cs hs;split at hT
      ·rename_i blk hblk;split at hT
       ·rename_i hc;simp only [qf,Bool.not_eq_true']at hc;have hkd:st.kd=ρ.kd:=funext fun i=>(h.kinds i).symm;refine go h hE hfresh _ (st.setB b cs) bL rfl hc.1.1 ⟨o,ho,rfl,rfl,.inr ⟨hg,.inr (.inr (.inr (.inr ⟨b,cs,blk,hs,hblk,hc.1.2,by rw [←hkd];exact hc.2,rfl,rfl,rfl⟩)))⟩⟩ rfl rfl ⟨rfl,rfl,rfl,rfl⟩ ?_ (fun b' hb=>?_) (by simp [St.setB]) (fun b hb=>by cases hb) hT
        ·intro b' blk' hb' hp;simp only [St.hp,St.setB,ka]at hb'
         by_cases e:b=b'
         ·subst e;rw [hblk]at hb';simp at hb';subst hb';rw [hc.1.2]at hp;cases hp
         ·simp only [e]at hb';have hb'':st.heap[b']?=some blk':=by simpa using hb'
          exact hpbs b' blk' hb'' hp
        simp only [St.setB,ka];have:b≠b':=fun e=>hb (by rw [e]);simp [this]
       ·exact hT.elim
      ·exact hT.elim
     ·exact hT.elim
     ·exact hT.elim
   ·rename_i hfind;have hev:∀q,(evT P ops (masks ops) E H st q fun E H st=>aZ P cfg ops (masks ops) n E H st K).den P R ρ.bare k→∃(o:Oper) (ev:EvI) (e:Ent) (n:Nat),ops[q]?=some o∧aW ops st o=.yes∧uR P ops st o=some ev∧
     e={ i:=q,rt:=aS ops o,wt:=o.dst,rb:=none,wb:=none,al:=none }∧bH (masks ops) H e=true∧fB (masks ops) H q=true∧
     (ev.node (aZ P cfg ops (masks ops) n (E.setIfInBounds q true) (H++[(st,some e)]) (((st.vars ev.pre).row2 ev.rows ev.e ev.s).put o.dst (.one (.slr (st.kinds.length+ev.pre.length)))) K)).den P R ρ.bare k:=fun q hq=>by
     unfold evT at hq;split at hq
     ·exact hq.elim
     ·rename_i o ho;split at hq
      ·rename_i hg;split at hq
       ·rename_i ev hev;split at hq
        ·rename_i hc;simp only [qf]at hc;exact⟨o,ev,_,n,ho,hg,hev,rfl,hc.1,hc.2,hq⟩
        ·exact hq.elim
       ·exact hq.elim
      ·exact hq.elim
    split at hT
    ·split at hT
     ·exact hT.elim
     ·rename_i o ho;split at hT
      ·rename_i hg;split at hT
       ·refine⟨E,H,st,ρ,k,h,hE,.inr (.inr (.inr (.inr (.inr (.inr ⟨by rw [hr];simp,fun q hq=>?_⟩)))))⟩;rw [hr]at hq;obtain rfl:q=r:=by simpa using hq
        exact hev q hT
       split at hT
       ·split at hT
        ·rename_i ap hap;simp only at hT;split at hT
         ·rename_i hc;simp only [qf]at hc;exact⟨E,H,st,ρ,k,h,hE,.inr (.inr (.inr (.inl ⟨r,o,ap,_,n,hr,ho,hg,hap,rfl,hc.1,hc.2,hT⟩)))⟩
         ·exact hT.elim
        ·exact hT.elim
       split at hT
       ·split at hT
        ·rename_i so hso;simp only at hT;split at hT
         ·rename_i hc;simp only [qf]at hc;exact⟨E,H,st,ρ,k,h,hE,.inr (.inr (.inr (.inr (.inl ⟨r,o,so,_,n,hr,ho,hg,hso,rfl,hc.1,hc.2,hT⟩))))⟩
         ·exact hT.elim
        ·exact hT.elim
       split at hT
       ·rename_i f args hs;split at hT
        ·rename_i q hpo;split at hT
         ·rename_i hc;have hq:q∈st.rows∧True:=by
           unfold aFw at hpo;split at hpo
           ·cases hpo
           ·obtain⟨c,_,hc⟩:=List.exists_of_findSome?_eq_some hpo;split at hc
            ·exact⟨(aN hc).1,trivial⟩
            ·cases hc
          unfold T.den at hT;split at hT
          ·rename_i A n' c xs e1 e2
           obtain⟨k',u1,u2,u3⟩:=h.pubRow hq.1 (cN st q) (fun p s e hp=>by
            have hm:(masks ops).getD (masks ops).length 0=0:=by simp
            have:=vp.1 hc (s,some e) (zh hp)
            simpa [hm] using this) e1 e2
           exact advance n u3.at hE.snocNone (hT k' u1 u2)
          ·exact hT.elim
         ·exact hT.elim
        simp only at hT;split at hT
        ·rename_i ty z d hga;split at hT
         ·rename_i hc;simp only [qf,decide_eq_true_eq]at hc;exact⟨E,H,st,ρ,k,h,hE,.inr (.inr (.inr (.inr (.inr (.inl ⟨r,o,f,args,ty,z,d,_,n,hr,ho,hg,hs,rfl,hc.1.1,hc.1.2,hc.2,hT⟩)))))⟩
         ·exact hT.elim
        ·split at hT
         ·rename_i hc;exact⟨E,H,st,ρ,k,h,hE,.inr (.inl ⟨r,o,f,args,_,n,hr,ho,hg,hs,rfl,hc,hT⟩)⟩
         ·exact hT.elim
       ·rename_i ty cs m hs;simp only at hT;split at hT
        ·rename_i hc;exact⟨E,H,st,ρ,k,h,hE,.inr (.inr (.inl ⟨r,o,ty,cs,m,_,n,hr,ho,hg,hs,rfl,hc,hT⟩))⟩
        ·exact hT.elim
       ·exact hT.elim
       ·exact hT.elim
      ·exact hT.elim
    ·rename_i r2;obtain⟨h1,h2⟩:=hT;refine⟨E,H,st,ρ,k,h,hE,.inr (.inr (.inr (.inr (.inr (.inr ⟨by rw [hr];simp,fun q hq=>?_⟩)))))⟩;rw [hr]at hq;simp only [wv,List.not_mem_nil,or_false]at hq;rcases hq with rfl|rfl
     ·exact hev _ h1
     ·exact hev _ h2
    ·exact hT.elim
theorem aGv {st:St}{o:Oper}{ap:AppI}{K:T}(hap:uX P st o=some ap) (hc:Core ρ k0 w0 k w st.rows) (hE:ρ.Ok) (hkd:st.kd=ρ.kd) (hvals:∀i,st.kinds.length≤i→ρ.val i=none)
 (hKn:Knows1 ρ st.tm a o) (hblk:BlkRel ρ k0 k w st ap.b) (hT:(T.app ap.r.v ap.r.x (.cells ap.cs) (.lit (.int .i64 ap.n)) ap.i.size ap.i.bytes st.kinds.length K).den P R ρ.bare k) :
 ∃A c w' k' xs l,(execOp a.eval o).run P w=.ok (.value (.slice A l c)) w'∧RowC xs∧Went ρ (ρ.ext st.kinds.length [.slice,.row] [.slice A l c,.agg xs]) k0 w0 k w k' w' st.rows (st.without ap.r++[⟨st.kinds.length,st.kinds.length+1,ap.e,ap.i.size⟩])∧
  K.den P R (ρ.ext st.kinds.length [.slice,.row] [.slice A l c,.agg xs]).bare k':=by
 unfold uX at hap;split at hap
 ·rename_i args argTypes ho;split at hap
  ·rename_i x y t t' hargs htypes;split at hap
   ·rename_i e i z v b off n c2 hel hx hy;split at hap
    ·rename_i r blk hr hb;split at hap
     ·rename_i cs hcut;split at hap
      ·rename_i hcond;injection hap with hap;subst hap;obtain⟨htt,hre,hrs,hw⟩:=hcond;subst htt hre;obtain⟨q1,q2,q3,q4,q5,q6⟩:=dG hel;obtain⟨hr1,hr2⟩:=aN hr;obtain⟨n',vs,g1,g2,g3,_⟩:=hblk blk hb;have ea:args=#[x,y]:=by grind
       have et:argTypes=#[t,t]:=by grind
       have h1:(opnd st.tm x).den ρ=some (a.eval x):=hKn.at (by grind [Op.operands,Call.operands]) (by rw [hx];simp);have h2:(opnd st.tm y).den ρ=some (a.eval y):=hKn.at (by grind [Op.operands,Call.operands]) (by rw [hy];simp);rw [hx]at h1;rw [hy]at h2;simp only [SV.den,SC.den,g1]at h2;injection h2 with h2;have hv:ρ.val v=some (a.eval x):=by
        simp only [SV.den,SC.den]at h1 <;> grind
       unfold T.den at hT;split at hT
       ·rename_i A nn cc xs us kk M e1 e2 e3 e4;have e1:ρ.val r.v=some (.slice A nn cc):=e1;have e2:ρ.val r.x=some (.agg xs):=e2;obtain⟨hl,h0,hok,hT⟩:=hT;simp only [SC.den]at e4;injection e4 with e4;injection e4 with _ e4;have hM:M.toNat=n:=oq
        rw [hM]at hl hok hT;have hu:aC ρ cs=some us:=aJ (Env.bare_le ρ) e3;obtain⟨c1,c2'⟩:=fE hE hcut g2;have hsc:∀u∈us,u.scalar=true∧u.noWord=true:=fun u hu'=>⟨cD hE hu u hu',bO hE (by simp_all) hu u hu'⟩;have hnews:∀b',some (⟨n',off,none⟩:Addr)=some b'→∀(j:Nat) u,us[j]?=some u→w.cell? (b'.add j)=some u:=fun b' hb' j u hj=>by
         injection hb' with hb';subst hb';rw [bK,g3.cell] <;> grind
        have hxsc:RowC xs:=by
         obtain⟨_,_,_,_,_,g2,_,g4,_⟩:=hc.rows.ok r hr1;obtain⟨cs',e,hc⟩:=hE _ _ _ g4 e2 <;> simp_all
        rw [←hrs]at q4 q5 hl;have hkn:∀i,st.kinds.length≤i→ρ.kd i=none:=fun i hi=>by rw [←hkd];exact ob hi
        obtain⟨A',c',w',k',r1,rc,r3⟩:=hc.app (n0:=st.kinds.length) (c2:=c2) hr1 (cN st r) (ty:=o.type) q1 q2 q3 hrs.symm q4 (fun u hu=>(q6 u hu).2) e1 e2 hl (fun e=>by cases e) hnews hsc hok hxsc (fun _ _=>Sy.ext_le ρ _ _ hvals hkn);have hx1:=hv;rw [←hr2,e1]at hx1;injection hx1 with hx1;have hrow:RowC (xs++us.toArray):=fun u hu=>by
         simp only [zd,qd]at hu;rcases hu with hu|hu
         ·exact hxsc u hu
         ·exact hsc u (by simpa using hu)
        refine⟨A',c',w',k',xs++us.toArray,nn+n,?_,hrow,?_,T.den_up (hT A' (nn+n) c' _ rfl rfl rc) r3.up⟩
        ·unfold execOp;simp only [ho,ea,et,resolve,invoke,builtin,qw,jd,xb,vm,zr,xg,←hx1,←h2];rw [r1];rfl
        ·rw [hrs]at r3;exact r3
       ·exact hT.elim
      ·cases hap
     ·cases hap
    ·cases hap
   ·cases hap
  ·cases hap
 ·cases hap
theorem vJ:∀ {l l':List LK}{vs vs':List Value},fitsL l vs→fitsL l' vs'→fitsL (l++l') (vs++vs')
 | [],_,[],_,_,h'=>h'
 | _ :: _,_,_ :: _,_,h,h'=>⟨h.1,vJ h.2 h'⟩
theorem Went.from_ {ρ1 ρ2:Env}{k0:World}{k' w':World}{rs rows':List RowI}(g:Went ρ1 ρ2 k0 w0 k w k' w' rs rows') (hb:ρ1.blk=ρ.blk) (hr:∀r∈rs,aD ρ1 r=aD ρ r):Went ρ ρ2 k0 w0 k w k' w' rs rows':=
 { g with
   hw:=fun b n e=>g.hw b n (by rw [hb];exact e)
   oth:=fun q h1 h2 h3=>g.oth q h1 (fun r hr'=>by rw [hr r hr'];exact h2 r hr') fun b=>by rw [hb];exact h3 b
   new:=fun r h q e=>by
    rcases g.new r h q e with h|⟨r0,h0,e0⟩
    ·exact .inl h
    ·exact .inr ⟨r0,h0,by rw [←hr r0 h0];exact e0⟩ }
theorem aMg {ops:Array Oper}{st:St}{o:Oper}{ev:EvI}{K:T}(hpub:PubOk ρ st.hp) (hmem:∀A v,ρ.mem A=some v→w.cell? A=some v) (hev:uR P ops st o=some ev) (hc:Core ρ k0 w0 k w st.rows) (hE:ρ.Ok) (hkd:st.kd=ρ.kd) (hvals:∀i,st.kinds.length≤i→ρ.val i=none)
 (hKn:Knows1 ρ st.tm a o) (hT:(ev.node K).den P R ρ.bare k) :
 ∃pus A c w' k' xs l,fitsL ev.pre pus∧(execOp a.eval o).run P w=.ok (.value (.slice A l c)) w'∧RowC xs∧Went ρ (ρ.ext st.kinds.length (ev.pre++[.slice,.row]) (pus++[.slice A l c,.agg xs])) k0 w0 k w k' w' st.rows (ev.rows++[⟨st.kinds.length+ev.pre.length,st.kinds.length+ev.pre.length+1,ev.e,ev.s⟩])∧
  K.den P R (ρ.ext st.kinds.length (ev.pre++[.slice,.row]) (pus++[.slice A l c,.agg xs])).bare k':=by
 have hkn:∀i,st.kinds.length≤i→ρ.kd i=none:=fun i hi=>by rw [←hkd];exact ob hi
 unfold uR at hev;split at hev
 ·rename_i t l c ho;split at hev
  ·rename_i e i z n hel hn;split at hev
   ·rename_i hlc;injection hev with hev;subst hev;obtain⟨q1,q2,q3,q4,q5,q6⟩:=dG hel;have hl:(opnd st.tm l).den ρ=some (a.eval l):=hKn.at (by simp [ho,Op.operands]) (by rw [hn];simp);rw [hn]at hl;have hcl:a.eval c=a.eval l:=(wH hlc).symm;simp only at hT;unfold T.den at hT;split at hT
    ·rename_i kk N e1;have e1:=SC.den_le (Env.bare_le ρ) e1;have hl:n.den ρ=some (a.eval l):=hl;rw [e1]at hl;injection hl with hl;obtain⟨hN,hok,hT⟩:=hT;have hb1:(i.bytes:Int)*N≤281474976710656:=by
      have:=hok.1 <;> grind
     have hb2:=hok.2;have hrun:=run_make (P:=P) w t e i z q1 q2 q3 kk kk N N hN (Int.le_refl _) hb1 oq;have hall:∀u∈(madeCells z.cells (N.toNat*i.size)).toList,u.scalar=true∧u.noWord=true:=by
      intro u hu;unfold madeCells at hu;simp only [yg,xh]at hu;obtain⟨j,_,rfl⟩:=hu;have hl:j % z.cells.size<z.cells.size:=qg _ oq;rw [getElem!_pos z.cells _ hl];exact q6 _ (by simp)
     obtain⟨k',g⟩:=hc.fresh (n0:=st.kinds.length) (rows0:=st.rows) (fun q hq=>hq) (xs:=madeCells z.cells (N.toNat*i.size)) (cells:=madeCells z.cells (N.toNat*i.size)) (n:=N.toNat) (c:=N.toNat) (s:=i.size) (ty:=e) w.drawn q5 (size_madeCells _ _) (oy _) (size_madeCells _ _)
      (fun _ _ h=>h) (fun u hu=>(hall u hu).2) hall (Sy.ext_le ρ _ _ hvals hkn)
     refine⟨[],_,_,_,k',_,_,trivial,?_,hall,g,T.den_up (hT _ _ _ _ rfl (by rfl) (oy _)) g.up⟩
     simp_all [execOp]
    simp_all
   ·cases hev
  ·cases hev
 ·rename_i t parts ho;split at hev
  ·rename_i e i z hel;split at hev
   ·rename_i hp;injection hev with hev;subst hev;obtain⟨q1,q2,q3,q4,q5,q6⟩:=dG hel;have e1:parts=#[]:=ji hp;subst e1;simp only at hT;unfold T.den at hT;split at hT
    ·rename_i vs hvs;simp only [aC]at hvs;injection hvs with hvs;subst hvs;obtain⟨k',g⟩:=hc.fresh (n0:=st.kinds.length) (rows0:=st.rows) (fun r hr=>hr) (xs:=#[]) (cells:=#[]) (n:=0) (c:=0) (s:=i.size) (ty:=e) w.drawn q5 (by simp) (oy _) (by simp) (fun _ _ h=>h) (by simp) (fun u hu=>by cases hu) (Sy.ext_le ρ _ _ hvals hkn);refine⟨[],_,_,_,k',_,_,trivial,?_,(fun u hu=>by cases hu),g,T.den_up (hT _ _ _ _ rfl rfl (oy _)) g.up⟩;have e:Array.map (fun _:Nat=>(default:Value)) (Array.range 0)=#[]:=by simp_all
     simp [execOp,ho,Instr.buildSlice,aB ((jY _ _).trans q1),sizeOf,cI ((iD _ _).trans q2),Instr.fill,newRow];rw [e]
    simp_all
   ·cases hev
  ·cases hev
 ·split at hev
  ·split at hev
   ·rename_i e i z ty cs n hel hst;split at hev
    ·rename_i hcond;injection hev with hev;subst hev;obtain⟨hty,hw,hall⟩:=hcond;subst hty;obtain⟨q1,q2,q3,q4,q5,q6⟩:=dG hel;have hs:=fC hE hpub hKn (P:=P) (w:=w);rw [hst]at hs;obtain⟨vs,hvs,hrun⟩:=hs;simp only at hT;unfold T.den at hT;split at hT
     ·rename_i us hus;have hus:=aJ (Env.bare_le ρ) hus;rw [hvs]at hus;injection hus with hus;subst hus;have hsc:RowC vs.toArray:=fun u hu=>⟨cD hE hvs u (by simpa using hu),bO hE (by rw [←hkd];exact hall) hvs u (by simpa using hu)⟩;have hlen:vs.toArray.size=n*i.size:=by rw [wz,cQ hE hvs,hw]
      obtain⟨k',g⟩:=hc.fresh (n0:=st.kinds.length) (rows0:=st.rows) (fun r hr=>hr) (xs:=vs.toArray) (cells:=vs.toArray) (n:=n) (c:=n) (s:=i.size) (ty:=ty) w.drawn q5 hlen (oy _) hlen (fun _ _ h=>h) (fun u hu=>(hsc u hu).2) hsc (Sy.ext_le ρ _ _ hvals hkn);exact⟨[],_,_,_,k',_,_,trivial,hrun,hsc,g,T.den_up (hT _ _ _ _ rfl rfl (oy _)) g.up⟩
     ·exact hT.elim
    ·cases hev
   ·cases hev
  ·cases hev
 ·rename_i args argTypes ho;split at hev
  ·rename_i x y t t' hargs htypes;split at hev
   ·rename_i e i z v v' hel hx hy;split at hev
    ·rename_i r q hr hq;split at hev
     ·rename_i hcond;injection hev with hev;subst hev;obtain⟨htt,hre,hrs,hqs⟩:=hcond;subst htt hre;obtain⟨q1,q2,q3,q4,q5,q6⟩:=dG hel;obtain⟨hr1,hr2⟩:=aN hr;obtain⟨hq1,hq2⟩:=aN hq;have ea:args=#[x,y]:=by grind
      have et:argTypes=#[t,t]:=by grind
      have h1:(opnd st.tm x).den ρ=some (a.eval x):=hKn.at (by grind [Op.operands,Call.operands]) (by rw [hx];simp);have h2:(opnd st.tm y).den ρ=some (a.eval y):=hKn.at (by simp [ho,Op.operands,Call.operands,ea]) (by rw [hy];simp);rw [hx]at h1;rw [hy]at h2;have vof:∀ {v:Nat}{u:Value},(SV.one (.slr v)).den ρ=some u→ρ.val v=some u:=fun h=>by
       simp only [SV.den,SC.den]at h <;> grind
      have hv:=vof h1;have hv':=vof h2;simp only at hT;unfold T.den at hT;split at hT
      ·rename_i A nn cc xs us kk M e1 e2 e3 e4;have e1:ρ.val r.v=some (.slice A nn cc):=e1;have e2:ρ.val r.x=some (.agg xs):=e2;obtain⟨hl,h0,hok,hT⟩:=hT;obtain⟨B,m,c2,ys,g1,g2,g3,g4,g5,g6,g7,g8⟩:=hc.rows.ok q hq1;rw [hq2,hv']at g1;injection g1 with g1;have e4:=SC.den_le (Env.bare_le ρ) e4;simp only [SC.den,hv',g1,zz,oA]at e4;injection e4 with e4;injection e4 with _ e4;have hM:M.toNat=m:=oq
       rw [hM]at hl hok hT;obtain⟨ys',x1,x2,rfl⟩:=lJ e3;have x1:ρ.val q.x=some (.agg ys'):=x1;rw [g2]at x1;injection x1 with x1;injection x1 with x1;subst x1;have rc:∀ {r:RowI},r∈st.rows→∀ {xs:Array Value},ρ.val r.x=some (.agg xs)→RowC xs:=fun hr _ e2=>by
        obtain⟨_,_,_,_,_,g2,_,g4,_⟩:=hc.rows.ok _ hr;obtain⟨cs',e,hc⟩:=hE _ _ _ g4 e2 <;> simp_all
       have hxsc:=rc hr1 e2;have hysc:=rc hq1 g2;have hnil:B=none→m=0:=fun hB=>by
        simp_all
       have hnews:∀b',B=some b'→∀(j:Nat) u,ys.toList[j]?=some u→w.cell? (b'.add j)=some u:=fun b' hb' j u hj=>by
        rcases g8 with ⟨g8,_⟩|⟨g,cs,e,_,hB,_,g9,_⟩
        ·simp_all
        ·rw [e]at hb';injection hb' with hb';subst hb';rw [bK,hB.cell,qc] <;> simp_all
       rw [←hrs]at q4 q5 hl;obtain⟨A',c',w',k',r1,rc',r3⟩:=hc.app (n0:=st.kinds.length) (c2:=c2) hr1 (cN st r) (ty:=o.type) q1 q2 q3 hrs.symm q4 (fun u hu=>(q6 u hu).2) e1 e2 hl hnil hnews hysc hok hxsc (fun _ _=>Sy.ext_le ρ _ _ hvals hkn);have hx1:=hv;rw [←hr2,e1]at hx1;injection hx1 with hx1;have hrow:RowC (xs++ys.toList.toArray):=fun u hu=>by
        simp only [zd,qd]at hu;rcases hu with hu|hu
        ·exact hxsc u hu
        ·exact hysc u (by simpa using hu)
       refine⟨[],A',c',w',k',xs++ys.toList.toArray,nn+m,trivial,?_,hrow,?_,T.den_up (hT A' (nn+m) c' _ rfl rfl rc') r3.up⟩
       ·unfold execOp;simp only [ho,ea,et,resolve,invoke,builtin,qw,jd,xb,vm,zr,xg,←hx1,g1];rw [r1];rfl
       ·rw [hrs]at r3;exact r3
      ·exact hT.elim
     ·cases hev
    ·cases hev
   ·rename_i e i z v v' hel hx hy;split at hev
    ·rename_i r hr;split at hev
     ·rename_i hcond;injection hev with hev;subst hev;obtain⟨htt,hre,hrs⟩:=hcond;subst htt hre;obtain⟨q1,q2,q3,q4,q5,q6⟩:=dG hel;obtain⟨hr1,hr2⟩:=aN hr;have ea:args=#[x,y]:=by grind
      have et:argTypes=#[t,t]:=by grind
      have h1:(opnd st.tm x).den ρ=some (a.eval x):=hKn.at (by grind [Op.operands,Call.operands]) (by rw [hx];simp);have h2:(opnd st.tm y).den ρ=some (a.eval y):=hKn.at (by simp [ho,Op.operands,Call.operands,ea]) (by rw [hy];simp);rw [hx]at h1;rw [hy]at h2;have vof:∀ {v:Nat}{u:Value},(SV.one (.slr v)).den ρ=some u→ρ.val v=some u:=fun h=>by
       simp only [SV.den,SC.den]at h <;> grind
      have hv:=vof h1;have hv':ρ.val v'=some (a.eval y):=by
       simp only [SV.den,SC.den]at h2 <;> grind
      simp only at hT;unfold T.den at hT;split at hT
      ·rename_i B m c2 eB;replace eB:=SC.den_le (Env.bare_le ρ) eB;have eB':(SC.var v').den ρ=some (a.eval y):=h2;rw [eB']at eB;injection eB with eB;obtain⟨ys,s1,⟨s2,s3⟩,hT⟩:=hT;have hle:=Sy.ext_le ρ [LK.row] [.agg ys] hvals hkn;have hnew:∀(p:Nat) u,ys[p]?=some u→∃b o,B=some ⟨b,o,none⟩∧w.cell? ⟨b,o+p,none⟩=some u:=fun p u hu=>by
        have:=s3 p u hu;unfold cellAt at this;split at this
        ·rename_i b o;exact⟨b,o,rfl,hmem _ _ (rW this).1⟩
        ·cases this
       have eenv:(ρ.bare.ext st.kinds.length [LK.row] [.agg ys])=(ρ.ext st.kinds.length [LK.row] [.agg ys]).bare:=rfl;rw [eenv]at hT;have hc1:Core (ρ.ext st.kinds.length [LK.row] [.agg ys]) k0 w0 k w st.rows:=⟨hc.sees,hc.base,hc.kb,hc.wb,hc.lt,hc.rows.mono hle (fun b g e _=>⟨b,e⟩) (fun _ e _=>e) (fun _ _ _=>rfl)⟩;unfold T.den at hT;split at hT
       ·rename_i A nn cc xs us kk M e1 e2 e3 e4;obtain⟨hl,h0,hok,hT⟩:=hT;have e0:=(aK (ρ:=ρ) (n:=st.kinds.length) (lks:=[LK.row]) (us:=[.agg ys]) 0).1;rw [jh]at e0;have e4:=SC.den_le (Env.bare_le _) e4;simp only [SC.den,hle.val _ _ hv',eB,zz,oA]at e4;injection e4 with e4;injection e4 with _ e4;have hM:M.toNat=m:=oq
        rw [hM]at hl hok hT;obtain⟨ys',x1,x2,rfl⟩:=lJ e3;have x1:(ρ.ext st.kinds.length [LK.row] [.agg ys]).val st.kinds.length=some (.agg ys'):=x1;rw [e0]at x1;injection x1 with x1;injection x1 with x1;subst x1;have e1:(ρ.ext st.kinds.length [LK.row] [.agg ys]).val r.v=some (.slice A nn cc):=e1;have e2:(ρ.ext st.kinds.length [LK.row] [.agg ys]).val r.x=some (.agg xs):=e2;have hxsc:RowC xs:=by
         obtain⟨_,_,_,_,g1,g2,g3,g4,_⟩:=hc.rows.ok _ hr1;obtain⟨cs',e,hc⟩:=hE _ _ _ g4 g2;have:=hle.val _ _ g2;rw [e2]at this;injection this with this;injection this with this;injection e with e;rw [this,e];exact hc
        have hnil:B=none→m=0:=fun hA=>by
         rcases ju m with h0|h0
         ·exact h0
         ·have hpos:0<ys.size:=by rw [s2];exact zg h0 q5
          obtain⟨b,o,e,_⟩:=hnew 0 ys[0] (ql hpos);rw [hA]at e;cases e
        have hnews:∀b',B=some b'→∀(j:Nat) u,ys.toList[j]?=some u→w.cell? (b'.add j)=some u:=fun b' hb' j u hj=>by
         obtain⟨b,o,e,g⟩:=hnew j u (by simpa using hj);rw [e]at hb';injection hb' with hb';subst hb';rw [bK];exact g
        rw [←hrs]at q4 q5 hl;have ee:(ρ.ext st.kinds.length [LK.row] [.agg ys]).ext (st.kinds.length+1) [LK.slice,.row]=fun us=>ρ.ext st.kinds.length [LK.row,.slice,.row] (.agg ys :: us):=funext fun us=>rU (lks:=[LK.row]) (us:=[.agg ys]) rfl;have ee':∀us,(ρ.ext st.kinds.length [LK.row] [.agg ys]).ext (st.kinds.length+1) [LK.slice,.row] us=ρ.ext st.kinds.length [LK.row,.slice,.row] (.agg ys :: us):=fun us=>congrFun ee us
        obtain⟨A',c',w',k',r1,rc',r3⟩:=hc1.app (n0:=st.kinds.length+1) (c2:=c2) hr1 (cN st r) (ty:=o.type) q1 q2 q3 hrs.symm q4 (fun u hu=>(q6 u hu).2) e1 e2 hl hnil hnews s1 hok hxsc (fun _ _=>Sy.ext_le _ _ _ (fun i hi=>by
         show (if i<st.kinds.length then ρ.val i else [Value.agg ys][i-st.kinds.length]?)=none
         rw [oh oq,ob (by simp;omega)]) fun i hi=>by
         show (if i<st.kinds.length then ρ.kd i else [LK.row][i-st.kinds.length]?)=none
         rw [oh oq,ob (by simp;omega)])
        have hx1:=hle.val _ _ hv;rw [←hr2,e1]at hx1;injection hx1 with hx1;have hrow:RowC (xs++ys.toList.toArray):=fun u hu=>by
         simp only [zd,qd]at hu;rcases hu with hu|hu
         ·exact hxsc u hu
         ·exact s1 u (by simpa using hu)
        have r3':=r3.from_ (ρ:=ρ) rfl fun q hq=>bG (hc.rows.ok q hq) hle;rw [ee',hrs]at r3';refine⟨[.agg ys],A',c',w',k',xs++ys.toList.toArray,nn+m,⟨⟨_,rfl,s1⟩,trivial⟩,?_,hrow,r3',?_⟩
        ·unfold execOp;simp only [ho,ea,et,resolve,invoke,builtin,qw,jd,xb,vm,zr,xg,←hx1,eB];rw [r1];rfl
        ·have hT':=T.den_up (hT A' (nn+m) c' _ rfl rfl rc') r3.up;have e5:((ρ.ext st.kinds.length [LK.row] [.agg ys]).bare.ext (st.kinds.length+1) [LK.slice,.row] [.slice A' (nn+m) c',.agg (xs++ys.toList.toArray)])=((ρ.ext st.kinds.length [LK.row] [.agg ys]).ext (st.kinds.length+1) [LK.slice,.row] [.slice A' (nn+m) c',.agg (xs++ys.toList.toArray)]).bare:=rfl;rw [e5,ee']at hT';exact hT'
       ·exact hT.elim
      ·exact hT.elim
     ·cases hev
    ·cases hev
   ·cases hev
  ·cases hev
 ·cases hev
theorem aKt {st:St}{o:Oper}{so:StoI}{K:T}(hso:wJ P st o=some so) (hc:Core ρ k0 w0 k w st.rows) (hE:ρ.Ok) (hkd:st.kd=ρ.kd) (hvals:∀i,st.kinds.length≤i→ρ.val i=none)
 (hKn:Knows1 ρ st.tm a o) (hT:(T.setr so.r.v so.r.x so.i so.r.s so.j so.new st.kinds.length K).den P R ρ.bare k) :
 ∃w' xs,(execOp a.eval o).run P w=.ok .skip w'∧RowC xs∧Went ρ (ρ.ext st.kinds.length [.row] [.agg xs]) k0 w0 k w k w' st.rows (st.without so.r++[{ so.r with x:=st.kinds.length }])∧
  K.den P R (ρ.ext st.kinds.length [.row] [.agg xs]).bare k:=by
 unfold wJ at hso;split at hso
 ·rename_i t x y ho;split at hso
  ·rename_i v i s j hx;split at hso
   ·rename_i r new m hr hnew hm;obtain⟨hr1,hr2⟩:=aN hr;split at hso
    ·rename_i hcd;injection hso with hso;subst hso;simp only [qf,decide_eq_true_eq]at hcd;obtain⟨⟨⟨c1,c2⟩,c3⟩,c4⟩:=hcd;subst c1;have hp:(opnd st.tm x).den ρ=some (a.eval x):=hKn.at (by simp [ho,Op.operands]) (by rw [hx];simp);rw [hx]at hp;have hne:opnd st.tm y≠.top:=fun e=>by rw [e]at hnew;cases hnew
     have hv:(opnd st.tm y).den ρ=some (a.eval y):=hKn.at (by simp [ho,Op.operands]) hne;have h3:=cells?_spec hnew hv;have hlen:=cQ hE h3;have hsz:(a.eval y).cells.size=m:=by simp_all
     have hnw:=bO hE (by simp_all) h3;have hsc:=cD hE h3;unfold T.den at hT;split at hT
     ·rename_i A n c xs kk I us e1 e2 e3 e4;have e1:ρ.val r.v=some (.slice A n c):=e1;have e4:=aJ (Env.bare_le ρ) e4;rw [h3]at e4;injection e4 with e4;subst e4;have e3:=SC.den_le (Env.bare_le ρ) e3;obtain⟨⟨h0,h1⟩,hT⟩:=hT;have hxsc:RowC xs:=by
       obtain⟨_,_,_,_,_,_,_,g4,_⟩:=hc.rows.ok r hr1;obtain⟨cs',e,hc⟩:=hE _ _ _ g4 e2 <;> simp_all
      have hkn:∀i,st.kinds.length≤i→ρ.kd i=none:=fun i hi=>by rw [←hkd];exact ob hi
      obtain⟨g,w',rfl,s1,srow,s2⟩:=hc.setRow (n0:=st.kinds.length) (rows0:=st.without r) (t:=t) (I:=I.toNat) (j:=j) (v:=a.eval y) (cN st r) hr1 e1 e2 hxsc oq hm hsz c3 (fun u hu=>⟨hsc u hu,hnw u hu⟩) (Sy.ext_le ρ _ _ hvals hkn);simp only [SV.den,SC.den]at hp;rw [←hr2,e1]at hp;simp only [e3,kG,h0,h1,and_self,if_true]at hp;injection hp with hp;refine⟨w',_,?_,srow,s2,hT _ rfl⟩;simp [execOp,ho,←hp,Instr.storeAt,Instr.sureAddr,s1]
     simp_all
    ·cases hso
   ·cases hso
  ·cases hso
 ·cases hso
theorem vE {l:Array Bool}{i:Nat}(h:l.getD i true=false):l.toList.count false=(l.setIfInBounds i true).toList.count false+1:=by
 have hlt:=(mS h).1;have hv:l[i]=false:=by
  simp_all
 grind
theorem aCm {K:St→T}{Q:Exit→Act→World→Prop}(hK:∀st' ρ' k' a' w',Rel st' ρ' k0 w0 k' a' w'→(K st').den P R ρ'.bare k'→Q .normal a' w') :
 ∀(fuel:Nat) {listed E:Array Bool}{H:Hist}{st:St}{ρ:Env}{k:World}{a:Act}{w:World},listed.size=ops.size→listed.toList.count false=fuel→
  DRel P ops H st (fun i=>listed.getD i false=true) nb0 ρ k0 w0 k a w→EOk ops E H→Still P cfg ops R E H st K ρ.bare k→wpAny P .any ops Q fuel listed a w:=by
 -- nothing is left
 have fin:∀ {listed E:Array Bool}{H:Hist}{st:St}{ρ:Env}{k:World}{a:Act}{w:World},listed.size=ops.size→
  DRel P ops H st (fun i=>listed.getD i false=true) nb0 ρ k0 w0 k a w→EOk ops E H→Still P cfg ops R E H st K ρ.bare k→Region.ready .any ops listed=[]→Q .normal a w:=by
  intro listed E H st ρ k a w hsz h hE hS hr;have hall:∀(q:Nat) (s:St) (e:Ent),H[q]?=some (s,some e)→listed.getD e.i false=true:=by
   intro q
   induction q using Nat.strongRecOn with
   | _ q ih=>
    intro s e hq;cases hl:listed.getD e.i false with
    | true=>rfl
    | false=>
     obtain⟨o,ho,_⟩:=h.pend q s e hq (by rw [hl];simp);have hlt:e.i<ops.size:=(jq.1 ho).1
     have:e.i∈Region.ready .any ops listed:=mem_ready.2 ⟨by
      simp_all,o,ho,fun ed he hb=>by
      obtain⟨q',s',e',f1,f2,f3⟩:=hE.pre q s e o hq ho ed he hb <;> grind⟩
     simp_all
  have hEq:E=listed:=by
   apply Array.ext (by rw [hE.size,hsz]);intro i h1 h2;have hh:(E.getD i false=true)↔(listed.getD i false=true):=by
    rw [hE.iff];constructor
    ·grind
    ·exact h.dsub i
   rw [jv,jv,ql h1,ql h2]at hh <;> simp_all
  subst hEq;rcases hS with ⟨_,hS⟩|⟨r,o,f,args,e,n,h1,_⟩|⟨r,o,ty,cs,m,e,n,h1,_⟩|⟨r,o,ap,e,n,h1,_⟩|⟨r,o,so,e,n,h1,_⟩|⟨r,o,f,args,ty,z,dd,e,n,h1,_⟩|⟨h1,_⟩
  ·exact hK _ _ _ _ _ (h.done hall) hS
  ·simp_all
  ·simp_all
  ·simp_all
  ·simp_all
  ·simp_all
  simp_all
 intro fuel
 induction fuel with
 | zero=>
  intro listed E H st ρ k a w hsz hc h hE hS;have hr:Region.ready .any ops listed=[]:=by
   cases hr:Region.ready .any ops listed with
   | nil=>rfl
   | cons i rs=>
    have hi:i∈Region.ready .any ops listed:=by rw [hr];simp
    grind [vE,mem_ready]
  exact⟨hr,fin hsz h hE hS hr⟩
 | succ fuel ih=>
  intro listed E H st ρ k a w hsz hc h hE hS;refine⟨fun hr=>fin hsz h hE hS hr,fun i hi=>?_⟩;obtain⟨hi0,o,ho,hpre⟩:=mem_ready.1 hi;have hlt:=(mS hi0).1;have hnD:¬ listed.getD i false=true:=by simp_all
  have hD':∀j,(listed.setIfInBounds i true).getD j false=true↔(listed.getD j false=true∨j=i):=tG hlt;have hfun:(fun j=>(listed.setIfInBounds i true).getD j false=true)=(fun j=>listed.getD j false=true∨j=i):=funext fun j=>propext (hD' j);have hcl:Closed ops (fun j=>listed.getD j false=true∨j=i):=fun j oj hoj hj e he hb=>by
   rcases hj with hj|rfl
   ·exact .inl (h.dcl j oj hoj hj e he hb)
   simp_all
  have hcount:(listed.setIfInBounds i true).toList.count false=fuel:=by grind [vE]
  cases hEi:E.getD i false with
  | true=>
   obtain⟨q,s,e,hq,rfl⟩:=(hE.iff i).1 hEi;refine h.exec hq hnD hcl fun ρ' k' a' w' e1 e2 e3 hup hrel=>?_;have hb:ρ'.bare=ρ.bare:=by unfold Env.bare <;> grind
   refine ih (by simp_all) hcount (by rw [hfun];exact hrel) hE ?_;rw [hb];exact hS.up hup
  | false=>
   have hiE:i∈Region.ready .any ops E:=mem_ready.2 ⟨by
    have:i<E.size:=by rw [hE.size,←hsz];exact hlt
    simp_all,o,ho,fun ed he hb=>(hE.iff _).2 (h.dsub _ (hpre ed he hb))⟩
   have hpbs:PubOk ρ st.hp:=by have:=h.pubs H.length <;> simp_all [bQ]
   have hlook:∀ {e:Ent}{b:Option Nat},e={ i:=i,rt:=aS ops o,wt:=o.dst,rb:=b,wb:=none,al:=none }→bH (masks ops) H e=true→aW ops st o=.yes→
    Knows1 ρ st.tm a o∧Region.wanted o (yielded ops a.tmps)=true:=by
    intro e b h5 h6 h3;have hei:e.i=i:=by rw [h5]
    have htm:∀t∈aS ops o,Ok ρ (st.tm t) (a.tmps.getD t undef):=fun t ht=>h.endT fun q s e' hq ht'=>by
     have:=iU h6 hq (by simp_all [conflict]);rw [hei]at this;rcases dH hcl (.inr rfl) this with g|g
     ·exact g
     ·have:=(hE.iff i).2 ⟨q,s,e',hq,g⟩ <;> simp_all
    have hKn:Knows1 ρ st.tm a o:=fun t ht=>htm t (by
     unfold aS
     exact qd.2 (.inl (List.mem_filterMap.2 ⟨.tmp t,by simp_all,rfl⟩)))
    grind [Region.wanted,yielded,aW,bind,aS,kE,Ok.den_bool]
   have hne:∀ {q:Nat}{s:St}{e':Ent},H[q]?=some (s,some e')→e'.i≠i:=fun hq g=>by
    have:=(hE.iff i).2 ⟨_,_,_,hq,g⟩ <;> simp_all
   have hfresh:∀ {e:Ent},e.i=i→∀(q:Nat) (s:St) (e':Ent),H[q]?=some (s,some e')→e'.i≠e.i:=fun hei _ _ _ hq hh=>hne hq (hh.trans hei);have hrows:fB (masks ops) H i=true→∀ {q:Nat}{s:St}{e':Ent},H[q]?=some (s,some e')→¬ listed.getD e'.i false=true→e'.rr=true→False:=fun h8 q s e' hq hd hrr=>by
    unfold fB at h8;have:=vp.1 h8 _ (zh hq);simp only [hrr,Bool.not_true,Bool.false_or]at this;rcases dH hcl (.inr rfl) this with g|g <;> grind
   have hE':∀ {e:Ent},e.i=i→EOk ops (E.setIfInBounds i true) (H++[(st,some e)]):=fun {e} hei=>by
    have hiE0:E.getD i true=false:=by
     have:i<E.size:=by rw [hE.size,←hsz];exact hlt
     simp_all
    rw [←hei];exact hE.snoc (by simp_all) (by simp_all) (fun ed he hb=>(hE.iff _).2 (h.dsub _ (hpre ed he hb)))
   rcases hS with ⟨hr,_⟩|⟨r,o',f,args,e,n,h1,h2,h3,h4,h5,h6,h7⟩|⟨r,o',ty,cs,m,e,n,h1,h2,h3,h4,h5,h6,h7⟩|⟨r,o',ap,e,n,h1,h2,h3,h4,h5,h6,h8,h7⟩|⟨r,o',so,e,n,h1,h2,h3,h4,h5,h6,h8,h7⟩|⟨r,o',f,args,ty,z,dd,e,n,h1,h2,h3,h4,h5,h6,h8,hz,h7⟩|⟨hne,hall⟩
   ·rw [hr]at hiE;cases hiE
   ·rw [h1]at hiE;have hri:i=r:=by simpa using hiE
    subst hri;rw [ho]at h2;injection h2 with h2;subst h2;have hei:e.i=i:=by rw [h5]
    obtain⟨hKn,hwant⟩:=hlook h5 h6 h3;have hstep:=fC (P:=P) (w:=w) (hp:=st.hp) h.env hpbs hKn;rw [h4]at hstep;unfold wpOp;rw [ho];simp only;rw [og hwant]
    left
    unfold Oper.wp;unfold T.den at h7;split at h7
    ·rename_i vs hvs;rw [hstep vs (aX (Env.bare_le ρ) hvs),xt];refine (h7 k (Up.refl k) w h.sees).mono ?_;rintro e0 w' ⟨v,k',rfl,s1,s2,s3,hex⟩;obtain⟨us,hf,hr,ht⟩:=aR hex;have hr':=aQ (ρ:=ρ.ext st.kinds.length (cV P cfg.opq o.type st.kinds.length).2 us) hr;have hwt:e.wt=o.dst:=by rw [h5]
     have hrel:=h.called (e:=e) hf (hfresh hei) h6 (by rw [h5]) (by rw [h5]) (by rw [hei];exact hcl) hr' s1 s2 s3;rw [hwt,hei]at hrel;obtain⟨E2,H2,st2,ρ2,k2,a1,a2,a3⟩:=advance n hrel.at (hE' hei) ht;exact ih (by simpa using hsz) hcount (by rw [hfun];exact a1) a2 a3
    ·exact h7.elim
   ·rw [h1]at hiE;have hri:i=r:=by simpa using hiE
    subst hri;rw [ho]at h2;injection h2 with h2;subst h2;have hei:e.i=i:=by rw [h5]
    obtain⟨hKn,hwant⟩:=hlook h5 h6 h3;have hstep:=fC (P:=P) (w:=w) (hp:=st.hp) h.env hpbs hKn;rw [h4]at hstep;unfold wpOp;rw [ho];simp only;rw [og hwant]
    left
    unfold Oper.wp;unfold T.den at h7;split at h7
    ·rename_i vs hvs;obtain⟨vs',g1,g2⟩:=hstep;rw [aJ (Env.bare_le ρ) hvs]at g1;injection g1 with g1;subst g1;rw [g2,jw];obtain⟨k',s1,s2,s3,s4,s5⟩:=wD h.sees (vs:=vs) ty;have ht:=h7 w.heap.size k' s2 s5;have hwt:e.wt=o.dst:=by rw [h5]
     have hv0:=aK (ρ:=ρ) (n:=st.kinds.length) (lks:=[LK.any]) (us:=[.pointer (some ⟨w.heap.size,0,none⟩)]) 0;have hr':(SV.one (.psl st.kinds.length 0 m m)).den (ρ.ext st.kinds.length [.any] [.pointer (some ⟨w.heap.size,0,none⟩)])=some (yE (some m) w.heap.size):=by
      have:=hv0.1;rw [jh]at this;simp only [SV.den,SC.den,this];rfl
     have hrel:=h.called (e:=e) (lks:=[.any]) (us:=[.pointer (some ⟨w.heap.size,0,none⟩)]) ⟨⟨rfl,rfl⟩,trivial⟩ (hfresh hei) h6 (by rw [h5]) (by rw [h5]) (by rw [hei];exact hcl) hr' s1 s3 s4;rw [hwt,hei]at hrel;obtain⟨E2,H2,st2,ρ2,k2,a1,a2,a3⟩:=advance n hrel.at (hE' hei) ht;exact ih (by simpa using hsz) hcount (by rw [hfun];exact a1) a2 a3
    ·exact h7.elim
   ·rw [h1]at hiE;have hri:i=r:=by simpa using hiE
    subst hri;rw [ho]at h2;injection h2 with h2;subst h2;have hei:e.i=i:=by rw [h5]
    obtain⟨hKn,hwant⟩:=hlook h5 h6 h3;unfold wpOp;rw [ho];simp only;rw [og hwant]
    left
    unfold Oper.wp;have hblk:BlkRel ρ k0 k w st ap.b:=h.endH fun q s e' hq hb=>by
     have:=iU h6 hq (by rw [h5];simp only [conflict,hb,we];exact .inl (.inr (.inl (by simp))));rw [hei]at this;rcases dH hcl (.inr rfl) this with g|g
     ·exact g
     ·have:=(hE.iff i).2 ⟨q,s,e',hq,g⟩;rw [hEi]at this;cases this
    obtain⟨A,c,w',k',xs,l,g1,g2,g3,g4⟩:=aGv h4 ⟨h.sees,h.base,h.kb,h.wb,h.lt,h.rows⟩ h.env (funext fun i=>(h.kinds i).symm) h.vals hKn hblk h7;rw [g1,jw];have hwt:e.wt=o.dst:=by rw [h5]
    have e0:=aK (ρ:=ρ) (n:=st.kinds.length) (lks:=[LK.slice,.row]) (us:=[.slice A l c,.agg xs]) 0;have hr':(SV.one (.slr st.kinds.length)).den (ρ.ext st.kinds.length [.slice,.row] [.slice A l c,.agg xs])=some (.slice A l c):=by
     have:=e0.1;rw [jh]at this;simp only [SV.den,SC.den,this];rfl
    have hrel:=h.stepped (e:=e) (lks:=[.slice,.row]) (us:=[.slice A l c,.agg xs]) ⟨⟨_,_,_,rfl⟩,⟨_,rfl,g2⟩,trivial⟩ (hfresh hei) h6 (by rw [h5]) (by rw [h5]) (by rw [hei];exact hcl) hr' g3.sees g3.kbl g3.wb g3.sz g3.hw g3.rows (g3.fam h.fam (Sy.ext_le ρ _ _ h.vals fun i hi=>by rw [h.kinds,ob hi])) (fun q s e' hq hd hrr=>(hrows h8 hq hd hrr).elim);rw [hwt,hei]at hrel;obtain⟨E2,H2,st2,ρ2,k2,a1,a2,a3⟩:=advance n hrel (hE' hei) g4;exact ih (by simpa using hsz) hcount (by rw [hfun];exact a1) a2 a3
   ·rw [h1]at hiE;have hri:i=r:=by simpa using hiE
    subst hri;rw [ho]at h2;injection h2 with h2;subst h2;have hei:e.i=i:=by rw [h5]
    obtain⟨hKn,hwant⟩:=hlook h5 h6 h3;unfold wpOp;rw [ho];simp only;rw [og hwant]
    left
    unfold Oper.wp;obtain⟨w',xs,g1,g2,g3,g4⟩:=aKt h4 ⟨h.sees,h.base,h.kb,h.wb,h.lt,h.rows⟩ h.env (funext fun i=>(h.kinds i).symm) h.vals hKn h7;rw [g1,Oper.upon_skip];have hwt:e.wt=o.dst:=by rw [h5]
    have hrel:=h.stepped (e:=e) (lks:=[.row]) (us:=[.agg xs]) (res:=bL) (v:=undef) ⟨⟨_,rfl,g2⟩,trivial⟩ (hfresh hei) h6 (by rw [h5]) (by rw [h5]) (by rw [hei];exact hcl) rfl g3.sees g3.kbl g3.wb g3.sz g3.hw g3.rows (g3.fam h.fam (Sy.ext_le ρ _ _ h.vals fun i hi=>by rw [h.kinds,ob hi])) (fun q s e' hq hd hrr=>(hrows h8 hq hd hrr).elim);rw [hwt,hei]at hrel;obtain⟨E2,H2,st2,ρ2,k2,a1,a2,a3⟩:=advance n hrel (hE' hei) g4;exact ih (by simpa using hsz) hcount (by rw [hfun];exact a1) a2 a3
   ·rw [h1]at hiE;have hri:i=r:=by simpa using hiE
    subst hri;rw [ho]at h2;injection h2 with h2;subst h2;have hei:e.i=i:=by rw [h5]
    obtain⟨hKn,hwant⟩:=hlook h5 h6 h3;have hstep:=fC (P:=P) (w:=w) (hp:=st.hp) h.env hpbs hKn;rw [h4]at hstep;unfold wpOp;rw [ho];simp only;rw [og hwant]
    left
    unfold Oper.wp;unfold T.den at h7;split at h7
    ·rename_i vs hvs;rw [hstep vs (aX (Env.bare_le ρ) hvs),xt];refine (h7 k (Up.refl k) w h.sees).mono ?_;rintro e0 w' ⟨A,m,c,xs,A',m',c',xs',A'',m'',c'',xs'',k',rfl,s1,s2,s3,g,g',g'',hap,B,p,d,ys,B',p',d',ys',B'',p'',d'',ys'',he',ht⟩;simp only [Value.tuple.injEq,Array.mk.injEq,List.cons.injEq,Value.slice.injEq,Value.agg.injEq,and_true]at he';obtain⟨⟨rfl,rfl,rfl,rfl⟩,rfl,⟨rfl,rfl,rfl,rfl⟩,rfl,⟨rfl,rfl,rfl,rfl⟩,rfl⟩:=he';have hcore:Core ρ k0 w0 k w st.rows:=⟨h.sees,h.base,h.kb,h.wb,h.lt,h.rows⟩;have g3:=hcore.gift3 (n0:=st.kinds.length) h.vals (fun i hi=>by rw [h.kinds,ob hi]) hz s1 s2 s3 g g' g'' hap;have hwt:e.wt=o.dst:=by rw [h5]
     have e0:=(aK (ρ:=ρ) (n:=st.kinds.length) (lks:=[.slice,.row,.slice,.row,.slice,.row]) (us:=[.slice A m c,.agg xs,.slice A' m' c',.agg xs',.slice A'' m'' c'',.agg xs'']) 0).1;have e2:=(aK (ρ:=ρ) (n:=st.kinds.length) (lks:=[.slice,.row,.slice,.row,.slice,.row]) (us:=[.slice A m c,.agg xs,.slice A' m' c',.agg xs',.slice A'' m'' c'',.agg xs'']) 2).1;have e4:=(aK (ρ:=ρ) (n:=st.kinds.length) (lks:=[.slice,.row,.slice,.row,.slice,.row]) (us:=[.slice A m c,.agg xs,.slice A' m' c',.agg xs',.slice A'' m'' c'',.agg xs'']) 4).1;rw [jh]at e0
     have hr':(qG dd [.slr st.kinds.length,.slr (st.kinds.length+2),.slr (st.kinds.length+4)]).den (ρ.ext st.kinds.length [.slice,.row,.slice,.row,.slice,.row] [.slice A m c,.agg xs,.slice A' m' c',.agg xs',.slice A'' m'' c'',.agg xs''])=some (aAf dd (.agg #[.slice A m c,.slice A' m' c',.slice A'' m'' c''])):=vK (by
      simp only [List.getElem?_cons_succ,List.getElem?_cons_zero]at e0 e2 e4
      simp [SV.den,zB,aC,SC.scalar,SC.den,e0,e2,e4]) dd
     have hrel:=h.stepped (e:=e) (lks:=[.slice,.row,.slice,.row,.slice,.row]) (us:=[.slice A m c,.agg xs,.slice A' m' c',.agg xs',.slice A'' m'' c'',.agg xs'']) ⟨⟨_,_,_,rfl⟩,⟨_,rfl,g.rc⟩,⟨_,_,_,rfl⟩,⟨_,rfl,g'.rc⟩,⟨_,_,_,rfl⟩,⟨_,rfl,g''.rc⟩,trivial⟩ (hfresh hei) h6 (by rw [h5]) (by rw [h5]) (by rw [hei];exact hcl) hr' g3.sees g3.kbl g3.wb g3.sz g3.hw g3.rows (g3.fam h.fam (Sy.ext_le ρ _ _ h.vals fun i hi=>by rw [h.kinds,ob hi])) (fun q s e' hq hd hrr=>(hrows h8 hq hd hrr).elim);rw [hwt,hei]at hrel;obtain⟨E2,H2,st2,ρ2,k2,a1,a2,a3⟩:=advance n hrel.at (hE' hei) ht;exact ih (by simpa using hsz) hcount (by rw [hfun];exact a1) a2 a3
    ·exact h7.elim
   ·obtain⟨o',ev,e,n,h2,h3,h4,h5,h6,h8,h7⟩:=hall i hiE;rw [ho]at h2;injection h2 with h2;subst h2;have hei:e.i=i:=by rw [h5]
    obtain⟨hKn,hwant⟩:=hlook h5 h6 h3;unfold wpOp;rw [ho];simp only;rw [og hwant]
    left
    unfold Oper.wp;have hst:(st.vars ev.pre).row2 ev.rows ev.e ev.s=({ st.vars (ev.pre++[.slice,.row]) with rows:=ev.rows++[⟨st.kinds.length+ev.pre.length,st.kinds.length+ev.pre.length+1,ev.e,ev.s⟩] }:St):=by
     simp [St.row2,St.vars]
    obtain⟨pus,A,c,w',k',xs,l,gp,g1,g2,g3,g4⟩:=aMg (ops:=ops) (by have:=h.pubs H.length;rwa [bQ]at this) (fun A v hv=>h.sees.cell (h.mem A v hv)) h4 ⟨h.sees,h.base,h.kb,h.wb,h.lt,h.rows⟩ h.env (funext fun i=>(h.kinds i).symm) h.vals hKn h7;rw [hst]at g4;rw [g1,jw];have hwt:e.wt=o.dst:=by rw [h5]
    have hlp:ev.pre.length=pus.length:=(bZ gp).1.symm;have e0:=aK (ρ:=ρ) (n:=st.kinds.length) (lks:=ev.pre++[LK.slice,.row]) (us:=pus++[.slice A l c,.agg xs]) ev.pre.length;have hr':(SV.one (.slr (st.kinds.length+ev.pre.length))).den (ρ.ext st.kinds.length (ev.pre++[.slice,.row]) (pus++[.slice A l c,.agg xs]))=some (.slice A l c):=by
     have e1:=e0.1;rw [vk oq,hlp,Nat.sub_self]at e1;have e1:(ρ.ext st.kinds.length (ev.pre++[.slice,.row]) (pus++[.slice A l c,.agg xs])).val (st.kinds.length+pus.length)=some (.slice A l c):=e1;rw [hlp];simp only [SV.den,SC.den,e1]
    have hfit:fitsL (ev.pre++[LK.slice,.row]) (pus++[.slice A l c,.agg xs]):=vJ gp (l':=[LK.slice,.row]) (vs':=[.slice A l c,.agg xs]) ⟨⟨_,_,_,rfl⟩,⟨_,rfl,g2⟩,trivial⟩;have hrel:=h.stepped (e:=e) (lks:=ev.pre++[.slice,.row]) (us:=pus++[.slice A l c,.agg xs]) hfit (hfresh hei) h6 (by rw [h5]) (by rw [h5]) (by rw [hei];exact hcl) hr' g3.sees g3.kbl g3.wb g3.sz g3.hw g3.rows (g3.fam h.fam (Sy.ext_le ρ _ _ h.vals fun i hi=>by rw [h.kinds,ob hi])) (fun q s e' hq hd hrr=>(hrows h8 hq hd hrr).elim);rw [hwt,hei]at hrel;obtain⟨E2,H2,st2,ρ2,k2,a1,a2,a3⟩:=advance n hrel (hE' hei) g4;exact ih (by simpa using hsz) hcount (by rw [hfun];exact a1) a2 a3
end
