/- A symbolic executor of the model's code: code. -/
import Derived.Test.YtmifbgccpdmjpaaGreatTbSyG
namespace Go.Proofs.YtmifbgccpdmjpaaGreat.Sy
open Go.RowKit
inductive SExit where
 | normal
 | exit (id:Nat)
 | ret
def SExit.to:SExit→Exit
 | .normal=>.normal
 | .exit id=>.exit id
 | .ret=>.ret
theorem aQf {a b:Value}(h:aQe a b=true):a=b:=by
 unfold aQe at h;split at h
 all_goals first
  | (simp only [qf,decide_eq_true_eq]at h;simp [h];done)
  | (have h:=eq_of_beq h;rw [h];done)
  | (have h:=ow h;rw [h];done)
  | rfl
  | (simp at h;obtain⟨rfl,rfl⟩:=h;rfl)
  | cases h
theorem aBh:∀ {a b:SC},aK a b=true→a=b:=by
 intro a
 induction a with
 | var i=>intro b h;cases b <;> simp [aK]at h;rw [h]
 | lit v=>intro b h;cases b <;> simp [aK]at h;rw [aQf h]
 | ptr b o=>intro b h;cases b <;> simp [aK]at h;simp [h]
 | slr v=>intro b h;cases b <;> simp [aK]at h;simp [h]
 | idx x y ihx ihy=>intro b h;cases b <;> simp [aK]at h;simp [ihx h.1,ihy h.2]
 | le x y ihx ihy=>intro b h;cases b <;> simp [aK]at h;simp [ihx h.1,ihy h.2]
 | fit x y ihx ihy=>intro b h;cases b <;> simp [aK]at h;simp [ihx h.1,ihy h.2]
 | nz x ih=>intro b h;cases b <;> simp [aK]at h;simp [ih h]
 | cap x ih=>intro b h;cases b <;> simp [aK]at h;simp [ih h]
 | isSl k x ih=>intro b h;cases b <;> simp [aK]at h;simp [h.1,ih h.2]
 | elem x y s j ihx ihy=>intro b h;cases b <;> simp [aK]at h;simp [ihx h.1.1.1,ihy h.1.1.2,h.1.2,h.2]
 | slc x y z s ihx ihy ihz=>intro b h;cases b <;> simp [aK]at h;simp [ihx h.1.1.1,ihy h.1.1.2,ihz h.1.2,h.2]
 | psl p o n c=>intro b h;cases b <;> simp [aK]at h;simp [h]
 | sl b o n c=>intro b h;cases b <;> simp [aK]at h;simp [h]
 | seg b o=>intro b h;cases b <;> simp [aK]at h;simp [h]
 | part x N i s j m ih=>intro b h;cases b <;> simp [aK]at h;simp [h.1.1.1.1.1,h.1.1.1.1.2,ih h.1.1.1.2,h.1.1.2,h.1.2,h.2]
 | cat x y ihx ihy=>intro b h;cases b <;> simp [aK]at h;simp [ihx h.1,ihy h.2]
 | upd x N i s j y ih ihy=>intro b h;cases b <;> simp [aK]at h;simp [h.1.1.1.1.1,h.1.1.1.1.2,ih h.1.1.1.2,h.1.1.2,h.1.2,ihy h.2]
 | fn b o=>intro b h;cases b <;> simp [aK]at h;simp [h]
 | fnb f b c=>intro b h;cases b <;> simp [aK]at h;simp [h]
 | bin cl op x y ihx ihy=>intro b h;cases b <;> simp [aK]at h;simp [h.1.1.1,h.1.1.2,ihx h.1.2,ihy h.2]
 | not x ih=>intro b h;cases b <;> simp [aK]at h;simp [ih h]
 | neg x ih=>intro b h;cases b <;> simp [aK]at h;simp [ih h]
 | conv k x ih=>intro b h;cases b <;> simp [aK]at h;simp [h.1,ih h.2]
 | len x ih=>intro b h;cases b <;> simp [aK]at h;simp [ih h]
 | byte x y ihx ihy=>intro b h;cases b <;> simp [aK]at h;simp [ihx h.1,ihy h.2]
 | sub x y z ihx ihy ihz=>intro b h;cases b <;> simp [aK]at h;simp [ihx h.1.1,ihy h.1.2,ihz h.2]
 | pick x y z ihx ihy ihz=>intro b h;cases b <;> simp [aK]at h;simp [ihx h.1.1,ihy h.1.2,ihz h.2]
 | cel x i s k _=>intro b h;cases b <;> simp [aK]at h
def tS:List SC→List SC→Bool
 | [],[]=>true
 | a :: l,b :: m=>aK a b && tS l m
 | _,_=>false
theorem lA:∀ {a b:List SC},tS a b=true→a=b
 | [],[],_=>rfl
 | a :: l,b :: m,h=>by simp [tS]at h;rw [aBh h.1,lA h.2]
 | [],_ :: _,h=>by cases h
 | _ :: _,[],h=>by cases h
def aGi:List (Bool×List SC)→List (Bool×List SC)→Bool
 | [],[]=>true
 | a :: l,b :: m=>a.1 == b.1 && tS a.2 b.2 && aGi l m
 | _,_=>false
theorem aBi:∀ {a b:List (Bool×List SC)},aGi a b=true→a=b
 | [],[],_=>rfl
 | (a,x) :: l,(b,y) :: m,h=>by simp [aGi]at h;rw [h.1.1,lA h.1.2,aBi h.2]
 | [],_ :: _,h=>by cases h
 | _ :: _,[],h=>by cases h
def aQc:SV→SV→Bool
 | .one a,.one b=>aK a b
 | .agg a,.agg b=>tS a b
 | .tup a,.tup b=>aGi a b
 | .ifc t g a,.ifc t' g' b=>t == t' && g == g' && tS a b
 | .top,.top=>true
 | _,_=>false
theorem aQd {a b:SV}(h:aQc a b=true):a=b:=by
 cases a <;> cases b <;> simp [aQc]at h
 ·rw [aBh h]
 ·rw [lA h]
 ·rw [aBi h]
 ·rw [h.1.1,h.1.2,lA h.2]
 ·rfl
def wP (st:St) (b i:Nat):SV:=match st.heap[b]? with
 | some x=>match x.cells[i]? with
  | some c=>.one c
  | none=>.top
 | none=>.top
def pJ (st:St) (sv:SV) (ty:TypeId) (s:Nat):SV:=match sv with
 | .one (.slr v)=>match dH st v with
  | some r=>if r.ty=ty∧r.s=s then .rw r.v r.x else .top
  | none=>.top
 | .one (.lit (.slice none 0 0))=>if 0<s then .rwnil else .top
 | _=>.top
def Slot.place (st:St):Slot→SV
 | .rw t _ _=>st.tm t
 | .rb b i _ _=>wP st b i
 | _=>.top
def Slot.row?:Slot→Option (TypeId×Nat)
 | .rw _ ty s=>some (ty,s)
 | .rb _ _ ty s=>some (ty,s)
 | _=>none
def Slot.get (st:St):Slot→SV
 | .tmp t _ _=>st.tm t
 | .blk b _=>match st.heap[b]? with
  | some x=>.agg x.cells
  | none=>.top
 | .rw t ty s=>pJ st (st.tm t) ty s
 | .rb b i ty s=>pJ st (wP st b i) ty s
 | .fm ty s=>match st.fam with
  | some f=>if f.ty=ty∧f.s=s then .fm f.v f.x else .top
  | none=>.top
def SC.isSlr:SC→Bool
 | .slr _=>true
 | .sl _ _ _ _=>true
 | _=>false
def aGm (st:St):List Slot→List SC
 | []=>[]
 | sl :: l=>(match sl with
  | .tmp _ _ _=>(sl.get st).scs.filter SC.isSlr
  | .blk _ _=>(sl.get st).scs.filter SC.isSlr
  | _=>[])++aGm st l
def lQ (st:St) (sv:SV):List RowI:=match sv with
 | .one (.slr v)=>(dH st v).toList
 | _=>[]
def dY (st:St):List Slot→List RowI
 | []=>[]
 | sl :: l=>lQ st (sl.place st)++dY st l
def fE:List Slot→List SV→List RowI
 | sl :: l,sv :: m=>match sl.row?,sv with
  | some (ty,s),.rw v x=>⟨v,x,ty,s⟩ :: fE l m
  | _,_=>fE l m
 | _,_=>[]
def cP (b:Nat):List Slot→List SV→List (Nat×SC)
 | .rb b' i _ _ :: l,.rw v _ :: m=>if b'=b then (i,.slr v) :: cP b l m else cP b l m
 | _ :: l,_ :: m=>cP b l m
 | _,_=>[]
def fL (cs:List SC):List (Nat×SC)→List SC
 | []=>cs
 | (i,c) :: l=>fL (cs.set i c) l
def lM:List Slot→List SV→Option FamI
 | .fm ty s :: l,sv :: m=>match sv with
  | .fm v x=>if 0<s then some ⟨v,x,ty,s⟩ else none
  | _=>lM l m
 | _ :: l,_ :: m=>lM l m
 | _,_=>none
def gW (st:St) (slots:List Slot):List RowI:=st.rows.filter fun r=>decide (r ∉ dY st slots)
def aR (lo:Nat):List Slot→List SV×List LK
 | []=>([],[])
 | .tmp _ agg lks :: l=>let r:=aR (lo+lks.length) l;((if agg then .agg (gL lo lks) else .one (.var lo)) :: r.1,lks++r.2)
 | .blk _ lks :: l=>let r:=aR (lo+lks.length) l;(.agg (gL lo lks) :: r.1,lks++r.2)
 | .rw _ _ _ :: l=>let r:=aR (lo+2) l;(.rw lo (lo+1) :: r.1,[.slice,.row]++r.2)
 | .rb _ _ _ _ :: l=>let r:=aR (lo+2) l;(.rw lo (lo+1) :: r.1,[.slice,.row]++r.2)
 | .fm _ _ :: l=>let r:=aR (lo+2) l;(.fm lo (lo+1) :: r.1,[.row,.fam]++r.2)
def dR (t:Tmp):List Slot→List SV→Option SV
 | .tmp t' _ _ :: l,sv :: m=>if t'=t then some sv else dR t l m
 | .blk _ _ :: l,_ :: m=>dR t l m
 | .rw t' _ _ :: l,sv :: m=>if t'=t then (match sv with
  | .rw v _=>some (.one (.slr v))
  | _=>some .top) else dR t l m
 | .rb _ _ _ _ :: l,_ :: m=>dR t l m
 | .fm _ _ :: l,_ :: m=>dR t l m
 | _,_=>none
def eL (b:Nat):List Slot→List SV→Option (List SC)
 | .blk b' _ :: l,.agg cs :: m=>if b'=b then some cs else eL b l m
 | _ :: l,_ :: m=>eL b l m
 | _,_=>none
def cI:Code→List Tmp
 | .region _ ops _=>ops.toList.filterMap (·.dst)
 | .seq a b=>cI a++cI b
 | .cond _ a b=>cI a++cI b
 | .block _ a=>cI a
 | .loop a=>cI a
 | .scope a=>cI a
 | _=>[]
def dP (st:St) (slots:List Slot) (ws:List Tmp):St:=
 let r:=aR st.kinds.length slots
 { tmps:=⟨st.tmps.length,[],fun t=>match dR t slots r.1 with
    | some sv=>sv
    | none=>if ws.contains t then .top else st.tm t⟩
   heap:=st.heap.mapIdx fun b blk=>match eL b slots r.1 with
    | some cs=>{ blk with cells:=cs }
    | none=>{ blk with cells:=fL blk.cells (cP b slots r.1) }
   kinds:=st.kinds++r.2
   depth:=st.depth+1
   rows:=gW st slots++fE slots r.1
   fam:=lM slots r.1 }
def kF (st:St) (slots:List Slot) (ws:List Tmp) (st1:St):Bool:=
 let r:=aR st.kinds.length slots
 st1.tmps.length == st.tmps.length &&
 (gW st slots).all (fun q=>decide (q∈st1.rows) && decide (q ∉ dY st1 slots)) && decide ((dY st1 slots).Nodup) &&
 (List.range st.tmps.length).all (fun t=>(dR t slots r.1).isSome || ws.contains t || aQc (st1.tm t) (st.tm t)) &&
 (List.range st.heap.length).all fun b=>match st.heap[b]?,st1.heap[b]? with
   | some x,some y=>x.ty == y.ty && x.pub == y.pub && x.pv == y.pv && (if (eL b slots r.1).isSome then !x.pub else tS (fL x.cells (cP b slots r.1)) (fL y.cells (cP b slots r.1)) && (cP b slots r.1).all fun p=>decide (p.1<y.cells.length))
   | _,_=>false
def unroll:Nat→(St→(SExit→St→T)→T)→St→(SExit→St→T)→T
 | 0, _, _, _ => .fail "unroll: fuel"
 | n+1,f,st,K=>f st fun e st'=>match e with
  | .normal=>unroll n f st' K
  | e=>K e st'
def aDe:List Operand→St→(St→T)→T
 | [],st,K=>K st
 | x :: xs,st,K=>match opnd st.tm x with
  | .one (.ptr b 0)=>match st.heap[b]? with
   | some blk=>if blk.pub then aDe xs st K else .pub blk.ty blk.cells st.kinds.length (aDe xs (st.pubB b) K)
   | none=>aDe xs st K
  | _=>aDe xs st K
def aYo (ops:Array Oper):List Operand:=ops.toList.flatMap fun o=>match o.op with
 | .makeFunc _ _ captured=>captured.toList
 | _=>[]
def SC.sb (i:Nat) (b:Bool):SC→SC
 | .var j=>if j=i then .lit (.bool b) else .var j
 | c=>c
def SV.sb (i:Nat) (b:Bool):SV→SV
 | .one c=>.one (c.sb i b)
 | .agg cs=>.agg (cs.map (SC.sb i b))
 | v=>v
def St.sb (st:St) (i:Nat) (b:Bool):St:=
 { st with tmps:=st.tmps.map (SV.sb i b),heap:=st.heap.map fun x=>{ x with cells:=x.cells.map (SC.sb i b) } }
theorem SC.sb_den {ρ:Env}{i:Nat}{b:Bool}(h:ρ.val i=some (.bool b)) (c:SC):(c.sb i b).den ρ=c.den ρ:=by
 unfold SC.sb;split
 ·split
  ·rename_i e;subst e;simp only [SC.den,h]
  ·rfl
 ·rfl
theorem SC.sb_scalar (i:Nat) (b:Bool) (c:SC):(c.sb i b).scalar=c.scalar:=by
 unfold SC.sb;split
 ·split <;> rfl
 ·rfl
theorem oX {ρ:Env}{i:Nat}{b:Bool}(h:ρ.val i=some (.bool b)):∀cs:List SC,aC ρ (cs.map (SC.sb i b))=aC ρ cs
 | []=>rfl
 | c :: cs=>by
  have ih:=oX h cs;rw [zn]
  by_cases hrun:c.isRun=true
  ·have e:c.sb i b=c:=by cases c <;> first|rfl|cases hrun
   rw [e,dU hrun,dU hrun,ih]
  have hrun:c.isRun=false:=by simpa using hrun
  by_cases hc:∃j m,c=.seg j m
  ·obtain⟨j,m,rfl⟩:=hc;show aC ρ (.seg j m :: cs.map (SC.sb i b))=_;simp only [aC,ih]
  ·have h1:∀j m,c≠.seg j m:=fun j m e=>hc ⟨j,m,e⟩;have h2:∀j m,c.sb i b≠.seg j m:=fun j m e=>by
    unfold SC.sb at e;split at e
    ·split at e <;> cases e
    ·exact h1 _ _ e
   have hrun':(c.sb i b).isRun=false:=by
    unfold SC.sb;split
    ·split <;> rfl
    ·exact hrun
   rw [bT hrun' h2,bT hrun h1,SC.sb_scalar,SC.sb_den h,ih]
theorem SV.sb_den {ρ:Env}{i:Nat}{b:Bool}(h:ρ.val i=some (.bool b)) (v:SV):(v.sb i b).den ρ=v.den ρ:=by
 cases v with
 | one c=>exact SC.sb_den h c
 | agg cs=>simp only [SV.sb,SV.den,bV,oX h]
 | _=>rfl
theorem Rel.sb {st:St}{ρ:Env}{k0:Anc}{w0 k w:World}{a:Act}(h:Rel st ρ k0 w0 k a w) {i:Nat}{b:Bool}(hb:ρ.val i=some (.bool b)):Rel (st.sb i b) ρ k0 w0 k a w:=
 { anc:=h.anc
   up:=h.up
   dep:=h.dep
   env:=h.env
   kinds:=h.kinds
   vals:=h.vals
   blks:=fun b' hb'=>h.blks b' (by simpa [St.sb] using hb')
   inj:=h.inj
   size:=h.size
   tmps:=fun t=>by
    have e:(st.sb i b).tm t=(st.tm t).sb i b:=by
     exact Tab.get_map rfl st.tmps t
    rw [e];rcases h.tmps t with h1|h1
    ·rw [h1];exact .inl rfl
    ·exact .inr (by rw [SV.sb_den hb];exact h1)
   defers:=h.defers
   sees:=h.sees
   base:=h.base
   kb:=h.kb
   wb:=h.wb
   heap:=fun b' blk hblk=>by
    simp only [St.sb,jl]at hblk;cases hx:st.heap[b']? with
    | none=>rw [hx]at hblk;cases hblk
    | some x=>
     rw [hx]at hblk;simp only [jm,jk]at hblk;subst hblk;obtain⟨n,vs,h1,h2,h3⟩:=h.heap b' x hx;exact⟨n,vs,h1,by rw [oX hb];exact h2,h3⟩
   mem:=h.mem
   rows:=h.rows
   fam:=h.fam }
def yC (t:Tmp):List Value→St→(St→T)→T
 | [], _, _ => .fail "split"
 | v :: vs,st,K=>match st.tm t with
  | .one c=>.branch (.bin 0 .eql c (.lit v)) (K (st.put (some t) (.one (.lit v)))) (yC t vs st K)
  | _ => .fail "split"
def aEf (cfg:Cfg) (lid:Nat) (st:St) (K:St→T):T:=
 match cfg.splits.find? (·.1 == lid) with
 | some (_,t,vs)=>yC t (vs.map fun i=>.int .i64 i) st K
 | none=>K st
def pT (ops:Array Oper):List Tmp:=
 let args:=ops.toList.flatMap fun o=>match o.op with
  | .call c=>match c.callee with
   | .value _=>c.args.toList.filterMap fun | .tmp t=>some t|_=>none
   | _=>[]
  | _=>[]
 let args:=args++ops.toList.filterMap fun o=>match o.op,o.dst with
  | .slice _ (.tmp t) _ _ _,some d=>if args.contains d then some t else none
  | _,_=>none
 args++ops.toList.filterMap fun o=>match o.op,o.dst with
  | .move (.tmp t),some d=>if args.contains d then some t else none
  | _,_=>none
def wY (ops:Array Oper):List Tmp:=
 let args:=pT ops
 ops.toList.filterMap fun o=>match o.op,o.dst with
  | .load _ (.tmp p),some d=>if args.contains d then some p else none
  | _,_=>none
def aTy (st:St) (p:Tmp):List SC:=match st.tm p with
 | .one (.ptr b _)=>match st.heap[b]? with
  | some blk=>blk.cells.flatMap (SC.deep st 3)
  | none=>[]
 | _=>[]
def aXd (cfg:Cfg) (id:Nat) (ops:Array Oper) (st:St) (f:(St→T)→T) (K:St→T):T:=
 match cfg.joins.find? (·.1 == id) with
 | none=>f K
 | some (_,slots)=>.join st.depth st.kinds.length (aR st.kinds.length slots).2 (aR st.kinds.length slots).1
  (f fun st' => if kF st slots (ops.toList.filterMap (·.dst)) st' then .again st.depth (slots.map (Slot.get st')) else .fail "join")
  (K (dP st slots (ops.toList.filterMap (·.dst))))
def aFp (st:St) (slots:List Slot) (ws:List Tmp) (st':St):T:=
 if kF st slots ws st' then .again st.depth (slots.map (Slot.get st')) else .fail "meet"
def exec (P:Program) (cfg:Cfg):Nat→Code→St→(SExit→St→T)→T
 | _,.skip,st,K=>K .normal st
 | _,.region id ops draw,st,K=>mR (aFg cfg id false) st fun st=>
  if draw then rG (((pT ops).flatMap fun t=>aZx st (st.tm t))++(wY ops).flatMap (aTy st)) st fun st=>aDe (aYo ops) st fun st=>cR P cfg ops (masks ops) (dmasks ops) (3*ops.size+10) 0 [] st fun st=>mR (aFg cfg id true) st (K .normal)
  else aXd cfg id ops st (fun K=>fJ P cfg ops (List.range ops.size) st K) fun st=>mR (aFg cfg id true) st (K .normal)
 | lid,.seq a b,st,K=>exec P cfg lid a st fun e st=>match e with
  | .normal=>exec P cfg lid b st K
  | e=>K e st
 | lid,.cond c a b,st,K=>match opnd st.tm c with
  | .one (.lit (.bool true))=>exec P cfg lid a st K
  | .one (.lit (.bool false))=>exec P cfg lid b st K
  | .one (.var i)=>if cfg.sub then .branch (.var i) (exec P cfg lid a (st.sb i true) K) (exec P cfg lid b (st.sb i false) K) else match c with
   | .tmp t=>.branch (.var i) (exec P cfg lid a (st.put (some t) (.one (.lit (.bool true)))) K) (exec P cfg lid b (st.put (some t) (.one (.lit (.bool false)))) K)
   | _=>.branch (.var i) (exec P cfg lid a st K) (exec P cfg lid b st K)
  | .one sc=>match c with
   | .tmp t=>.branch sc (exec P cfg lid a (st.put (some t) (.one (.lit (.bool true)))) K) (exec P cfg lid b (st.put (some t) (.one (.lit (.bool false)))) K)
   | _=>.branch sc (exec P cfg lid a st K) (exec P cfg lid b st K)
  | _ => .fail "cond"
 | _,.block id body,st,K=>match cfg.meets.find? (·.1 == id) with
  | some (_,slots)=>.join st.depth st.kinds.length (aR st.kinds.length slots).2 (aR st.kinds.length slots).1
   (exec P cfg id body { st with depth:=st.depth+1 } fun e st'=>match e with
     | .normal=>aFp st slots (cI body) st'
     | .exit i=>if i=id then aFp st slots (cI body) st' else K e st'
     | e=>K e st')
   (K .normal (dP st slots (cI body)))
  | none=>exec P cfg id body st fun e st=>match e with
   | .exit i=>if i=id then K .normal st else K e st
   | e=>K e st
 | lid,.loop body,st,K=>match cfg.loops.find? (·.1 == lid) with
  | some (_,slots)=>rG (aGm st slots) st fun st=>
   let r:=aR st.kinds.length slots
   let ws:=cI body
   let st0:=st
   if !kF st slots ws st then .fail "loop: head" else
   .loop st.depth (slots.map (Slot.get st)) st.kinds.length r.2 r.1
    (aEf cfg lid (dP st slots ws) fun st=>exec P cfg lid body st fun e st'=>match e with
      | .normal => if kF st0 slots ws st' then .again st0.depth (slots.map (Slot.get st')) else .fail "loop: back"
      | e=>K e st')
  | none=>unroll cfg.fuel (fun st K=>exec P cfg lid body st K) st K
 | _,.exit id,st,K=>K (.exit id) st
 | _,.ret,st,K=>K .ret st
 | _, _, _, _ => .fail "code"
section
variable {P:Program}{cfg:Cfg}
theorem eD {t:Tmp}:∀ {slots:List Slot}{tm:List SV}{sv:SV},dR t slots tm=some sv→(∃(i:Nat) (agg:Bool) (lks:List LK),slots[i]?=some (Slot.tmp t agg lks)∧tm[i]?=some sv)∨
 (∃(i:Nat) (ty:TypeId) (n:Nat) (u:SV),slots[i]?=some (Slot.rw t ty n)∧tm[i]?=some u∧sv=match u with | .rw v _=>.one (.slr v)|_=>.top)
 | [],_,_,h=>by cases h
 | .tmp t' agg lks :: l,[],_,h=>by cases h
 | .rw _ _ _ :: l,[],_,h=>by cases h
 | .tmp t' agg lks :: l,x :: m,sv,h=>by
  simp only [dR]at h;split at h
  ·rename_i e;subst e;injection h with h;subst h;exact .inl ⟨0,agg,lks,rfl,rfl⟩
  ·rcases eD h with ⟨i,a,b,h1,h2⟩|⟨i,a,b,u,h1,h2,h3⟩
   ·exact .inl ⟨i+1,a,b,by simpa using h1,by simpa using h2⟩
   ·exact .inr ⟨i+1,a,b,u,by simpa using h1,by simpa using h2,h3⟩
 | .blk _ _ :: l,[],_,h=>by cases h
 | .blk b lks :: l,x :: m,sv,h=>by
  simp only [dR]at h;rcases eD h with ⟨i,a,b,h1,h2⟩|⟨i,a,b,u,h1,h2,h3⟩
  ·exact .inl ⟨i+1,a,b,by simpa using h1,by simpa using h2⟩
  ·exact .inr ⟨i+1,a,b,u,by simpa using h1,by simpa using h2,h3⟩
 | .fm _ _ :: l,[],_,h=>by cases h
 | .fm ty n :: l,x :: m,sv,h=>by
  simp only [dR]at h;rcases eD h with ⟨i,a,b,h1,h2⟩|⟨i,a,b,u,h1,h2,h3⟩
  ·exact .inl ⟨i+1,a,b,by simpa using h1,by simpa using h2⟩
  ·exact .inr ⟨i+1,a,b,u,by simpa using h1,by simpa using h2,h3⟩
 | .rb _ _ _ _ :: l,[],_,h=>by cases h
 | .rb b i' ty n :: l,x :: m,sv,h=>by
  simp only [dR]at h;rcases eD h with ⟨i,a,b,h1,h2⟩|⟨i,a,b,u,h1,h2,h3⟩
  ·exact .inl ⟨i+1,a,b,by simpa using h1,by simpa using h2⟩
  ·exact .inr ⟨i+1,a,b,u,by simpa using h1,by simpa using h2,h3⟩
 | .rw t' ty n :: l,x :: m,sv,h=>by
  simp only [dR]at h;split at h
  ·rename_i e;subst e;refine .inr ⟨0,ty,n,x,rfl,rfl,?_⟩;split at h <;> (injection h with h;exact h.symm)
  ·rcases eD h with ⟨i,a,b,h1,h2⟩|⟨i,a,b,u,h1,h2,h3⟩
   ·exact .inl ⟨i+1,a,b,by simpa using h1,by simpa using h2⟩
   ·exact .inr ⟨i+1,a,b,u,by simpa using h1,by simpa using h2,h3⟩
theorem eC {b:Nat}:∀ {slots:List Slot}{tm:List SV}{cs:List SC},eL b slots tm=some cs→∃(i:Nat) (lks:List LK),slots[i]?=some (Slot.blk b lks)∧tm[i]?=some (SV.agg cs)
 | [],_,_,h=>by cases h
 | .tmp _ _ _ :: l,[],_,h=>by cases h
 | .blk _ _ :: l,[],_,h=>by cases h
 | .rw _ _ _ :: l,[],_,h=>by cases h
 | .rw _ _ _ :: l,y :: m,cs,h=>by
  have h':eL b l m=some cs:=by cases y <;> exact h
  obtain⟨i,a,h1,h2⟩:=eC h';exact⟨i+1,a,by simpa using h1,by simpa using h2⟩
 | .fm _ _ :: l,[],_,h=>by cases h
 | .fm _ _ :: l,y :: m,cs,h=>by
  have h':eL b l m=some cs:=by cases y <;> exact h
  obtain⟨i,a,h1,h2⟩:=eC h';exact⟨i+1,a,by simpa using h1,by simpa using h2⟩
 | .rb _ _ _ _ :: l,[],_,h=>by cases h
 | .rb _ _ _ _ :: l,y :: m,cs,h=>by
  have h':eL b l m=some cs:=by cases y <;> exact h
  obtain⟨i,a,h1,h2⟩:=eC h';exact⟨i+1,a,by simpa using h1,by simpa using h2⟩
 | .tmp t' agg lks :: l,y :: m,cs,h=>by
  have h':eL b l m=some cs:=by cases y <;> exact h
  obtain⟨i,a,h1,h2⟩:=eC h';exact⟨i+1,a,by simpa using h1,by simpa using h2⟩
 | .blk b' lks :: l,y :: m,cs,h=>by
  have step:eL b l m=some cs→∃(i:Nat) (lks':List LK),(Slot.blk b' lks :: l)[i]?=some (Slot.blk b lks')∧(y :: m)[i]?=some (SV.agg cs):=fun h'=>by
   obtain⟨i,a,h1,h2⟩:=eC h';exact⟨i+1,a,by simpa using h1,by simpa using h2⟩
  cases y with
  | agg cs'=>
   simp only [eL]at h;split at h
   ·rename_i e;subst e;injection h with h;subst h;exact⟨0,lks,rfl,rfl⟩
   ·exact step h
  | _=>exact step h
theorem mF:∀ {slots:List Slot}{tm:List SV}{r:RowI},r∈fE slots tm→∃(i:Nat) (sl:Slot),slots[i]?=some sl∧sl.row?=some (r.ty,r.s)∧tm[i]?=some (.rw r.v r.x)
 | [],tm,r,h=>by cases tm <;> cases h
 | _ :: l,[],r,h=>by cases h
 | sl :: l,x :: m,r,h=>by
  have step:r∈fE l m→∃(i:Nat) (sl':Slot),(sl :: l)[i]?=some sl'∧sl'.row?=some (r.ty,r.s)∧(x :: m)[i]?=some (.rw r.v r.x):=fun h=>by
   obtain⟨i,t',h1,h2,h3⟩:=mF h;exact⟨i+1,t',by simpa using h1,h2,by simpa using h3⟩
  unfold fE at h;split at h
  ·rename_i ty s v y hr;rcases yu.1 h with rfl|h
   ·exact⟨0,sl,rfl,hr,rfl⟩
   ·exact step h
  ·exact step h
theorem kL {b:Nat}:∀ {slots:List Slot}{tm:List SV}{p:Nat}{c:SC},(p,c)∈cP b slots tm→∃(i:Nat) (ty:TypeId) (n v x:Nat),slots[i]?=some (.rb b p ty n)∧tm[i]?=some (.rw v x)∧c=.slr v
 | [],tm,p,c,h=>by cases tm <;> cases h
 | sl :: l,[],p,c,h=>by cases sl <;> simp [cP]at h
 | sl :: l,x :: m,p,c,h=>by
  have step:(p,c)∈cP b l m→∃(i:Nat) (ty:TypeId) (n v y:Nat),(sl :: l)[i]?=some (.rb b p ty n)∧(x :: m)[i]?=some (.rw v y)∧c=.slr v:=fun h=>by
   obtain⟨i,ty,n,v,y,h1,h2,h3⟩:=kL h;exact⟨i+1,ty,n,v,y,by simpa using h1,by simpa using h2,h3⟩
  unfold cP at h;split at h
  ·rename_i b' i ty n l' v y m' e1 e2;injection e1 with e1 e3;injection e2 with e2 e4;subst e1 e2 e3 e4;split at h
   ·rename_i e;subst e;rcases yu.1 h with h|h
    ·injection h with h1 h2;subst h1 h2;exact⟨0,ty,n,v,y,rfl,rfl,rfl⟩
    ·exact step h
   ·exact step h
  ·rename_i e1 e2;injection e1 with e1 e3;injection e2 with e2 e4;subst e1 e2 e3 e4;exact step h
  ·cases h
theorem gJ:∀(l:List (Nat×SC)) (cs:List SC),(fL cs l).length=cs.length
 | [],_=>rfl
 | (i,c) :: l,cs=>by unfold fL;rw [gJ l,List.length_set]
theorem jP:∀(l:List (Nat×SC)) (cs:List SC) (p:Nat) (c:SC),(fL cs l)[p]?=some c→(p,c)∈l∨((∀d,(p,d) ∉ l)∧cs[p]?=some c)
 | [],cs,p,c,h=>.inr ⟨fun d hd=>(by cases hd),h⟩
 | (i,d) :: l,cs,p,c,h=>by
  unfold fL at h;rcases jP l _ p c h with h|⟨h1,h2⟩
  ·exact .inl (List.mem_cons_of_mem _ h)
  ·rw [List.getElem?_set]at h2;split at h2
   ·rename_i e;subst e;split at h2
    ·injection h2 with h2;subst h2;exact .inl (List.mem_cons_self ..)
    ·cases h2
   ·rename_i e;refine .inr ⟨fun q hq=>?_,h2⟩;rcases yu.1 hq with hq|hq
    ·injection hq with hq;exact e hq.symm
    ·exact h1 q hq
theorem uT {ρ ρ1 ρ':Env}(hle1:ρ.le ρ1) (hle:ρ.le ρ'):∀(xs ys zs:List SC) {vs vs1:List Value},ys.length=xs.length→zs.length=xs.length→
 (∀(p:Nat) c,zs[p]?=some c→(xs[p]?=some c∧ys[p]?=some c)∨∃d v,ys[p]?=some d∧aC ρ1 [d]=some [v]∧aC ρ' [c]=some [v])→aC ρ xs=some vs→aC ρ1 ys=some vs1→aC ρ' zs=some vs1
 | [],[],[],vs,vs1,_,_,_,_,h1=>h1
 | x :: xs,y :: ys,z :: zs,vs,vs1,l1,l2,h,h0,h1=>by
  obtain⟨u0,r0,a1,a2,rfl⟩:=cM h0;obtain⟨u1,r1,b1,b2,rfl⟩:=cM h1;have ih:=uT hle1 hle xs ys zs (by simpa using l1) (by simpa using l2) (fun p c hp=>by simpa using h (p+1) c (by simpa using hp)) a2 b2;refine dT ?_ ih;rcases h 0 z rfl with ⟨e1,e2⟩|⟨d,v,e1,e2,e3⟩
  ·simp at e1 e2;subst e1 e2;have:=aJ hle1 a1;rw [b1]at this;injection this with this;subst this;exact aJ hle a1
  ·simp at e1;subst e1;rw [b1]at e2;injection e2 with e2;subst e2;exact e3
 | [],y :: ys,_,_,_,l1,_,_,_,_=>by simp at l1
 | [],[],z :: zs,_,_,_,l2,_,_,_=>by simp at l2
 | x :: xs,[],_,_,_,l1,_,_,_,_=>by simp at l1
 | x :: xs,y :: ys,[],_,_,_,l2,_,_,_=>by simp at l2
theorem tW {st:St}{ρ:Env}{sv:SV}{ty:TypeId}{n:Nat}{v:Value}(h:(pJ st sv ty n).den ρ=some v) :
 (∃u q A l c xs,sv=.one (.slr u)∧dH st u=some q∧q.ty=ty∧q.s=n∧ρ.val q.v=some (.slice A l c)∧ρ.kd q.v=some .slice∧ρ.val q.x=some (.agg xs)∧ρ.kd q.x=some .row∧v=.tuple #[.slice A l c,.agg xs])∨
 (sv=.one (.lit (.slice none 0 0))∧0<n∧v=.tuple #[.slice none 0 0,.agg #[]]):=by
 unfold pJ at h;split at h
 ·rename_i u;split at h
  ·rename_i q hq;split at h
   ·rename_i hs;simp only [SV.den]at h;split at h
    ·rename_i h1 h2 h3 h4;injection h with h;exact .inl ⟨u,q,_,_,_,_,rfl,hq,hs.1,hs.2,h1,h2,h3,h4,h.symm⟩
    ·cases h
   ·cases h
  ·cases h
 ·split at h
  ·rename_i hn;simp only [SV.den]at h;injection h with h;exact .inr ⟨rfl,hn,h.symm⟩
  ·cases h
 ·cases h
theorem aTw {st:St}{sl:Slot}{ty:TypeId}{s:Nat}(h:sl.row?=some (ty,s)):sl.get st=pJ st (sl.place st) ty s:=by
 cases sl <;> simp only [Slot.row?]at h <;> first|(injection h with h;injection h with h1 h2;subst h1 h2;simp only [Slot.get,Slot.place];done)|cases h
theorem fF {st:St}{u:Nat}{q:RowI}:∀ {slots:List Slot}{i:Nat}{sl:Slot},slots[i]?=some sl→sl.place st=.one (.slr u)→dH st u=some q→q∈dY st slots
 | [],i,sl,h,_,_=>by simp at h
 | x :: l,0,sl,h,h1,h2=>by
  simp at h;subst h;simp [dY,lQ,h1,h2]
 | x :: l,i+1,sl,h,h1,h2=>by
  have:=fF (slots:=l) (by simpa using h) h1 h2;simp [dY,this]
theorem qR {st:St}{u u':Nat}{q q':RowI}:∀ {slots:List Slot}{i i':Nat}{sl sl':Slot},(dY st slots).Nodup→slots[i]?=some sl→slots[i']?=some sl'→i≠i'→
 sl.place st=.one (.slr u)→dH st u=some q→sl'.place st=.one (.slr u')→dH st u'=some q'→q≠q'
 | [],i,i',sl,sl',_,h,_,_,_,_,_,_=>by simp at h
 | x :: l,0,0,sl,sl',_,_,_,hne,_,_,_,_=>absurd rfl hne
 | x :: l,0,i'+1,sl,sl',hnd,h,h',_,h1,h2,h3,h4=>by
  simp at h;subst h;simp only [dY,lQ,h1,h2,Option.toList_some,List.singleton_append,List.nodup_cons]at hnd;intro e;subst e;exact hnd.1 (fF (slots:=l) (by simpa using h') h3 h4)
 | x :: l,i+1,0,sl,sl',hnd,h,h',_,h1,h2,h3,h4=>by
  simp at h';subst h';simp only [dY,lQ,h3,h4,Option.toList_some,List.singleton_append,List.nodup_cons]at hnd;intro e;subst e;exact hnd.1 (fF (slots:=l) (by simpa using h) h1 h2)
 | x :: l,i+1,i'+1,sl,sl',hnd,h,h',hne,h1,h2,h3,h4=>
  qR (slots:=l) (List.nodup_append.1 hnd).2.1 (by simpa using h) (by simpa using h') oq h1 h2 h3 h4
theorem nT:∀ {slots:List Slot}{tm:List SV}{f:FamI},lM slots tm=some f→∃i:Nat,slots[i]?=some (Slot.fm f.ty f.s)∧tm[i]?=some (SV.fm f.v f.x)∧0<f.s
 | [],_,_,h=>by cases h
 | _ :: _,[],_,h=>by rename_i sl _ _;cases sl <;> cases h
 | sl :: l,sv :: m,f,h=>by
  have next:lM l m=some f→∃i:Nat,(sl :: l)[i]?=some (Slot.fm f.ty f.s)∧(sv :: m)[i]?=some (SV.fm f.v f.x)∧0<f.s:=fun h=>by
   obtain⟨i,h1,h2,h3⟩:=nT h;exact⟨i+1,h1,h2,h3⟩
  cases sl with
  | fm ty s=>
   cases sv with
   | fm v x=>
    unfold lM at h;simp only at h;split at h
    ·rename_i hs;injection h with h;subst h;exact⟨0,rfl,rfl,hs⟩
    ·cases h
   | _=>exact next h
  | _=>exact next h
theorem aTv {st:St}{ρ:Env}{ty:TypeId}{s:Nat}{v:Value}(h:(Slot.get st (.fm ty s)).den ρ=some v):∃f,st.fam=some f∧(f.ty=ty∧f.s=s)∧∃vs xs:Array Value,v=.tuple #[.agg vs,.agg xs]∧ρ.val f.v=some (.agg vs)∧ρ.val f.x=some (.agg xs):=by
 unfold Slot.get at h;simp only at h;split at h
 ·rename_i f hf;split at h
  ·rename_i hs;simp only [SV.den]at h;split at h
   ·rename_i vs xs e1 _ e3 _;injection h with h;exact⟨f,hf,hs,vs,xs,h.symm,e1,e3⟩
   ·cases h
  ·cases h
 ·cases h
theorem Rel.head {st st1:St}{ρ ρ1:Env}{k0 k0' kA:Anc}{w0 k w k1 w1:World}{a a1:Act}{slots:List Slot}{ws:List Tmp}{us vs:List Value}(h0:Rel st ρ k0 w0 k a w) (h:Rel st1 ρ1 k0' w0 k1 a1 w1)
 (hw:k0'.toWorld=k0.toWorld) (hρ:k0'.ρ=ρ) (hw2:kA.toWorld=k0'.toWorld) (hρ2:kA.ρ=ρ) (hkk:kA.kk=k0'.kk) (hd:kA.d=st.depth+1) (hb:kF st slots ws st1=true)
 (hvs:argsD ρ1 (slots.map (Slot.get st1))=some vs) (hf:fitsL (aR st.kinds.length slots).2 us) (htm:argsD (ρ.ext st.kinds.length (aR st.kinds.length slots).2 us) (aR st.kinds.length slots).1=some vs) :
 Rel (dP st slots ws) (ρ.ext st.kinds.length (aR st.kinds.length slots).2 us) kA w0 k1 a1 w1:=by
 have hle:=h0.ext_le (aR st.kinds.length slots).2 us;have hle1:ρ.le ρ1:=by rw [←hρ];exact h.anc
 simp only [kF,qf,beq_iff_eq,zo,List.mem_range]at hb;obtain⟨⟨⟨⟨hlen,hkept⟩,hnodup⟩,hbt⟩,hbh⟩:=hb;have hnodup:=ow hnodup;have hkept:∀q∈gW st slots,q∈st1.rows∧q ∉ dY st1 slots:=fun q hq=>by
  have:=hkept q hq;exact⟨ow this.1,ow this.2⟩
 have hlenH:(dP st slots ws).tmps.length=st.tmps.length:=by simp [dP]
 obtain⟨htl,htg⟩:=iN htm;obtain⟨hvl,hvg⟩:=iN hvs;have hR:RowsOk (ρ.ext st.kinds.length (aR st.kinds.length slots).2 us) k0.heap.size k1 w1 (gW st slots++fE slots (aR st.kinds.length slots).1)∧
  ∀r∈gW st slots++fE slots (aR st.kinds.length slots).1,∀g,aF (ρ.ext st.kinds.length (aR st.kinds.length slots).2 us) r=some g→∃r0∈st1.rows,aF ρ1 r0=some g:=by
  have hr0:=h0.rows;have hr1:=h.rows;rw [hw]at hr1;have hnb:∀g,(∀b,ρ1.blk b≠some g)→∀b,(ρ.ext st.kinds.length (aR st.kinds.length slots).2 us).blk b≠some g:=fun g hg b e=>hg b (hle1.blk _ _ e)
  -- what a row of the head is in the last state
  have old:∀r∈gW st slots,(∃A n c,ρ.val r.v=some (.slice A n c)∧ρ1.val r.v=some (.slice A n c))∧RowOk (ρ.ext st.kinds.length (aR st.kinds.length slots).2 us) k0.heap.size k1 w1 r:=by
   intro r hr;have hr':r∈st.rows:=(List.mem_filter.1 hr).1;obtain⟨A,n,c,xs,a1,a2,a3,a4,a5,a6,a7,_⟩:=hr0.ok r hr';obtain⟨A',n',c',xs',b1,b2,b3,b4,b5,b6,b7,b8⟩:=hr1.ok r (hkept r hr).1;have e1:=hle1.val _ _ a1;rw [b1]at e1;injection e1 with e1;injection e1 with e1 e2 e3;subst e1 e2 e3;have e4:=hle1.val _ _ a2;rw [b2]at e4;injection e4 with e4;injection e4 with e4;subst e4;refine⟨⟨A',n',c',a1,b1⟩,A',n',c',xs',hle.val _ _ a1,hle.val _ _ a2,hle.kd _ _ a3,hle.kd _ _ a4,b5,b6,b7,b8.imp id ?_⟩;rintro⟨g,cs,rfl,g1,g2,g3,g4,g5,g6,g7⟩;exact⟨g,cs,rfl,g1,g2,g3,g4,g5,g6,hnb g g7⟩
  have new:∀r∈fE slots (aR st.kinds.length slots).1,RowOk (ρ.ext st.kinds.length (aR st.kinds.length slots).2 us) k0.heap.size k1 w1 r∧
   ∃(i:Nat) (sl:Slot),slots[i]?=some sl∧sl.row?=some (r.ty,r.s)∧(aR st.kinds.length slots).1[i]?=some (SV.rw r.v r.x)∧(aF (ρ.ext st.kinds.length (aR st.kinds.length slots).2 us) r=none∨
    ∃u q,sl.place st1=.one (.slr u)∧dH st1 u=some q∧aF ρ1 q=aF (ρ.ext st.kinds.length (aR st.kinds.length slots).2 us) r):=by
   intro r hr;obtain⟨i,sl,s1,s0,s2⟩:=mF hr;obtain⟨v,v1,v2⟩:=htg i _ s2;obtain⟨v',v1',v2'⟩:=hvg i (pJ st1 (sl.place st1) r.ty r.s) (by rw [jl,s1,←aTw s0];rfl);rw [v1]at v1';injection v1' with v1';subst v1';simp only [SV.den]at v2;split at v2
   ·rename_i A l c xs e1 e2 e3 e4;injection v2 with v2;rcases tW v2' with ⟨u',q,A',l',c',xs',g1,g2,gt,gs,g3,_,g5,_,g4⟩|⟨g1,gn,g4⟩
    ·rw [←v2]at g4;injection g4 with g4;injection g4 with g4;injection g4 with g6 g7;injection g7 with g7 _;injection g7 with g7;injection g6 with g8 g9 g10;subst g7 g8 g9 g10;obtain⟨hq1,hq2⟩:=aV g2;obtain⟨A',n',c',xs',b1,b2,b3,b4,b5,b6,b7,b8⟩:=hr1.ok q hq1;rw [g3]at b1;injection b1 with b1;injection b1 with b1 b1' b1'';subst b1 b1' b1'';rw [g5]at b2;injection b2 with b2;injection b2 with b2;subst b2;refine⟨⟨A,l,c,xs,e1,e3,e2,e4,by rw [←gs];exact b5,by rw [←gs];exact b6,b7,b8.imp id ?_⟩,i,sl,s1,s0,s2,.inr ⟨u',q,g1,g2,?_⟩⟩
     ·rintro⟨g,cs,rfl,q1,q2,q3,q4,q5,q6,q7⟩;exact⟨g,cs,rfl,q1,by rw [←gt];exact q2,by rw [←gs];exact q3,q4,q5,q6,hnb g q7⟩
     ·unfold aF;rw [g3,e1]
    ·rw [←v2]at g4;injection g4 with g4;injection g4 with g4;injection g4 with g6 g7;injection g7 with g7 _;injection g7 with g7;injection g6 with g8 g9 g10;subst g7 g8 g9 g10;exact⟨⟨none,0,0,#[],e1,e3,e2,e4,gn,by simp,oy _,.inl ⟨rfl,rfl⟩⟩,i,sl,s1,s0,s2,.inl (by unfold aF;rw [e1])⟩
   ·cases v2
  have keptBlk:∀r∈gW st slots,aF (ρ.ext st.kinds.length (aR st.kinds.length slots).2 us) r=aF ρ1 r:=fun r hr=>by
   obtain⟨⟨A,n,c,e1,e2⟩,_⟩:=old r hr;unfold aF;rw [hle.val _ _ e1,e2]
  refine⟨⟨fun r hr=>?_,fun r hr r' hr' hne g hg hg'=>?_⟩,fun r hr g hg=>?_⟩
  ·rcases ql.1 hr with hr|hr
   ·exact (old r hr).2
   ·exact (new r hr).1
  ·rcases ql.1 hr with hr|hr <;> rcases ql.1 hr' with hr'|hr'
   ·rw [keptBlk r hr]at hg;rw [keptBlk r' hr']at hg';exact hr1.dist r (hkept r hr).1 r' (hkept r' hr').1 hne g hg hg'
   ·obtain⟨_,i,t,s1,s0,s2,h3⟩:=new r' hr';rcases h3 with h3|⟨u,q,q1,q2,q3⟩
    ·rw [h3]at hg';cases hg'
    ·rw [keptBlk r hr]at hg;rw [←q3]at hg';exact hr1.dist r (hkept r hr).1 q (aV q2).1 (fun e=>(hkept r hr).2 (by rw [e];exact fF s1 q1 q2)) g hg hg'
   ·obtain⟨_,i,t,s1,s0,s2,h3⟩:=new r hr;rcases h3 with h3|⟨u,q,q1,q2,q3⟩
    ·rw [h3]at hg;cases hg
    ·rw [keptBlk r' hr']at hg';rw [←q3]at hg;exact hr1.dist q (aV q2).1 r' (hkept r' hr').1 (fun e=>(hkept r' hr').2 (by rw [←e];exact fF s1 q1 q2)) g hg hg'
   ·obtain⟨_,i,t,s1,s0,s2,h3⟩:=new r hr;obtain⟨_,i',t',s1',s0',s2',h3'⟩:=new r' hr';rcases h3 with h3|⟨u,q,q1,q2,q3⟩
    ·rw [h3]at hg;cases hg
    ·rcases h3' with h3'|⟨u',q',q1',q2',q3'⟩
     ·rw [h3']at hg';cases hg'
     ·rw [←q3]at hg;rw [←q3']at hg'
      by_cases hi:i=i'
      ·subst hi;rw [s2]at s2';injection s2' with s2';injection s2' with e1 e2;rw [s1]at s1';injection s1' with s1';subst s1';rw [s0]at s0';injection s0' with s0';injection s0' with e3 e4;apply hne;cases r;cases r';simp_all
      ·exact hr1.dist q (aV q2).1 q' (aV q2').1 (qR hnodup s1 s1' hi q1 q2 q1' q2') g hg hg'
  ·rcases ql.1 hr with hr|hr
   ·exact⟨r,(hkept r hr).1,by rw [←keptBlk r hr];exact hg⟩
   ·obtain⟨_,i,t,s1,s0,s2,h3⟩:=new r hr;rcases h3 with h3|⟨u,q,q1,q2,q3⟩
    ·rw [h3]at hg;cases hg
    ·exact⟨q,(aV q2).1,by rw [q3];exact hg⟩
 exact
  { anc:=by rw [hρ2];exact hle
    up:=by rw [hkk];exact h.up
    dep:=by rw [hd];exact oy _
    env:=h0.ext_ok hf
    kinds:=fun i=>by
     show (if i<st.kinds.length then ρ.kd i else (aR st.kinds.length slots).2[i-st.kinds.length]?)=(st.kinds++(aR st.kinds.length slots).2)[i]?;rw [jb];split
     ·exact h0.kinds i
     ·rfl
    vals:=fun i hi=>by
     have hi':st.kinds.length+(aR st.kinds.length slots).2.length≤i:=by simpa [dP] using hi
     show (if i<st.kinds.length then ρ.val i else us[i-st.kinds.length]?)=none;rw [oh oq];exact ot (by have:=(cS hf).1;omega)
    blks:=fun b hb'=>h0.blks b (by simpa [dP] using hb')
    inj:=by rw [hw2,hw];exact h0.inj
    size:=by rw [hlenH,h.size,hlen]
    tmps:=fun t=>by
     by_cases hlt:t<st.tmps.length
     ·have e1:(dP st slots ws).tm t=(match dR t slots (aR st.kinds.length slots).1 with|some sv=>sv|none=>if ws.contains t then .top else st.tm t):=by
       exact Tab.get_lt (b:=(dP st slots ws).tmps) hlt
      rw [e1];have hok1:=h.tmps t;split
      ·rename_i sv hfind;rcases eD hfind with ⟨i,agg,lks,s1,s2⟩|⟨i,ty,n,u,s1,s2,s3⟩
       rotate_left
       ·obtain⟨v,v1,v2⟩:=htg i u s2;obtain⟨v',v1',v2'⟩:=hvg i (Slot.get st1 (.rw t ty n)) (by rw [jl,s1];rfl);rw [v1]at v1';injection v1' with v1';subst v1';subst s3;cases u with
        | rw y x=>
         simp only [SV.den]at v2;split at v2
         ·rename_i A l c xs e1 e2 e3 e4;injection v2 with v2;have hyd:(SV.one (.slr y)).den (ρ.ext st.kinds.length (aR st.kinds.length slots).2 us)=some (.slice A l c):=by
           simp only [SV.den,SC.den,e1]
          rcases tW v2' with ⟨u',q,A',l',c',xs',g1,g2,_,_,g3,_,_,_,g4⟩|⟨g1,_,g4⟩
          ·rw [←v2]at g4;injection g4 with g4;injection g4 with g4;injection g4 with g4 _;rcases hok1 with hok1|hok1
           ·rw [g1]at hok1;cases hok1
           ·rw [g1]at hok1;have hq2:=(aV g2).2;rw [hq2]at g3;simp only [SV.den,SC.den,g3]at hok1;injection hok1 with hok1;refine .inr ?_;show (SV.one (.slr y)).den _=_;rw [hyd,←hok1,g4]
          ·rw [←v2]at g4;injection g4 with g4;injection g4 with g4;injection g4 with g4 _;rcases hok1 with hok1|hok1
           ·rw [g1]at hok1;cases hok1
           ·rw [g1]at hok1;simp only [SV.den,SC.den]at hok1;injection hok1 with hok1;refine .inr ?_;show (SV.one (.slr y)).den _=_;rw [hyd,←hok1,g4]
         ·cases v2
        | _=>exact .inl rfl
       obtain⟨v,v1,v2⟩:=htg i sv s2;obtain⟨v',v1',v2'⟩:=hvg i (st1.tm t) (by rw [jl,s1];rfl);rw [v1]at v1';injection v1' with v1';subst v1';rcases hok1 with hok1|hok1
       ·rw [hok1]at v2';cases v2'
       ·rw [hok1]at v2';injection v2' with v2';subst v2';exact .inr v2
      ·rename_i hfind;split
       ·exact .inl rfl
       ·rename_i hws;have hs:=hbt t hlt;simp only [hfind,Option.isSome_none,wu,zt]at hs;have hs:=aQd (hs.resolve_left hws);rw [hs]at hok1;rcases h0.tmps t with h2|h2
        ·exact .inl h2
        ·rcases hok1 with h3|h3
         ·exact .inl h3
         ·have:=SV.den_le hle1 h2;rw [h3]at this;injection this with this;refine .inr ?_;rw [this];exact SV.den_le hle h2
     ·have hge:st.tmps.length≤t:=js hlt;have e1:(dP st slots ws).tm t=bL:=by
       exact Tab.get_ge (b:=(dP st slots ws).tmps) hge
      have e2:a1.tmps.getD t undef=undef:=by
       rw [qk,jq (by rw [h.size,hlen];exact hge)];rfl
      rw [e1,e2];exact .inr rfl
    defers:=h.defers
    sees:=h.sees
    base:=by rw [hw2];exact h.base
    kb:=by rw [hw2];exact h.kb
    wb:=h.wb
    heap:=fun b blk hblk=>by
     rw [hw2];unfold dP at hblk;simp only [List.getElem?_mapIdx]at hblk;cases hx:st.heap[b]? with
     | none=>rw [hx]at hblk;cases hblk
     | some x=>
      rw [hx]at hblk;simp only [jm,jk]at hblk;have hblt:b<st.heap.length:=(oa.1 hx).1;have hs:=hbh b hblt;rw [hx]at hs;cases hy:st1.heap[b]? with
      | none=>rw [hy]at hs;cases hs
      | some y=>
       rw [hy]at hs;simp only [qf,beq_iff_eq]at hs;obtain⟨⟨⟨e1,e2⟩,e3⟩,e4⟩:=hs;obtain⟨n0,vs0,f1,f2,f3,f4,f5⟩:=h0.heap b x hx;obtain⟨n1,vs1,g1,g2,g3,g4,g5⟩:=h.heap b y hy;have hn:=hle1.blk _ _ f1;rw [g1]at hn;injection hn with hn;subst hn;cases hfind:eL b slots (aR st.kinds.length slots).1 with
       | some cs=>
        rw [hfind]at hblk e4;simp only [Option.isSome_some,if_true,yf]at e4;simp only at hblk;subst hblk;obtain⟨i,lks,s1,s2⟩:=eC hfind;obtain⟨v,v1,v2⟩:=htg i _ s2;obtain⟨v',v1',v2'⟩:=hvg i (.agg y.cells) (by rw [jl,s1];simp [Slot.get,hy]);rw [v1]at v1';injection v1' with v1';subst v1';simp only [bV,SV.den,g2]at v2';injection v2' with v2';simp only [bV,SV.den]at v2;split at v2
        ·rename_i us' hus;injection v2 with v2;rw [←v2']at v2;injection v2 with v2;have:us'=vs1:=by
          have:=congrArg Array.toList v2;simpa using this
         subst this;refine⟨n1,us',f1,hus,by rw [e1];exact g3,fun _=>?_,fun hp=>?_⟩
         ·rw [hw];exact⟨(f4 e4).1,(g4 (by rw [←e2];exact e4)).2⟩
         ·have hp':x.pub=true:=hp;rw [e4]at hp';cases hp'
        ·cases v2
       | none=>
        rw [hfind]at hblk e4;simp only [Option.isSome_none,zf,if_false,qf]at e4;simp only at hblk;subst hblk;have hcells:=lA e4.1;have hlens:x.cells.length=y.cells.length:=by rw [←gJ (cP b slots (aR st.kinds.length slots).1) x.cells,hcells,gJ]
        have hv:=uT hle1 hle x.cells y.cells (fL x.cells (cP b slots (aR st.kinds.length slots).1)) hlens.symm (gJ _ _) (fun p c hp=>by
         rcases jP _ _ _ _ hp with hl|⟨hl,hx'⟩
         ·obtain⟨i,ty,n,v,z,s1,s2,rfl⟩:=kL hl
          right
          obtain⟨va,v1,v2⟩:=htg i _ s2;obtain⟨vb,v1',v2'⟩:=hvg i (Slot.get st1 (.rb b p ty n)) (by rw [jl,s1];rfl);rw [v1]at v1';injection v1' with v1';subst v1';simp only [SV.den]at v2;split at v2
          ·rename_i A l c xs e1 _ _ _;injection v2 with v2;have hz:aC (ρ.ext st.kinds.length (aR st.kinds.length slots).2 us) [.slr v]=some [.slice A l c]:=by
            simp only [aC,SC.scalar,if_true,SC.den,e1]
           have hsv:∀d,wP st1 b p=.one d→y.cells[p]?=some d:=fun d hd=>by
            unfold wP at hd;rw [hy]at hd;simp only at hd;split at hd
            ·rename_i d' hd';injection hd with hd;subst hd;exact hd'
            ·cases hd
           rcases tW v2' with ⟨u',q,A',l',c',xs',g1,g2,_,_,g3,_,_,_,g4⟩|⟨g1,_,g4⟩
           ·rw [←v2]at g4;injection g4 with g4;injection g4 with g4;injection g4 with g4 _;have hq2:=(aV g2).2;rw [hq2]at g3;exact⟨_,_,hsv _ g1,by simp only [aC,SC.scalar,if_true,SC.den,g3];rw [←g4],hz⟩
           ·rw [←v2]at g4;injection g4 with g4;injection g4 with g4;injection g4 with g4 _;exact⟨_,_,hsv _ g1,by simp only [aC,SC.scalar,Value.scalar,if_true,SC.den];rw [←g4],hz⟩
          ·cases v2
         ·left
          refine⟨hx',?_⟩;rw [hcells]at hp;rcases jP _ _ _ _ hp with hl2|⟨_,hy'⟩
          ·exact absurd hl2 (hl _)
          ·exact hy') f2 g2
        refine⟨n1,vs1,f1,hv,by rw [e1];exact g3,fun hp=>?_,fun hp=>?_⟩
        ·rw [hw];exact⟨(f4 hp).1,(g4 (by rw [←e2];exact hp)).2⟩
        ·obtain⟨c1,c2⟩:=g5 (by rw [←e2];exact hp);exact⟨by rw [e1];exact c1,hle.val _ _ (f5 hp).2⟩
    mem:=fun A v hv=>h.mem A v (hle1.mem A v hv)
    rows:=by rw [hw2,hw];exact hR.1
    fam:=by
     rw [hw2,hw];intro f hf0;obtain⟨i,s1,s2,hs0⟩:=nT hf0;obtain⟨v,v1,v2⟩:=htg i _ s2;obtain⟨v',v1',v2'⟩:=hvg i (Slot.get st1 (.fm f.ty f.s)) (by rw [jl,s1];rfl);rw [v1]at v1';injection v1' with v1';subst v1';simp only [SV.den]at v2;split at v2
     ·rename_i vs xs e1 e2 e3 e4;injection v2 with v2;obtain⟨f1,g1,g2,vs2,xs2,g3,g4,g5⟩:=aTv v2';obtain⟨vs1,xs1,a1,a2,_,_,_,hB⟩:=h.famAt g1;rw [g4]at a1;injection a1 with a1;injection a1 with a1;rw [g5]at a2;injection a2 with a2;injection a2 with a2;rw [←v2]at g3;injection g3 with g3;injection g3 with g3;injection g3 with g6 g7;injection g6 with g6;injection g7 with g7 _;injection g7 with g7;rw [hw,g2.1,g2.2,←a1,←a2,←g6,←g7]at hB;exact⟨_,_,e1,e3,e2,e4,hs0,hB.mono (fun b g e _=>⟨b,hle1.blk _ _ e⟩) (fun _ e _ _=>e) (fun _ _ _ _=>rfl) fun r hr g hg=>.inr (hR.2 r hr g hg)⟩
     ·cases v2 }
theorem Rel.refine {st:St}{ρ:Env}{k0:Anc}{w0 k w:World}{a:Act}(h:Rel st ρ k0 w0 k a w) {t:Tmp}{b:Bool}(hb:a.tmps.getD t undef=.bool b):Rel (st.put (some t) (.one (.lit (.bool b)))) ρ k0 w0 k a w:=by
 have:=h.put (some t) (v:=.one (.lit (.bool b))) (x:=.bool b) (.inr rfl);have e:a.put (some t) (.bool b)=a:=by
  unfold Act.put;have:a.tmps.setIfInBounds t (.bool b)=a.tmps:=by
   apply jo;intro i;rw [qj]
   by_cases e:t=i
   ·subst e;rw [od rfl]
    by_cases hl:t<a.tmps.size
    ·rw [od hl,oo hl];rw [qk,oo hl]at hb;simp at hb;rw [hb]
    ·rw [oh hl,jq (js hl)]
   ·rw [oh e]
  simp only [this]
 rw [e]at this;exact this
structure Agree (d:Nat) (R R':Ctx):Prop where
 res:R'.R=R.R
 ag:∀j,j<d→R'.ag j=R.ag j
theorem Agree.refl (d:Nat) (R:Ctx):Agree d R R:=⟨rfl,fun _ _=>rfl⟩
theorem Agree.trans {d d':Nat}{A B C:Ctx}(h:Agree d A B) (h':Agree d' B C) (hd:d≤d'):Agree d A C:=
 ⟨h'.res.trans h.res,fun j hj=>(h'.ag j (qu hj hd)).trans (h.ag j hj)⟩
theorem zO (hm:P.follows .mixedOrders=true) {ops:Array Oper}{id:Nat}{K:St→T}{Q:Exit→Act→World→Prop}{R:Ctx}{k0:Anc}{w0:World}
 (hK:∀st' ρ' k' a' w',Rel st' ρ' k0 w0 k' a' w'→(K st').den P R ρ'.bare k'→Q .normal a' w') {st:St}{ρ:Env}{k w:World}{a:Act}{n:Nat}(h:Rel st ρ k0 w0 k a w)
 (hT:(aY P cfg ops (masks ops) n (Array.replicate ops.size false) [] st K).den P R ρ.bare k):(Code.region id ops true).wp P Q a w:=by
 refine wp_region_any hm ?_;have hd:=h.drew (w.drawn+1);have hget:∀i,¬ ((Array.replicate ops.size false).getD i false=true):=fun i=>by
  rw [qk,vw];split <;> simp
 have hrel:DRel P ops [] st (fun i=>(Array.replicate ops.size false).getD i false=true) st.heap.length ρ k0 w0 k a { w with drawn:=w.drawn+1 }:=
  { anc:=hd.anc
    up:=hd.up
    dep:=hd.dep
    env:=hd.env
    kinds:=hd.kinds
    vals:=hd.vals
    inj:=hd.inj
    size:=hd.size
    defers:=hd.defers
    sees:=hd.sees
    base:=hd.base
    kb:=hd.kb
    wb:=hd.wb
    lt:=fun b n hb=>by
     rcases zr b st.heap.length with hlt|hge
     ·obtain⟨n',vs,h1,_,h3,_⟩:=hd.heap b _ (qi hlt);rw [hb]at h1;injection h1 with h1;subst h1;exact h3.lt
     ·rw [hd.blks b hge]at hb;cases hb
    nb:=fun p=>by unfold eT;simp
    blks:=fun b n hb=>by
     rcases zr b st.heap.length with hlt|hge
     ·exact .inl hlt
     ·rw [hd.blks b hge]at hb;cases hb
    tmps:=fun t p hp _=>by
     have:p=0:=by simpa using hp
     subst this;exact hd.tmps t
    heap:=fun b p hp _=>by
     have:p=0:=by simpa using hp
     subst this;exact hd.heap b
    uniq:=fun q q' s s' e e' h1=>by simp at h1
    conf:=fun q q' s s' e e' _ h1=>by simp at h1
    pend:=fun q s e h1=>by simp at h1
    dsub:=fun i hi=>absurd hi (hget i)
    dcl:=fun i o _ hi=>absurd hi (hget i)
    pubs:=fun p=>by
     have:eT [] st p=st:=by unfold eT;simp
     rw [this];exact hd.pubOk
    fw:=fun q s oe h1=>by simp at h1
    mem:=hd.mem
    rows:=hd.rows
    fam:=hd.fam
    rowsEq:=fun q s e h1=>by simp at h1 }
 have hE:EOk ops (Array.replicate ops.size false) []:=⟨by simp,fun i=>⟨fun hh=>absurd hh (hget i),fun ⟨q,s,e,h1,_⟩=>by simp at h1⟩,fun q s e o h1=>by simp at h1⟩;obtain⟨E',H',st',_,a1,a2,a3⟩:=advance n hrel hE hT;refine aCl hK ops.size (by simp) ?_ a1 a2 a3;simp
theorem aTq {c:SC}{ν:Env}{k:IntKind}{i:Int}(h:(SC.bin 0 .eql c (.lit (.int k i))).den ν=some (.bool true)):c.den ν=some (.int k i):=by
 simp only [SC.den]at h;split at h
 ·rename_i x y h1 h2;injection h2 with h2;subst h2;rw [h1];cases x <;> simp only [eH]at h <;> try cases h
  split at h
  ·rename_i hk;subst hk;injection h with h;injection h with h;rw [ow h]
  ·cases h
 ·cases h
theorem Rel.refineV {st:St}{ρ:Env}{k0:Anc}{w0 k w:World}{a:Act}(h:Rel st ρ k0 w0 k a w) {t:Tmp}{b:Value}(hb:a.tmps.getD t undef=b):Rel (st.put (some t) (.one (.lit b))) ρ k0 w0 k a w:=by
 have:=h.put (some t) (v:=.one (.lit b)) (x:=b) (.inr rfl);have e:a.put (some t) b=a:=by
  unfold Act.put;have:a.tmps.setIfInBounds t b=a.tmps:=by
   apply jo;intro i;rw [qj]
   by_cases e:t=i
   ·subst e;rw [od rfl]
    by_cases hl:t<a.tmps.size
    ·rw [od hl,oo hl];rw [qk,oo hl]at hb;simp at hb;rw [hb]
    ·rw [oh hl,jq (js hl)]
   ·rw [oh e]
  simp only [this]
 rw [e]at this;exact this
theorem oL {t:Tmp}{K:St→T}{R:Ctx}{k0:Anc}{w0 w k:World}{a:Act}{st:St}{ρ:Env}(h:Rel st ρ k0 w0 k a w):∀ {vs:List Int},(yC t (vs.map fun i=>.int .i64 i) st K).den P R ρ.bare k→
 ∃st',Rel st' ρ k0 w0 k a w∧(K st').den P R ρ.bare k
 | [],hT=>hT.elim
 | v :: vs,hT=>by
  simp only [zn,yC]at hT;split at hT
  ·rename_i c hc;unfold T.den at hT;split at hT
   ·rename_i b hb;cases b with
    | false=>exact oL h (hT.2 rfl)
    | true=>
     refine⟨_,h.refineV (t:=t) (b:=.int .i64 v) ?_,hT.1 rfl⟩;have h1:=aTq hb;have h2:=h.tmps t;rw [hc]at h2;rcases h2 with h2|h2
     ·cases h2
     ·simp only [SV.den]at h2;rw [SC.den_le (Env.bare_le ρ) h1]at h2;injection h2 with h2;exact h2.symm
   ·exact hT.elim
  ·exact hT.elim
theorem yB {cfg:Cfg}{lid:Nat}{K:St→T}{R:Ctx}{k0:Anc}{w0 w k:World}{a:Act}{st:St}{ρ:Env}(h:Rel st ρ k0 w0 k a w) (hT:(aEf cfg lid st K).den P R ρ.bare k) :
 ∃st',Rel st' ρ k0 w0 k a w∧(K st').den P R ρ.bare k:=by
 unfold aEf at hT;split at hT
 ·exact oL h hT
 ·exact⟨st,h,hT⟩
theorem hH {K:St→T}{R:Ctx}{k0:Anc}{w0 w:World}{a:Act}:∀ {xs:List Operand}{st:St}{ρ:Env}{k:World},Rel st ρ k0 w0 k a w→(aDe xs st K).den P R ρ.bare k→
 ∃st' ρ' k',Rel st' ρ' k0 w0 k' a w∧(K st').den P R ρ'.bare k'
 | [],st,ρ,k,h,hT=>⟨st,ρ,k,h,hT⟩
 | x :: xs,st,ρ,k,h,hT=>by
  unfold aDe at hT;split at hT
  ·rename_i b hx;split at hT
   ·rename_i blk hb;split at hT
    ·exact hH h hT
    ·rename_i hp;have hp':blk.pub=false:=by simpa using hp
     obtain⟨n,vs',g1,g2,g3,g4,g5⟩:=h.heap b blk hb;unfold T.den at hT;split at hT
     ·rename_i us hus;have:=aJ (Env.bare_le ρ) hus;rw [g2]at this;injection this with this;subst this;obtain⟨k',u1,u2,u3⟩:=h.pub hb hp' g1 g2;exact hH u3.at (hT n k' u1 u2)
     ·exact hT.elim
   ·exact hH h hT
  ·exact hH h hT
theorem aCm (hm:P.follows .mixedOrders=true):∀(c:Code) {lid:Nat}{st:St}{ρ:Env}{k0:Anc}{w0 k w:World}{a:Act}{K:SExit→St→T}{Q:Exit→Act→World→Prop}{R:Ctx},
 (∀R' e st' ρ' k' a' w',Agree k0.d R R'→Rel st' ρ' k0 w0 k' a' w'→(K e st').den P R' ρ'.bare k'→Q e.to a' w')→
 Rel st ρ k0 w0 k a w→(exec P cfg lid c st K).den P R ρ.bare k→c.wp P Q a w:=by
 intro c
 induction c with
 | skip=>intro lid st ρ k0 w0 k w a K Q R hK h hT;exact wp_skip (hK R .normal _ _ _ _ _ (Agree.refl _ _) h hT)
 | region id ops draw=>
  intro lid st ρ k0 w0 k w a K Q R hK h hT;unfold exec at hT;obtain⟨st,ρ,k,h,hT⟩:=eR h hT;have hK:∀(R':Ctx) st' ρ' k' a' w',Agree k0.d R R'→Rel st' ρ' k0 w0 k' a' w'→(mR (aFg cfg id true) st' (K .normal)).den P R' ρ'.bare k'→Q .normal a' w':=fun R' st' ρ' k' a' w' hA h' hT'=>by
   obtain⟨st2,ρ2,k2,h2,hT2⟩:=eR h' hT';exact hK R' .normal _ _ _ _ _ hA h2 hT2
  cases draw with
  | true=>
   obtain⟨st0,ρ0,k0',h0,hT0⟩:=cY h hT;obtain⟨st1,ρ1,k1,h1,hT1⟩:=hH h0 hT0;rw [vA _ Bits.init Ents.nil]at hT1;exact zO hm (fun st' ρ' k' a' w' h' hT'=>hK R _ _ _ _ _ (Agree.refl _ _) h' hT') h1 hT1
  | false=>
   simp only [zf,if_false]at hT;unfold aXd at hT;split at hT
   ·exact wp_region (fK (fun st' ρ' k' a' w' h' hT'=>hK R _ _ _ _ _ (Agree.refl _ _) h' hT') _ h hT)
   ·rename_i _ slots _;unfold T.den at hT;obtain⟨φ,ha,hb⟩:=hT
    let kA:Anc:={ toWorld:=k0.toWorld,ρ:=ρ,kk:=k,d:=st.depth+1 }
    let kB:Anc:={ toWorld:=k0.toWorld,ρ:=ρ,kk:=k,d:=0 }
    refine wp_region (fK (k0:=kB) (fun st1 ρ1 k1 a1 w1 h1 hT1=>?_) _ { h with anc:=Env.le.refl ρ,up:=Up.refl k,dep:=zk _ } ha);split at hT1
    ·rename_i hbk;unfold T.den at hT1;split at hT1
     ·rename_i vs hvs;have hag:φ k1 vs:=by
       have:=hT1 k1 (Up.refl k1);have e:(R.push st.depth φ).ag st.depth=φ:=od rfl
       rwa [e]at this
      obtain⟨us,hf,ht,hden⟩:=aP (hb k1 vs h1.up hag);have hhead:Rel (dP st slots (ops.toList.filterMap (·.dst))) (ρ.ext st.kinds.length (aR st.kinds.length slots).2 us) kA w0 k1 a1 w1:=
       Rel.head (k0':=kB) h h1 rfl rfl rfl rfl rfl rfl hbk (bJ (Env.bare_le _) hvs) hf (bJ (Env.bare_le _) ht)
      have h':=hhead.at
      have hconv:Rel (dP st slots (ops.toList.filterMap (·.dst))) ((ρ.ext st.kinds.length (aR st.kinds.length slots).2 us).at k1) k0 w0 k1 a1 w1:=
       { anc:=h.anc.trans h'.anc,up:=h.up.trans h'.up,dep:=qe h.dep (qe (Nat.le_succ _) h'.dep),env:=h'.env,kinds:=h'.kinds,vals:=h'.vals,blks:=h'.blks,inj:=h'.inj,size:=h'.size,tmps:=h'.tmps,
         defers:=h'.defers,sees:=h'.sees,base:=h'.base,kb:=h'.kb,wb:=h'.wb,heap:=h'.heap,mem:=h'.mem,rows:=h'.rows,fam:=h'.fam }
      exact hK R _ _ _ _ _ (Agree.refl _ _) hconv hden
     ·exact hT1.elim
    ·exact hT1.elim
 | seq x y ihx ihy=>
  intro lid st ρ k0 w0 k w a K Q R hK h hT;unfold exec at hT;refine wp_seq (ihx ?_ h hT);intro R' e st' ρ' k' a' w' hA h' hT';cases e with
  | normal=>exact ihy (fun R2 e2 st2 ρ2 k2 a2 w2 hA2=>hK R2 e2 st2 ρ2 k2 a2 w2 (hA.trans hA2 (oy _))) h' hT'
  | exit id=>exact hK R' (.exit id) _ _ _ _ _ hA h' hT'
  | ret=>exact hK R' .ret _ _ _ _ _ hA h' hT'
 | cond c x y ihx ihy=>
  intro lid st ρ k0 w0 k w a K Q R hK h hT;unfold exec at hT;have hev:∀sv,opnd st.tm c=sv→sv≠.top→sv.den ρ=some (a.eval c):=fun sv e hne=>by
   rw [←e];exact gP (fun t _=>h.tmps t) (by rw [e];exact hne)
  split at hT
  ·rename_i hc;have:=hev _ hc (by simp);simp only [SV.den,SC.den]at this;injection this with this;exact wp_cond_true this.symm (ihx hK h hT)
  ·rename_i hc;have:=hev _ hc (by simp);simp only [SV.den,SC.den]at this;injection this with this;exact wp_cond_false this.symm (ihy hK h hT)
  ·rename_i i hc;have hv:=hev _ hc (by simp);simp only [SV.den]at hv;split at hT
   ·unfold T.den at hT;split at hT
    ·rename_i b hb;have hb':=SC.den_le (Env.bare_le ρ) hb;have hval:ρ.val i=some (.bool b):=by
      simp only [SC.den]at hb';split at hb'
      ·cases hb'
      ·cases hb'
      ·exact hb'
     rw [hb']at hv;injection hv with hv;cases b with
     | true=>exact wp_cond_true hv.symm (ihx hK (h.sb hval) (hT.1 rfl))
     | false=>exact wp_cond_false hv.symm (ihy hK (h.sb hval) (hT.2 rfl))
    ·exact hT.elim
   split at hT
   ·rename_i t;unfold T.den at hT;split at hT
    ·rename_i b hb;rw [SC.den_le (Env.bare_le ρ) hb]at hv;injection hv with hv;cases b with
     | true=>exact wp_cond_true hv.symm (ihx hK (h.refine hv.symm) (hT.1 rfl))
     | false=>exact wp_cond_false hv.symm (ihy hK (h.refine hv.symm) (hT.2 rfl))
    ·exact hT.elim
   ·unfold T.den at hT;split at hT
    ·rename_i b hb;rw [SC.den_le (Env.bare_le ρ) hb]at hv;injection hv with hv;cases b with
     | true=>exact wp_cond_true hv.symm (ihx hK h (hT.1 rfl))
     | false=>exact wp_cond_false hv.symm (ihy hK h (hT.2 rfl))
    ·exact hT.elim
  ·rename_i sc _ _ _ hc;have hv:=hev _ hc (by simp);simp only [SV.den]at hv;split at hT
   ·rename_i t;unfold T.den at hT;split at hT
    ·rename_i b hb;rw [SC.den_le (Env.bare_le ρ) hb]at hv;injection hv with hv;cases b with
     | true=>exact wp_cond_true hv.symm (ihx hK (h.refine hv.symm) (hT.1 rfl))
     | false=>exact wp_cond_false hv.symm (ihy hK (h.refine hv.symm) (hT.2 rfl))
    ·exact hT.elim
   ·unfold T.den at hT;split at hT
    ·rename_i b hb;rw [SC.den_le (Env.bare_le ρ) hb]at hv;injection hv with hv;cases b with
     | true=>exact wp_cond_true hv.symm (ihx hK h (hT.1 rfl))
     | false=>exact wp_cond_false hv.symm (ihy hK h (hT.2 rfl))
    ·exact hT.elim
  ·exact hT.elim
 | block id c ih=>
  intro lid st ρ k0 w0 k w a K Q R hK h hT;unfold exec at hT;split at hT
  ·rename_i _ slots _;unfold T.den at hT;obtain⟨φ,ha,hb⟩:=hT
   let kA:Anc:={ toWorld:=k0.toWorld,ρ:=ρ,kk:=k,d:=st.depth+1 }
   let kB:Anc:={ toWorld:=k0.toWorld,ρ:=ρ,kk:=k,d:=0 }
   have hstart:Rel { st with depth:=st.depth+1 } ρ kA w0 k a w:={ h with anc:=Env.le.refl ρ,up:=Up.refl k,dep:=oy _ };refine wp_block (ih (k0:=kA) ?_ hstart ha);intro R' e st1 ρ1 k1 a1 w1 hA h1 hT1
   have hA0:Agree k0.d R R':=⟨hA.res,fun j hj=>by
    have hd:=h.dep;rw [hA.ag j (show j<st.depth+1 by omega)];show (if j=st.depth then _ else R.ag j)=R.ag j
    rw [oh oq]⟩
   have hconv:Rel st1 ρ1 k0 w0 k1 a1 w1:=
    { anc:=h.anc.trans h1.anc,up:=h.up.trans h1.up,dep:=qe h.dep (qe (Nat.le_succ _) h1.dep),env:=h1.env,kinds:=h1.kinds,vals:=h1.vals,blks:=h1.blks,inj:=h1.inj,size:=h1.size,tmps:=h1.tmps,
      defers:=h1.defers,sees:=h1.sees,base:=h1.base,kb:=h1.kb,wb:=h1.wb,heap:=h1.heap,mem:=h1.mem,rows:=h1.rows,fam:=h1.fam }
   have meet:(aFp st slots (cI c) st1).den P R' ρ1.bare k1→Q .normal a1 w1:=fun hT1=>by
    unfold aFp at hT1;split at hT1
    ·rename_i hbk;unfold T.den at hT1;split at hT1
     ·rename_i vs hvs;have hag:=hT1 k1 (Up.refl k1);rw [hA.ag st.depth (wh _)]at hag;have hag:(if st.depth=st.depth then φ else R.ag st.depth) k1 vs:=hag;rw [od rfl]at hag;obtain⟨us,hf,ht,hden⟩:=aP (hb k1 vs h1.up hag);have h1':Rel st1 ρ1 kB w0 k1 a1 w1:={ h1 with dep:=zk _ };have hhead:Rel (dP st slots (cI c)) (ρ.ext st.kinds.length (aR st.kinds.length slots).2 us) kA w0 k1 a1 w1:=
       Rel.head (k0':=kB) h h1' rfl rfl rfl rfl rfl rfl hbk (bJ (Env.bare_le _) hvs) hf (bJ (Env.bare_le _) ht)
      have h':=hhead.at
      have hc2:Rel (dP st slots (cI c)) ((ρ.ext st.kinds.length (aR st.kinds.length slots).2 us).at k1) k0 w0 k1 a1 w1:=
       { anc:=h.anc.trans h'.anc,up:=h.up.trans h'.up,dep:=qe h.dep (qe (Nat.le_succ _) h'.dep),env:=h'.env,kinds:=h'.kinds,vals:=h'.vals,blks:=h'.blks,inj:=h'.inj,size:=h'.size,tmps:=h'.tmps,
         defers:=h'.defers,sees:=h'.sees,base:=h'.base,kb:=h'.kb,wb:=h'.wb,heap:=h'.heap,mem:=h'.mem,rows:=h'.rows,fam:=h'.fam }
      exact hK R .normal _ _ _ _ _ (Agree.refl _ _) hc2 hden
     ·exact hT1.elim
    ·exact hT1.elim
   cases e with
   | normal=>exact meet hT1
   | exit i=>
    show Exit.inBlock id Q (.exit i) a1 w1;simp only [Exit.inBlock];simp only at hT1;split at hT1
    ·rename_i e;rw [od e];exact meet hT1
    ·rename_i e;rw [oh e];exact hK R' (.exit i) _ _ _ _ _ hA0 hconv hT1
   | ret=>exact hK R' .ret _ _ _ _ _ hA0 hconv hT1
  ·refine wp_block (ih ?_ h hT);intro R' e st' ρ' k' a' w' hA h' hT';cases e with
   | normal=>exact hK R' .normal _ _ _ _ _ hA h' hT'
   | exit i=>
    show Exit.inBlock id Q (.exit i) a' w';simp only [Exit.inBlock];simp only at hT';split at hT'
    ·rename_i e;rw [od e];exact hK R' .normal _ _ _ _ _ hA h' hT'
    ·rename_i e;rw [oh e];exact hK R' (.exit i) _ _ _ _ _ hA h' hT'
   | ret=>exact hK R' .ret _ _ _ _ _ hA h' hT'
 | exit id=>intro lid st ρ k0 w0 k w a K Q R hK h hT;exact wp_exit (hK R (.exit id) _ _ _ _ _ (Agree.refl _ _) h hT)
 | ret=>intro lid st ρ k0 w0 k w a K Q R hK h hT;exact wp_ret (hK R .ret _ _ _ _ _ (Agree.refl _ _) h hT)
 | loop c ih=>
  intro lid st ρ k0 w0 k w a K Q R hK h hT;unfold exec at hT;split at hT
  ·rename_i lid' slots hfind;obtain⟨st,ρ,k,h,hT⟩:=cY h hT;simp only at hT;split at hT
   ·exact hT.elim
   rename_i hback;have hback:kF st slots (cI c) st=true:=by simpa using hback
   unfold T.den at hT;split at hT
   ·rename_i vs hvs;obtain⟨I,⟨n0,hI0⟩,hbody⟩:=hT
    let kA:Anc:={ toWorld:=k0.toWorld,ρ:=ρ,kk:=k,d:=st.depth+1 }
    let kB:Anc:={ toWorld:=k0.toWorld,ρ:=ρ,kk:=k,d:=0 }
    have key:∀(N n:Nat) {st1:St}{ρ1:Env}{k1 w1:World}{a1:Act}{vs1:List Value},n<N→Rel st1 ρ1 kB w0 k1 a1 w1→kF st slots (cI c) st1=true→
     argsD ρ1 (slots.map (Slot.get st1))=some vs1→I n k1 vs1→Code.rounds P c Q N a1 w1:=by
     intro N
     induction N with
     | zero=>intro n st1 ρ1 k1 w1 a1 vs1 hn;omega
     | succ N ihN=>
      intro n st1 ρ1 k1 w1 a1 vs1 hn h1 hb hv hI;rw [rounds_succ];obtain⟨us,hf,ht,hden⟩:=aP (hbody n k1 vs1 h1.up hI);have hhead:Rel (dP st slots (cI c)) (ρ.ext st.kinds.length (aR st.kinds.length slots).2 us) kA w0 k1 a1 w1:=
       Rel.head (k0':=kB) h h1 rfl rfl rfl rfl rfl rfl hb hv hf (bJ (Env.bare_le _) ht)
      obtain⟨stS,hheadS,hden⟩:=yB hhead.at hden;refine ih ?_ hheadS hden;intro R' e st' ρ' k' a' w' hA h' hT'
      have hA0:Agree k0.d R R':=⟨hA.res,fun j hj=>by
       have hd:=h.dep;rw [hA.ag j (show j<st.depth+1 by omega)];show (if j=st.depth then _ else R.ag j)=R.ag j
       rw [oh oq]⟩
      have hconv:Rel st' ρ' k0 w0 k' a' w':=
       { anc:=h.anc.trans h'.anc,up:=h.up.trans h'.up,dep:=qe h.dep (qe (Nat.le_succ _) h'.dep),env:=h'.env,kinds:=h'.kinds,vals:=h'.vals,blks:=h'.blks,inj:=h'.inj,size:=h'.size,tmps:=h'.tmps,
         defers:=h'.defers,sees:=h'.sees,base:=h'.base,kb:=h'.kb,wb:=h'.wb,heap:=h'.heap,mem:=h'.mem,rows:=h'.rows,fam:=h'.fam }
      cases e with
      | normal=>
       simp only at hT';split at hT'
       ·rename_i hb';unfold T.den at hT';split at hT'
        ·rename_i vs2 hv2;have hag:=hT' k' (Up.refl k');rw [hA.ag st.depth (wh _)]at hag;have hag:(if st.depth=st.depth then (fun (k'':World) (vs'':List Value)=>∃m,m<n∧I m k'' vs'') else R.ag st.depth) k' vs2:=hag;rw [od rfl]at hag;obtain⟨m,hm',hI'⟩:=hag;show Code.rounds P c Q N a' w';exact ihN m oq { h' with dep:=zk _ } hb' (bJ (Env.bare_le _) hv2) hI'
        ·exact hT'.elim
       ·exact hT'.elim
      | exit id=>exact hK R' (.exit id) _ _ _ _ _ hA0 hconv hT'
      | ret=>exact hK R' .ret _ _ _ _ _ hA0 hconv hT'
    refine wp_loop_rounds (n0+1) (key (n0+1) n0 (wh _) (st1:=st) (ρ1:=ρ) { h with anc:=Env.le.refl ρ,up:=Up.refl k,dep:=zk _ } hback (bJ (Env.bare_le ρ) hvs) (hI0 k (Up.refl k)))
   ·exact hT.elim
  ·suffices hr:∀(N:Nat) {st:St}{ρ:Env}{k w:World}{a:Act}{R:Ctx},(∀R' e st' ρ' k' a' w',Agree k0.d R R'→Rel st' ρ' k0 w0 k' a' w'→(K e st').den P R' ρ'.bare k'→Q e.to a' w')→
    Rel st ρ k0 w0 k a w→(unroll N (fun st K=>exec P cfg lid c st K) st K).den P R ρ.bare k→Code.rounds P c Q N a w by
    exact wp_loop_rounds cfg.fuel (hr cfg.fuel hK h hT)
   intro N
   induction N with
   | zero=>intro st ρ k w a R _ _ hT;exact hT.elim
   | succ N ihN=>
    intro st ρ k w a R hK h hT;rw [rounds_succ];refine ih ?_ h hT;intro R' e st' ρ' k' a' w' hA h' hT';cases e with
    | normal=>exact ihN (fun R2 e2 st2 ρ2 k2 a2 w2 hA2=>hK R2 e2 st2 ρ2 k2 a2 w2 (hA.trans hA2 (oy _))) h' hT'
    | exit id=>exact hK R' (.exit id) _ _ _ _ _ hA h' hT'
    | ret=>exact hK R' .ret _ _ _ _ _ hA h' hT'
 | _=>intro lid st ρ k0 w0 k w a K Q R hK h hT;exact hT.elim
def xR (st:St) (P:Program):ResultVar→Option SV
 | .tmp t=>some (st.tm t)
 | .cell a t=>match st.tm a with
  | .one (.ptr b off)=>match st.heap[b]? with
   | some blk=>oB P t blk.cells off
   | none=>none
  | _=>none
def fH (P:Program) (st:St):List ResultVar→Option (List SV)
 | []=>some []
 | r :: rs=>match xR st P r,fH P st rs with
  | some v,some vs=>some (v :: vs)
  | _,_=>none
def aNr:SV→Option (Bool×List SC)
 | .one c=>some (false,[c])
 | .agg cs=>some (true,cs)
 | _=>none
def aBs:List SV→Option (List (Bool×List SC))
 | []=>some []
 | v :: vs=>match aNr v,aBs vs with
  | some p,some ps=>some (p :: ps)
  | _,_=>none
def aPo (P:Program) (fn:Func) (st:St):T:=
 match fH P st fn.results.toList with
 | some [v]=>.ret v
 | some vs=>match aBs vs with
  | some ps=>.ret (.tup ps)
  | none => .fail "ret: tuple"
 | none => .fail "ret"
def aZo (P:Program) (fn:Func) (st:St):T:=
 match fH P st fn.results.toList with
 | some vs=>rG (vs.flatMap (aZx st)) st fun st=>aPo P fn st
 | none => .fail "ret"
def iG (fn:Func) (args:List SV) (heap:List SB) (kinds:List LK):St:=
 { tmps:=⟨args.length+(fn.ntmps-args.length),[],fun t=>args.getD t bL⟩,heap,kinds }
theorem aEg (fn:Func) (args:List SV) (heap:List SB) (kinds:List LK) (t:Nat):(iG fn args heap kinds).tm t=args.getD t bL:=by
 by_cases h:t<args.length+(fn.ntmps-args.length)
 ·exact Tab.get_lt (b:=(iG fn args heap kinds).tmps) h
 ·rw [ze,ot oq];exact Tab.get_ge (b:=(iG fn args heap kinds).tmps) (show args.length+(fn.ntmps-args.length)≤t by omega)
def execFn (P:Program) (cfg:Cfg) (f:FuncId) (args:List SV) (heap:List SB) (kinds:List LK):T:=
 match zY P f with
 | some fn=>match fn.body with
  | some c=>exec P cfg 0 c (iG fn args heap kinds) fun e st=>match e with
   | .exit _ => .fail "exit"
   | _=>aZo P fn st
  | none => .fail "no body"
 | none => .fail "no function"
def bDd (P:Program) (fn:Func) (ty:TypeId) (s:Nat) (st:St):T:=
 match fH P st fn.results.toList with
 | some [.one (.slr v)]=>match dH st v with
  | some r => if r.ty = ty ∧ r.s = s then .ret (.rw r.v r.x) else .fail "ret: row"
  | none => .fail "ret: a row"
 | _ => .fail "ret: what"
def rows3:Bool→List SV→Option (Nat×Nat×Nat)
 | false,[.agg [.slr v,.slr v',.slr v'']]=>some (v,v',v'')
 | true,[.agg [.slr v,.slr v',.slr v''],.one (.lit (.int .i64 0))]=>some (v,v',v'')
 | _,_=>none
def bCc (P:Program) (fn:Func) (ty:TypeId) (s:Nat) (d:Bool) (st:St):T:=
 match (fH P st fn.results.toList).bind (rows3 d) with
 | some (v,v',v'')=>match dH st v,dH st v',dH st v'' with
  | some r, some r', some r'' => if (r.ty = ty ∧ r.s = s) ∧ (r'.ty = ty ∧ r'.s = s) ∧ (r''.ty = ty ∧ r''.s = s) ∧ r ≠ r' ∧ r ≠ r'' ∧ r' ≠ r'' then .ret3 r.v r.x r'.v r'.x r''.v r''.x else .fail "ret: rows"
  | _, _, _ => .fail "ret: three rows"
 | none => .fail "ret: what"
def bBi (P:Program) (cfg:Cfg) (f:FuncId) (args:List SV) (heap:List SB) (kinds:List LK) (ty:TypeId) (s:Nat) (d:Bool):T:=
 match zY P f with
 | some fn=>match fn.body with
  | some c=>exec P cfg 0 c (iG fn args heap kinds) fun e st=>match e with
   | .exit _ => .fail "exit"
   | _=>bCc P fn ty s d st
  | none => .fail "no body"
 | none => .fail "no function"
def bCk (P:Program) (cfg:Cfg) (f:FuncId) (args:List SV) (heap:List SB) (kinds:List LK) (ty:TypeId) (s:Nat):T:=
 match zY P f with
 | some fn=>match fn.body with
  | some c=>exec P cfg 0 c (iG fn args heap kinds) fun e st=>match e with
   | .exit _ => .fail "exit"
   | _=>bDd P fn ty s st
  | none => .fail "no body"
 | none => .fail "no function"
theorem Ok.of_den {ρ:Env}{sv:SV}{v x:Value}(h:Ok ρ sv v) (hx:sv.den ρ=some x):x=v:=by
 rcases h with h|h
 ·rw [h]at hx;cases hx
 ·rw [h]at hx;injection hx with hx;exact hx.symm
def tK (tmps:Array Value):ResultVar→Sem Value
 | .tmp t=>pure (tmps.getD t undef)
 | .cell b t=>do loadVar t (←asAddr (tmps.getD b undef))
theorem qK {st:St}{ρ:Env}{k0:Anc}{w0 k w:World}{a:Act}(h:Rel st ρ k0 w0 k a w):∀ {rs:List ResultVar}{vs:List SV}{xs:List Value},fH P st rs=some vs→argsD ρ vs=some xs→
 (rs.mapM (m:=Sem) (tK a.tmps)).run P w=.ok xs w
 | [],vs,xs,h1,h2=>by simp only [fH]at h1;injection h1 with h1;subst h1;simp only [argsD]at h2;injection h2 with h2;subst h2;rfl
 | r :: rs,vs,xs,h1,h2=>by
  simp only [fH]at h1;split at h1
  ·rename_i v vs' g1 g2;injection h1 with h1;subst h1;simp only [argsD]at h2;split at h2
   ·rename_i x xs' e1 e2;injection h2 with h2;subst h2;have ih:=qK h g2 e2;have hr:(tK a.tmps r).run P w=.ok x w:=by
     cases r with
     | tmp t=>
      simp only [xR]at g1;injection g1 with g1;subst g1;have:=(h.tmps t).of_den e1;simp only [tK,jp,this]
     | cell b t=>
      simp only [xR]at g1;split at g1
      ·rename_i b' off hb;split at g1
       ·rename_i blk hblk;obtain⟨n,us,f1,f2,f3,_⟩:=h.heap b' blk hblk;obtain⟨y,y1,y2⟩:=qP h.env (P:=P) (w:=w) g1 f2 f3;rw [e1]at y1;injection y1 with y1;subst y1;have:=h.tmps b;rw [hb]at this;have hp:=this.of_den (x:=.pointer (some ⟨n,off,none⟩)) (by simp only [SV.den,SC.den,f1]);simp only [tK,←hp,asAddr,qy,jp,Result.andThen,y2]
       ·cases g1
      ·cases g1
    rw [List.mapM_cons];simp only [qy,hr,Result.andThen,ih,jp]
   ·cases h2
  ·cases h1
theorem aGo {ρ:Env}:∀ {vs:List SV}{ps:List (Bool×List SC)}{xs:List Value},aBs vs=some ps→hC ρ ps=some xs→argsD ρ vs=some xs
 | [],ps,xs,h1,h2=>by simp only [aBs]at h1;injection h1 with h1;subst h1;exact h2
 | v :: vs,ps,xs,h1,h2=>by
  simp only [aBs]at h1;split at h1
  ·rename_i p ps' g1 g2;injection h1 with h1;subst h1;simp only [hC]at h2;split at h2
   ·rename_i x xs' e1 e2;injection h2 with h2;subst h2;have ih:=aGo g2 e2;have hv:v.den ρ=some x:=by
     cases v <;> simp only [aNr]at g1 <;> cases g1
     ·exact e1
     ·exact e1
    simp only [argsD,hv,ih]
   ·cases h2
  ·cases h1
structure Begin (ρ:Env) (heap:List SB) (kinds:List LK) (k:World):Prop where
 env:ρ.Ok
 kd:∀i,ρ.kd i=kinds[i]?
 vals:∀i,kinds.length≤i→ρ.val i=none
 blks:∀b,heap.length≤b→ρ.blk b=none
 mem:∀A v,ρ.mem A=some v→k.cell? A=some v
 hp:∀b blk,heap[b]?=some blk→blk.pub=true∧∃n vs,ρ.blk b=some n∧aC ρ blk.cells=some vs∧Blk k n blk.ty vs.toArray∧ρ.val blk.pv=some (.pointer (some ⟨n,0,none⟩))
theorem nP (hm:P.follows .mixedOrders=true) {f:FuncId}{args:List SV}{heap:List SB}{kinds:List LK}{ρ:Env}{k:World}{vs:List Value}{R:World→Value→Prop}(hbeg:Begin ρ heap kinds k)
 (hargs:argsD ρ args=some vs) {φ:Nat→World→List Value→Prop}(hT:(execFn P cfg f args heap kinds).den P ⟨R,φ⟩ ρ.bare k):CallsG P f vs.toArray k R:=by
 intro w hs;unfold execFn at hT;split at hT
 ·rename_i fn hfn;split at hT
  ·rename_i c hc;obtain⟨hl,hg⟩:=iN hargs;refine calls_of_wp ((nR _ _).symm.trans hfn) hc ?_
   let k0:Anc:={ toWorld:=k,ρ:=ρ,kk:=k,d:=0 }
   have hrel:Rel (iG fn args heap kinds) ρ k0 w k { tmps:=vs.toArray++Array.replicate (fn.ntmps-vs.toArray.size) undef,defers:=[] } w:=
    { anc:=Env.le.refl ρ
      up:=Up.refl k
      dep:=zk _
      env:=hbeg.env
      kinds:=hbeg.kd
      vals:=hbeg.vals
      blks:=hbeg.blks
      inj:=fun b b' n hbase h1 _=>by
       rcases zr b heap.length with hlt|hge
       ·obtain⟨_,n',us,h1',_,h3,_⟩:=hbeg.hp b _ (qi hlt);rw [h1]at h1';injection h1' with h1';subst h1';have:=h3.lt;have hbase:k.heap.size≤n:=hbase;omega
       ·rw [hbeg.blks b hge]at h1;cases h1
      size:=by simp [iG,hl]
      tmps:=fun t=>by
       rw [aEg];simp only [ze,qk,Array.getElem?_append,yg,hl]
       by_cases ht:t<args.length
       ·rw [od ht];obtain⟨v,v1,v2⟩:=hg t _ (qi ht);rw [qi ht];simp only [kn,v1,Option.getD_some];exact .inr v2
       ·rw [oh ht,ot (js ht)];simp only [vw];split <;> exact .inr rfl
      defers:=rfl
      sees:=hs
      base:=hs.size.symm
      kb:=Below.refl _ _
      wb:=Below.refl _ _
      heap:=fun b blk hb=>by
       obtain⟨hp,n,us,h1,h2,h3,h4⟩:=hbeg.hp b blk hb;exact⟨n,us,h1,h2,h3.sees hs,(fun hp'=>by rw [hp]at hp';cases hp'),fun _=>⟨h3,h4⟩⟩
      mem:=hbeg.mem
      rows:=⟨fun r hr=>(by cases hr),fun r hr=>(by cases hr)⟩
      fam:=FamOk.nil }
   refine aCm hm c (k0:=k0) ?_ hrel hT;intro R' e st' ρ' k' a' w' hA h' hT';have hret0:∀ {st':St}{ρ':Env}{k':World},Rel st' ρ' k0 w k' a' w'→(aPo P fn st').den P R' ρ'.bare k'→a'.defers=[]∧∃v,(results fn a'.tmps).run P w'=.ok v w'∧∃v' k',Ending.returned v=.returned v'∧Sees k' w'∧Below k.heap.size k k'∧Below w.heap.size w w'∧R k' v':=by
    intro st' ρ' k' h' hT';refine⟨h'.defers,?_⟩;have fin:∀(v:Value),(∀k'',Up k' k''→R'.R k'' v)→∃v' k',Ending.returned v=.returned v'∧Sees k' w'∧Below k.heap.size k k'∧Below w.heap.size w w'∧R k' v':=fun v hv=>
     ⟨v,k',rfl,h'.sees,h'.kb,h'.wb,by have:=hv k' (Up.refl k');rw [hA.res]at this;exact this⟩
    have run:∀(vs':List SV) (xs:List Value),fH P st' fn.results.toList=some vs'→argsD ρ' vs'=some xs→(results fn a'.tmps).run P w'=.ok (if h:xs.toArray.size=1 then xs.toArray[0] else .tuple xs.toArray) w':=fun vs' xs g1 g2=>by
     have:=qK h' g1 g2;have e:(results fn a'.tmps)=(do let vs ←fn.results.mapM (tK a'.tmps);pure (if h:vs.size=1 then vs[0] else .tuple vs):Sem Value):=rfl;rw [e,Array.mapM_eq_mapM_toList];simp only [qy,Sem.run_map,Result.andThen,this,jp]
    unfold aPo at hT';split at hT'
    ·rename_i v hv;unfold T.den at hT';split at hT'
     ·rename_i x hx;refine⟨x,?_,fin x hT'⟩;have:=run [v] [x] hv (by simp only [argsD,aM hx]);simpa using this
     ·exact hT'.elim
    ·rename_i vs' hne hv;split at hT'
     ·rename_i ps hps;unfold T.den at hT';split at hT'
      ·rename_i x hx;refine⟨x,?_,fin x hT'⟩;have hx':=aM (ρ:=ρ') hx;simp only [SV.den]at hx';split at hx'
       ·rename_i us hus;injection hx' with hx';subst hx';have hd:=aGo hps hus;have:=run vs' us hv hd;rw [this];have hlen:=(iN hd).1;have hne':us.toArray.size≠1:=by
         simp only [yg,hlen];intro e
         match vs',e with
         | [v],_=>exact hne v rfl
        rw [dif_neg hne']
       ·cases hx'
      ·exact hT'.elim
     ·exact hT'.elim
    ·exact hT'.elim
   have hret:(aZo P fn st').den P R' ρ'.bare k'→a'.defers=[]∧∃v,(results fn a'.tmps).run P w'=.ok v w'∧∃v' k',Ending.returned v=.returned v'∧Sees k' w'∧Below k.heap.size k k'∧Below w.heap.size w w'∧R k' v':=by
    intro hT';unfold aZo at hT';split at hT'
    ·obtain⟨st2,ρ2,k2,p1,p2⟩:=cY h' hT';exact hret0 p1 p2
    ·exact hT'.elim
   cases e with
   | normal=>exact hret hT'
   | ret=>exact hret hT'
   | exit id=>exact hT'.elim
  ·exact hT.elim
 ·exact hT.elim
end
