/- A symbolic executor of the model's code: code. -/
import Derived.Test.YthiaclljcnincaaGreatApSyG
namespace Go.Proofs.YthiaclljcnincaaGreat.Sy
open Go.RowKit
inductive SExit where
 | normal
 | exit (id:Nat)
 | ret
def SExit.to:SExit→Exit
 | .normal=>.normal
 | .exit id=>.exit id
 | .ret=>.ret
theorem aQm {a b:Value}(h:aQl a b=true):a=b:=by
 unfold aQl at h <;> grind
theorem aBk:∀ {a b:SC},aM a b=true→a=b:=by
 intro a
 induction a with
 | var i=>intro b h;cases b <;> simp [aM]at h;rw [h]
 | lit v=>intro b h;cases b <;> simp [aM]at h;rw [aQm h]
 | ptr b o=>intro b h;cases b <;> simp [aM]at h;simp [h]
 | slr v=>intro b h;cases b <;> simp [aM]at h;simp [h]
 | idx x y ihx ihy=>intro b h;cases b <;> simp [aM]at h <;> grind
 | le x y ihx ihy=>intro b h;cases b <;> simp [aM]at h <;> grind
 | fit x y ihx ihy=>intro b h;cases b <;> simp [aM]at h <;> grind
 | nz x ih=>intro b h;cases b <;> simp [aM]at h;simp [ih h]
 | cap x ih=>intro b h;cases b <;> simp [aM]at h;simp [ih h]
 | isSl k x ih=>intro b h;cases b <;> simp [aM]at h <;> grind
 | elem x y s j ihx ihy=>intro b h;cases b <;> simp [aM]at h <;> grind
 | slc x y z s ihx ihy ihz=>intro b h;cases b <;> simp [aM]at h <;> grind
 | psl p o n c=>intro b h;cases b <;> simp [aM]at h;simp [h]
 | sl b o n c=>intro b h;cases b <;> simp [aM]at h;simp [h]
 | seg b o=>intro b h;cases b <;> simp [aM]at h;simp [h]
 | part x N i s j m ih=>intro b h;cases b <;> simp [aM]at h <;> grind
 | cat x y ihx ihy=>intro b h;cases b <;> simp [aM]at h <;> grind
 | upd x N i s j y ih ihy=>intro b h;cases b <;> simp [aM]at h <;> grind
 | fn b o=>intro b h;cases b <;> simp [aM]at h;simp [h]
 | fnb f b c=>intro b h;cases b <;> simp [aM]at h;simp [h]
 | bin cl op x y ihx ihy=>intro b h;cases b <;> simp [aM]at h <;> grind
 | not x ih=>intro b h;cases b <;> simp [aM]at h;simp [ih h]
 | neg x ih=>intro b h;cases b <;> simp [aM]at h;simp [ih h]
 | conv k x ih=>intro b h;cases b <;> simp [aM]at h <;> grind
 | len x ih=>intro b h;cases b <;> simp [aM]at h;simp [ih h]
 | byte x y ihx ihy=>intro b h;cases b <;> simp [aM]at h <;> grind
 | sub x y z ihx ihy ihz=>intro b h;cases b <;> simp [aM]at h <;> grind
 | pick x y z ihx ihy ihz=>intro b h;cases b <;> simp [aM]at h <;> grind
 | cel x i s k _=>simp_all [aM]
def uF:List SC→List SC→Bool
 | [],[]=>true
 | a :: l,b :: m=>aM a b && uF l m
 | _,_=>false
theorem oO:∀ {a b:List SC},uF a b=true→a=b
 | [],[],_=>rfl
 | a :: l,b :: m,h=>by simp [uF]at h;rw [aBk h.1,oO h.2]
 | [],_ :: _,h=>by cases h
 | _ :: _,[],h=>by cases h
def aGf:List (Bool×List SC)→List (Bool×List SC)→Bool
 | [],[]=>true
 | a :: l,b :: m=>a.1 == b.1 && uF a.2 b.2 && aGf l m
 | _,_=>false
theorem aBl:∀ {a b:List (Bool×List SC)},aGf a b=true→a=b
 | [],[],_=>rfl
 | (a,x) :: l,(b,y) :: m,h=>by simp [aGf]at h;rw [h.1.1,oO h.1.2,aBl h.2]
 | [],_ :: _,h=>by cases h
 | _ :: _,[],h=>by cases h
def aQj:SV→SV→Bool
 | .one a,.one b=>aM a b
 | .agg a,.agg b=>uF a b
 | .tup a,.tup b=>aGf a b
 | .ifc t g a,.ifc t' g' b=>t == t' && g == g' && uF a b
 | .top,.top=>true
 | _,_=>false
theorem aQk {a b:SV}(h:aQj a b=true):a=b:=by
 cases a <;> cases b <;> simp [aQj]at h <;> grind [aBk,oO,aBl]
def wU (st:St) (b i:Nat):SV:=match st.heap[b]? with
 | some x=>match x.cells[i]? with
  | some c=>.one c
  | none=>.top
 | none=>.top
def pO (st:St) (sv:SV) (ty:TypeId) (s:Nat):SV:=match sv with
 | .one (.slr v)=>match cW st v with
  | some r=>if r.ty=ty∧r.s=s then .rw r.v r.x else .top
  | none=>.top
 | .one (.lit (.slice none 0 0))=>if 0<s then .rwnil else .top
 | _=>.top
def Slot.place (st:St):Slot→SV
 | .rw t _ _=>st.tm t
 | .rb b i _ _=>wU st b i
 | _=>.top
def Slot.row?:Slot→Option (TypeId×Nat)
 | .rw _ ty s=>some (ty,s)
 | .rb _ _ ty s=>some (ty,s)
 | _=>none
def Slot.get (st:St):Slot→SV
 | .tmp t _ _=>st.tm t
 | .blk b _=>match st.heap[b]? with
  | some x=>.agg x.cells
  | none=>.top
 | .rw t ty s=>pO st (st.tm t) ty s
 | .rb b i ty s=>pO st (wU st b i) ty s
 | .fm ty s=>match st.fam with
  | some f=>if f.ty=ty∧f.s=s then .fm f.v f.x else .top
  | none=>.top
def SC.isSlr:SC→Bool
 | .slr _=>true
 | .sl _ _ _ _=>true
 | _=>false
def aGi (st:St):List Slot→List SC
 | []=>[]
 | sl :: l=>(match sl with
  | .tmp _ _ _=>(sl.get st).scs.filter SC.isSlr
  | .blk _ _=>(sl.get st).scs.filter SC.isSlr
  | _=>[])++aGi st l
def lP (st:St) (sv:SV):List RowI:=match sv with
 | .one (.slr v)=>(cW st v).toList
 | _=>[]
def dY (st:St):List Slot→List RowI
 | []=>[]
 | sl :: l=>lP st (sl.place st)++dY st l
def fM:List Slot→List SV→List RowI
 | sl :: l,sv :: m=>match sl.row?,sv with
  | some (ty,s),.rw v x=>⟨v,x,ty,s⟩ :: fM l m
  | _,_=>fM l m
 | _,_=>[]
def cP (b:Nat):List Slot→List SV→List (Nat×SC)
 | .rb b' i _ _ :: l,.rw v _ :: m=>if b'=b then (i,.slr v) :: cP b l m else cP b l m
 | _ :: l,_ :: m=>cP b l m
 | _,_=>[]
def gH (cs:List SC):List (Nat×SC)→List SC
 | []=>cs
 | (i,c) :: l=>gH (cs.set i c) l
def lM:List Slot→List SV→Option FamI
 | .fm ty s :: l,sv :: m=>match sv with
  | .fm v x=>if 0<s then some ⟨v,x,ty,s⟩ else none
  | _=>lM l m
 | _ :: l,_ :: m=>lM l m
 | _,_=>none
def iE (st:St) (slots:List Slot):List RowI:=st.rows.filter fun r=>decide (r ∉ dY st slots)
def aT (lo:Nat):List Slot→List SV×List LK
 | []=>([],[])
 | .tmp _ agg lks :: l=>let r:=aT (lo+lks.length) l;((if agg then .agg (gY lo lks) else .one (.var lo)) :: r.1,lks++r.2)
 | .blk _ lks :: l=>let r:=aT (lo+lks.length) l;(.agg (gY lo lks) :: r.1,lks++r.2)
 | .rw _ _ _ :: l=>let r:=aT (lo+2) l;(.rw lo (lo+1) :: r.1,[.slice,.row]++r.2)
 | .rb _ _ _ _ :: l=>let r:=aT (lo+2) l;(.rw lo (lo+1) :: r.1,[.slice,.row]++r.2)
 | .fm _ _ :: l=>let r:=aT (lo+2) l;(.fm lo (lo+1) :: r.1,[.row,.fam]++r.2)
def dP (t:Tmp):List Slot→List SV→Option SV
 | .tmp t' _ _ :: l,sv :: m=>if t'=t then some sv else dP t l m
 | .blk _ _ :: l,_ :: m=>dP t l m
 | .rw t' _ _ :: l,sv :: m=>if t'=t then (match sv with
  | .rw v _=>some (.one (.slr v))
  | _=>some .top) else dP t l m
 | .rb _ _ _ _ :: l,_ :: m=>dP t l m
 | .fm _ _ :: l,_ :: m=>dP t l m
 | _,_=>none
def eS (b:Nat):List Slot→List SV→Option (List SC)
 | .blk b' _ :: l,.agg cs :: m=>if b'=b then some cs else eS b l m
 | _ :: l,_ :: m=>eS b l m
 | _,_=>none
def cG:Code→List Tmp
 | .region _ ops _=>ops.toList.filterMap (·.dst)
 | .seq a b=>cG a++cG b
 | .cond _ a b=>cG a++cG b
 | .block _ a=>cG a
 | .loop a=>cG a
 | .scope a=>cG a
 | _=>[]
def dL (st:St) (slots:List Slot) (ws:List Tmp):St:=
 let r:=aT st.kinds.length slots
 { tmps:=⟨st.tmps.length,[],fun t=>match dP t slots r.1 with
    | some sv=>sv
    | none=>if ws.contains t then .top else st.tm t⟩
   heap:=st.heap.mapIdx fun b blk=>match eS b slots r.1 with
    | some cs=>{ blk with cells:=cs }
    | none=>{ blk with cells:=gH blk.cells (cP b slots r.1) }
   kinds:=st.kinds++r.2
   depth:=st.depth+1
   rows:=iE st slots++fM slots r.1
   fam:=lM slots r.1 }
def kL (st:St) (slots:List Slot) (ws:List Tmp) (st1:St):Bool:=
 let r:=aT st.kinds.length slots
 st1.tmps.length == st.tmps.length &&
 (iE st slots).all (fun q=>decide (q∈st1.rows) && decide (q ∉ dY st1 slots)) && decide ((dY st1 slots).Nodup) &&
 (List.range st.tmps.length).all (fun t=>(dP t slots r.1).isSome || ws.contains t || aQj (st1.tm t) (st.tm t)) &&
 (List.range st.heap.length).all fun b=>match st.heap[b]?,st1.heap[b]? with
   | some x,some y=>x.ty == y.ty && x.pub == y.pub && x.pv == y.pv && (if (eS b slots r.1).isSome then !x.pub else uF (gH x.cells (cP b slots r.1)) (gH y.cells (cP b slots r.1)) && (cP b slots r.1).all fun p=>decide (p.1<y.cells.length))
   | _,_=>false
def unroll:Nat→(St→(SExit→St→T)→T)→St→(SExit→St→T)→T
 | 0, _, _, _ => .fail "unroll: fuel"
 | n+1,f,st,K=>f st fun e st'=>match e with
  | .normal=>unroll n f st' K
  | e=>K e st'
def aDk:List Operand→St→(St→T)→T
 | [],st,K=>K st
 | x :: xs,st,K=>match opnd st.tm x with
  | .one (.ptr b 0)=>match st.heap[b]? with
   | some blk=>if blk.pub then aDk xs st K else .pub blk.ty blk.cells st.kinds.length (aDk xs (st.pubB b) K)
   | none=>aDk xs st K
  | _=>aDk xs st K
def aXw (ops:Array Oper):List Operand:=ops.toList.flatMap fun o=>match o.op with
 | .makeFunc _ _ captured=>captured.toList
 | _=>[]
def SC.sb (i:Nat) (b:Bool):SC→SC
 | .var j=>if j=i then .lit (.bool b) else .var j
 | c=>c
def SV.sb (i:Nat) (b:Bool):SV→SV
 | .one c=>.one (c.sb i b)
 | .agg cs=>.agg (cs.map (SC.sb i b))
 | v=>v
def St.sb (st:St) (i:Nat) (b:Bool):St:=
 { st with tmps:=st.tmps.map (SV.sb i b),heap:=st.heap.map fun x=>{ x with cells:=x.cells.map (SC.sb i b) } }
theorem SC.sb_den {ρ:Env}{i:Nat}{b:Bool}(h:ρ.val i=some (.bool b)) (c:SC):(c.sb i b).den ρ=c.den ρ:=by
 unfold SC.sb <;> grind [SC.den]
theorem SC.sb_scalar (i:Nat) (b:Bool) (c:SC):(c.sb i b).scalar=c.scalar:=by
 unfold SC.sb;split
 ·split <;> rfl
 ·rfl
theorem pE {ρ:Env}{i:Nat}{b:Bool}(h:ρ.val i=some (.bool b)):∀cs:List SC,aC ρ (cs.map (SC.sb i b))=aC ρ cs
 | []=>rfl
 | c :: cs=>by
  have ih:=pE h cs
  by_cases hrun:c.isRun=true
  ·have e:c.sb i b=c:=by cases c <;> first|rfl|cases hrun
   simp_all [eW]
  have hrun:c.isRun=false:=by simp_all
  by_cases hc:∃j m,c=.seg j m
  ·obtain⟨j,m,rfl⟩:=hc;show aC ρ (.seg j m :: cs.map (SC.sb i b))=_;simp only [aC,ih]
  ·have h2:∀j m,c.sb i b≠.seg j m:=fun j m e=>by
    unfold SC.sb at e <;> grind
   have hrun':(c.sb i b).isRun=false:=by
    unfold SC.sb;split
    ·split <;> rfl
    ·exact hrun
   simp_all [cF,SC.sb_scalar,SC.sb_den]
theorem SV.sb_den {ρ:Env}{i:Nat}{b:Bool}(h:ρ.val i=some (.bool b)) (v:SV):(v.sb i b).den ρ=v.den ρ:=by
 cases v with
 | one c=>exact SC.sb_den h c
 | agg cs=>grind [SV.sb,SV.den,bU,pE]
 | _=>rfl
theorem Rel.sb {st:St}{ρ:Env}{k0:Anc}{w0 k w:World}{a:Act}(h:Rel st ρ k0 w0 k a w) {i:Nat}{b:Bool}(hb:ρ.val i=some (.bool b)):Rel (st.sb i b) ρ k0 w0 k a w:=
 { anc:=h.anc
   up:=h.up
   dep:=h.dep
   env:=h.env
   kinds:=h.kinds
   vals:=h.vals
   blks:=fun b' hb'=>h.blks b' (by simpa [St.sb] using hb')
   inj:=h.inj
   size:=h.size
   tmps:=fun t=>by
    have e:(st.sb i b).tm t=(st.tm t).sb i b:=by
     exact Tab.get_map rfl st.tmps t
    rw [e];rcases h.tmps t with h1|h1
    ·rw [h1];exact .inl rfl
    ·exact .inr (by rw [SV.sb_den hb];exact h1)
   defers:=h.defers
   sees:=h.sees
   base:=h.base
   kb:=h.kb
   wb:=h.wb
   heap:=fun b' blk hblk=>by
    simp only [St.sb,jb]at hblk;cases hx:st.heap[b']? with
    | none=>rw [hx]at hblk;cases hblk
    | some x=>
     rw [hx]at hblk;simp only [je,jy]at hblk;subst hblk;obtain⟨n,vs,h1,h2,h3⟩:=h.heap b' x hx;exact⟨n,vs,h1,by rw [pE hb];exact h2,h3⟩
   mem:=h.mem
   rows:=h.rows
   fam:=h.fam }
def yM (t:Tmp):List Value→St→(St→T)→T
 | [], _, _ => .fail "split"
 | v :: vs,st,K=>match st.tm t with
  | .one c=>.branch (.bin 0 .eql c (.lit v)) (K (st.put (some t) (.one (.lit v)))) (yM t vs st K)
  | _ => .fail "split"
def aEh (cfg:Cfg) (lid:Nat) (st:St) (K:St→T):T:=
 match cfg.splits.find? (·.1 == lid) with
 | some (_,t,vs)=>yM t (vs.map fun i=>.int .i64 i) st K
 | none=>K st
def pX (ops:Array Oper):List Tmp:=
 let args:=ops.toList.flatMap fun o=>match o.op with
  | .call c=>match c.callee with
   | .value _=>c.args.toList.filterMap fun | .tmp t=>some t|_=>none
   | _=>[]
  | _=>[]
 let args:=args++ops.toList.filterMap fun o=>match o.op,o.dst with
  | .slice _ (.tmp t) _ _ _,some d=>if args.contains d then some t else none
  | _,_=>none
 args++ops.toList.filterMap fun o=>match o.op,o.dst with
  | .move (.tmp t),some d=>if args.contains d then some t else none
  | _,_=>none
def xI (ops:Array Oper):List Tmp:=
 let args:=pX ops
 ops.toList.filterMap fun o=>match o.op,o.dst with
  | .load _ (.tmp p),some d=>if args.contains d then some p else none
  | _,_=>none
def aTq (st:St) (p:Tmp):List SC:=match st.tm p with
 | .one (.ptr b _)=>match st.heap[b]? with
  | some blk=>blk.cells.flatMap (SC.deep st 3)
  | none=>[]
 | _=>[]
def aWm (cfg:Cfg) (id:Nat) (ops:Array Oper) (st:St) (f:(St→T)→T) (K:St→T):T:=
 match cfg.joins.find? (·.1 == id) with
 | none=>f K
 | some (_,slots)=>.join st.depth st.kinds.length (aT st.kinds.length slots).2 (aT st.kinds.length slots).1
  (f fun st' => if kL st slots (ops.toList.filterMap (·.dst)) st' then .again st.depth (slots.map (Slot.get st')) else .fail "join")
  (K (dL st slots (ops.toList.filterMap (·.dst))))
def aFk (st:St) (slots:List Slot) (ws:List Tmp) (st':St):T:=
 if kL st slots ws st' then .again st.depth (slots.map (Slot.get st')) else .fail "meet"
def exec (P:Program) (cfg:Cfg):Nat→Code→St→(SExit→St→T)→T
 | _,.skip,st,K=>K .normal st
 | _,.region id ops draw,st,K=>mT (aFe cfg id false) st fun st=>
  if draw then rL (((pX ops).flatMap fun t=>aYy st (st.tm t))++(xI ops).flatMap (aTq st)) st fun st=>aDk (aXw ops) st fun st=>cR P cfg ops (masks ops) (dmasks ops) (3*ops.size+10) 0 [] st fun st=>mT (aFe cfg id true) st (K .normal)
  else aWm cfg id ops st (fun K=>fQ P cfg ops (List.range ops.size) st K) fun st=>mT (aFe cfg id true) st (K .normal)
 | lid,.seq a b,st,K=>exec P cfg lid a st fun e st=>match e with
  | .normal=>exec P cfg lid b st K
  | e=>K e st
 | lid,.cond c a b,st,K=>match opnd st.tm c with
  | .one (.lit (.bool true))=>exec P cfg lid a st K
  | .one (.lit (.bool false))=>exec P cfg lid b st K
  | .one (.var i)=>if cfg.sub then .branch (.var i) (exec P cfg lid a (st.sb i true) K) (exec P cfg lid b (st.sb i false) K) else match c with
   | .tmp t=>.branch (.var i) (exec P cfg lid a (st.put (some t) (.one (.lit (.bool true)))) K) (exec P cfg lid b (st.put (some t) (.one (.lit (.bool false)))) K)
   | _=>.branch (.var i) (exec P cfg lid a st K) (exec P cfg lid b st K)
  | .one sc=>match c with
   | .tmp t=>.branch sc (exec P cfg lid a (st.put (some t) (.one (.lit (.bool true)))) K) (exec P cfg lid b (st.put (some t) (.one (.lit (.bool false)))) K)
   | _=>.branch sc (exec P cfg lid a st K) (exec P cfg lid b st K)
  | _ => .fail "cond"
 | _,.block id body,st,K=>match cfg.meets.find? (·.1 == id) with
  | some (_,slots)=>.join st.depth st.kinds.length (aT st.kinds.length slots).2 (aT st.kinds.length slots).1
   (exec P cfg id body { st with depth:=st.depth+1 } fun e st'=>match e with
     | .normal=>aFk st slots (cG body) st'
     | .exit i=>if i=id then aFk st slots (cG body) st' else K e st'
     | e=>K e st')
   (K .normal (dL st slots (cG body)))
  | none=>exec P cfg id body st fun e st=>match e with
   | .exit i=>if i=id then K .normal st else K e st
   | e=>K e st
 | lid,.loop body,st,K=>match cfg.loops.find? (·.1 == lid) with
  | some (_,slots)=>rL (aGi st slots) st fun st=>
   let r:=aT st.kinds.length slots
   let ws:=cG body
   let st0:=st
   if !kL st slots ws st then .fail "loop: head" else
   .loop st.depth (slots.map (Slot.get st)) st.kinds.length r.2 r.1
    (aEh cfg lid (dL st slots ws) fun st=>exec P cfg lid body st fun e st'=>match e with
      | .normal => if kL st0 slots ws st' then .again st0.depth (slots.map (Slot.get st')) else .fail "loop: back"
      | e=>K e st')
  | none=>unroll cfg.fuel (fun st K=>exec P cfg lid body st K) st K
 | _,.exit id,st,K=>K (.exit id) st
 | _,.ret,st,K=>K .ret st
 | _, _, _, _ => .fail "code"
section
variable {P:Program}{cfg:Cfg}
theorem eF {t:Tmp}:∀ {slots:List Slot}{tm:List SV}{sv:SV},dP t slots tm=some sv→(∃(i:Nat) (agg:Bool) (lks:List LK),slots[i]?=some (Slot.tmp t agg lks)∧tm[i]?=some sv)∨
 (∃(i:Nat) (ty:TypeId) (n:Nat) (u:SV),slots[i]?=some (Slot.rw t ty n)∧tm[i]?=some u∧sv=match u with | .rw v _=>.one (.slr v)|_=>.top)
 | [],_,_,h=>by cases h
 | .tmp t' agg lks :: l,[],_,h=>by cases h
 | .rw _ _ _ :: l,[],_,h=>by cases h
 | .tmp t' agg lks :: l,x :: m,sv,h=>by
  simp only [dP]at h;split at h
  ·rename_i e;subst e;injection h with h;subst h;exact .inl ⟨0,agg,lks,rfl,rfl⟩
  ·rcases eF h with ⟨i,a,b,h1,h2⟩|⟨i,a,b,u,h1,h2,h3⟩
   ·exact .inl ⟨i+1,a,b,by simpa using h1,by simpa using h2⟩
   ·exact .inr ⟨i+1,a,b,u,by simpa using h1,by simpa using h2,h3⟩
 | .blk _ _ :: l,[],_,h=>by cases h
 | .blk b lks :: l,x :: m,sv,h=>by
  simp only [dP]at h;rcases eF h with ⟨i,a,b,h1,h2⟩|⟨i,a,b,u,h1,h2,h3⟩
  ·exact .inl ⟨i+1,a,b,by simpa using h1,by simpa using h2⟩
  ·exact .inr ⟨i+1,a,b,u,by simpa using h1,by simpa using h2,h3⟩
 | .fm _ _ :: l,[],_,h=>by cases h
 | .fm ty n :: l,x :: m,sv,h=>by
  simp only [dP]at h;rcases eF h with ⟨i,a,b,h1,h2⟩|⟨i,a,b,u,h1,h2,h3⟩
  ·exact .inl ⟨i+1,a,b,by simpa using h1,by simpa using h2⟩
  ·exact .inr ⟨i+1,a,b,u,by simpa using h1,by simpa using h2,h3⟩
 | .rb _ _ _ _ :: l,[],_,h=>by cases h
 | .rb b i' ty n :: l,x :: m,sv,h=>by
  simp only [dP]at h;rcases eF h with ⟨i,a,b,h1,h2⟩|⟨i,a,b,u,h1,h2,h3⟩
  ·exact .inl ⟨i+1,a,b,by simpa using h1,by simpa using h2⟩
  ·exact .inr ⟨i+1,a,b,u,by simpa using h1,by simpa using h2,h3⟩
 | .rw t' ty n :: l,x :: m,sv,h=>by
  simp only [dP]at h;split at h
  ·rename_i e;subst e;refine .inr ⟨0,ty,n,x,rfl,rfl,?_⟩;split at h <;> (injection h with h;exact h.symm)
  ·rcases eF h with ⟨i,a,b,h1,h2⟩|⟨i,a,b,u,h1,h2,h3⟩
   ·exact .inl ⟨i+1,a,b,by simpa using h1,by simpa using h2⟩
   ·exact .inr ⟨i+1,a,b,u,by simpa using h1,by simpa using h2,h3⟩
theorem eE {b:Nat}:∀ {slots:List Slot}{tm:List SV}{cs:List SC},eS b slots tm=some cs→∃(i:Nat) (lks:List LK),slots[i]?=some (Slot.blk b lks)∧tm[i]?=some (SV.agg cs)
 | [],_,_,h=>by cases h
 | .tmp _ _ _ :: l,[],_,h=>by cases h
 | .blk _ _ :: l,[],_,h=>by cases h
 | .rw _ _ _ :: l,[],_,h=>by cases h
 | .rw _ _ _ :: l,y :: m,cs,h=>by
  have h':eS b l m=some cs:=by cases y <;> exact h
  obtain⟨i,a,h1,h2⟩:=eE h';exact⟨i+1,a,by simpa using h1,by simpa using h2⟩
 | .fm _ _ :: l,[],_,h=>by cases h
 | .fm _ _ :: l,y :: m,cs,h=>by
  have h':eS b l m=some cs:=by cases y <;> exact h
  obtain⟨i,a,h1,h2⟩:=eE h';exact⟨i+1,a,by simpa using h1,by simpa using h2⟩
 | .rb _ _ _ _ :: l,[],_,h=>by cases h
 | .rb _ _ _ _ :: l,y :: m,cs,h=>by
  have h':eS b l m=some cs:=by cases y <;> exact h
  obtain⟨i,a,h1,h2⟩:=eE h';exact⟨i+1,a,by simpa using h1,by simpa using h2⟩
 | .tmp t' agg lks :: l,y :: m,cs,h=>by
  have h':eS b l m=some cs:=by cases y <;> exact h
  obtain⟨i,a,h1,h2⟩:=eE h';exact⟨i+1,a,by simpa using h1,by simpa using h2⟩
 | .blk b' lks :: l,y :: m,cs,h=>by
  have step:eS b l m=some cs→∃(i:Nat) (lks':List LK),(Slot.blk b' lks :: l)[i]?=some (Slot.blk b lks')∧(y :: m)[i]?=some (SV.agg cs):=fun h'=>by
   obtain⟨i,a,h1,h2⟩:=eE h';exact⟨i+1,a,by simpa using h1,by simpa using h2⟩
  cases y with
  | agg cs'=>
   simp only [eS]at h;split at h
   ·rename_i e;subst e;injection h with h;subst h;exact⟨0,lks,rfl,rfl⟩
   ·exact step h
  | _=>exact step h
theorem mB:∀ {slots:List Slot}{tm:List SV}{r:RowI},r∈fM slots tm→∃(i:Nat) (sl:Slot),slots[i]?=some sl∧sl.row?=some (r.ty,r.s)∧tm[i]?=some (.rw r.v r.x)
 | [],tm,r,h=>by trivial
 | _ :: l,[],r,h=>by cases h
 | sl :: l,x :: m,r,h=>by
  have step:r∈fM l m→∃(i:Nat) (sl':Slot),(sl :: l)[i]?=some sl'∧sl'.row?=some (r.ty,r.s)∧(x :: m)[i]?=some (.rw r.v r.x):=fun h=>by
   obtain⟨i,t',h1,h2,h3⟩:=mB h;exact⟨i+1,t',by simp_all,h2,by simp_all⟩
  unfold fM at h;split at h
  ·rename_i ty s v y hr;rcases wv.1 h with rfl|h
   ·exact⟨0,sl,rfl,hr,rfl⟩
   ·exact step h
  ·exact step h
theorem kR {b:Nat}:∀ {slots:List Slot}{tm:List SV}{p:Nat}{c:SC},(p,c)∈cP b slots tm→∃(i:Nat) (ty:TypeId) (n v x:Nat),slots[i]?=some (.rb b p ty n)∧tm[i]?=some (.rw v x)∧c=.slr v
 | [],tm,p,c,h=>by trivial
 | sl :: l,[],p,c,h=>by simp_all [cP]
 | sl :: l,x :: m,p,c,h=>by
  have step:(p,c)∈cP b l m→∃(i:Nat) (ty:TypeId) (n v y:Nat),(sl :: l)[i]?=some (.rb b p ty n)∧(x :: m)[i]?=some (.rw v y)∧c=.slr v:=fun h=>by
   obtain⟨i,ty,n,v,y,h1,h2,h3⟩:=kR h;exact⟨i+1,ty,n,v,y,by simp_all,by simp_all,h3⟩
  unfold cP at h;split at h
  ·rename_i b' i ty n l' v y m' e1 e2;injection e1 with e1 e3;injection e2 with e2 e4;subst e1 e2 e3 e4;split at h
   ·rename_i e;subst e;rcases wv.1 h with h|h
    ·injection h with h1 h2;subst h1 h2;exact⟨0,ty,n,v,y,rfl,rfl,rfl⟩
    ·exact step h
   ·exact step h
  ·simp_all
  ·cases h
theorem gU:∀(l:List (Nat×SC)) (cs:List SC),(gH cs l).length=cs.length
 | [],_=>rfl
 | (i,c) :: l,cs=>by unfold gH;rw [gU l,List.length_set]
theorem jV:∀(l:List (Nat×SC)) (cs:List SC) (p:Nat) (c:SC),(gH cs l)[p]?=some c→(p,c)∈l∨((∀d,(p,d) ∉ l)∧cs[p]?=some c)
 | [],cs,p,c,h=>.inr ⟨fun d hd=>(by cases hd),h⟩
 | (i,d) :: l,cs,p,c,h=>by
  rcases jV l _ p c h with h|⟨h1,h2⟩ <;> grind
theorem vA {ρ ρ1 ρ':Env}(hle1:ρ.le ρ1) (hle:ρ.le ρ'):∀(xs ys zs:List SC) {vs vs1:List Value},ys.length=xs.length→zs.length=xs.length→
 (∀(p:Nat) c,zs[p]?=some c→(xs[p]?=some c∧ys[p]?=some c)∨∃d v,ys[p]?=some d∧aC ρ1 [d]=some [v]∧aC ρ' [c]=some [v])→aC ρ xs=some vs→aC ρ1 ys=some vs1→aC ρ' zs=some vs1
 | [],[],[],vs,vs1,_,_,_,_,h1=>h1
 | x :: xs,y :: ys,z :: zs,vs,vs1,l1,l2,h,h0,h1=>by
  obtain⟨u0,r0,a1,a2,rfl⟩:=cM h0;obtain⟨u1,r1,b1,b2,rfl⟩:=cM h1;have ih:=vA hle1 hle xs ys zs (by simp_all) (by simp_all) (fun p c hp=>by simpa using h (p+1) c (by simp_all)) a2 b2;refine dT ?_ ih;rcases h 0 z rfl with ⟨e1,e2⟩|⟨d,v,e1,e2,e3⟩
  ·grind [aJ]
  simp_all
 | [],y :: ys,_,_,_,l1,_,_,_,_=>by simp at l1
 | [],[],z :: zs,_,_,_,l2,_,_,_=>by simp at l2
 | x :: xs,[],_,_,_,l1,_,_,_,_=>by simp at l1
 | x :: xs,y :: ys,[],_,_,_,l2,_,_,_=>by simp at l2
theorem uH {st:St}{ρ:Env}{sv:SV}{ty:TypeId}{n:Nat}{v:Value}(h:(pO st sv ty n).den ρ=some v) :
 (∃u q A l c xs,sv=.one (.slr u)∧cW st u=some q∧q.ty=ty∧q.s=n∧ρ.val q.v=some (.slice A l c)∧ρ.kd q.v=some .slice∧ρ.val q.x=some (.agg xs)∧ρ.kd q.x=some .row∧v=.tuple #[.slice A l c,.agg xs])∨
 (sv=.one (.lit (.slice none 0 0))∧0<n∧v=.tuple #[.slice none 0 0,.agg #[]]):=by
 unfold pO at h;split at h
 ·split at h
  ·split at h
   ·simp only [SV.den]at h <;> grind
   ·cases h
  ·cases h
 ·split at h
  ·rename_i hn;injection h with h;exact .inr ⟨rfl,hn,h.symm⟩
  ·cases h
 ·cases h
theorem aTn {st:St}{sl:Slot}{ty:TypeId}{s:Nat}(h:sl.row?=some (ty,s)):sl.get st=pO st (sl.place st) ty s:=by
 cases sl <;> simp only [Slot.row?]at h <;> first|(injection h with h;injection h with h1 h2;subst h1 h2;simp only [Slot.get,Slot.place])|cases h
theorem fN {st:St}{u:Nat}{q:RowI}:∀ {slots:List Slot}{i:Nat}{sl:Slot},slots[i]?=some sl→sl.place st=.one (.slr u)→cW st u=some q→q∈dY st slots
 | [],i,sl,h,_,_=>by simp at h
 | x :: l,0,sl,h,h1,h2=>by
  simp_all [dY,lP]
 | x :: l,i+1,sl,h,h1,h2=>by
  have:=fN (slots:=l) (by simpa using h) h1 h2
  grind [dY]
theorem qZ {st:St}{u u':Nat}{q q':RowI}:∀ {slots:List Slot}{i i':Nat}{sl sl':Slot},(dY st slots).Nodup→slots[i]?=some sl→slots[i']?=some sl'→i≠i'→
 sl.place st=.one (.slr u)→cW st u=some q→sl'.place st=.one (.slr u')→cW st u'=some q'→q≠q'
 | [],i,i',sl,sl',_,h,_,_,_,_,_,_=>by simp at h
 | x :: l,0,0,sl,sl',_,_,_,hne,_,_,_,_=>absurd rfl hne
 | x :: l,0,i'+1,sl,sl',hnd,h,h',_,h1,h2,h3,h4=>by
  grind [dY,lP,fN]
 | x :: l,i+1,0,sl,sl',hnd,h,h',_,h1,h2,h3,h4=>by
  grind [dY,lP,fN]
 | x :: l,i+1,i'+1,sl,sl',hnd,h,h',hne,h1,h2,h3,h4=>
  qZ (slots:=l) (List.nodup_append.1 hnd).2.1 (by simpa using h) (by simpa using h') oq h1 h2 h3 h4
theorem nY:∀ {slots:List Slot}{tm:List SV}{f:FamI},lM slots tm=some f→∃i:Nat,slots[i]?=some (Slot.fm f.ty f.s)∧tm[i]?=some (SV.fm f.v f.x)∧0<f.s
 | [],_,_,h=>by cases h
 | _ :: _,[],_,h=>by rename_i sl _ _;cases sl <;> cases h
 | sl :: l,sv :: m,f,h=>by
  have next:lM l m=some f→∃i:Nat,(sl :: l)[i]?=some (Slot.fm f.ty f.s)∧(sv :: m)[i]?=some (SV.fm f.v f.x)∧0<f.s:=fun h=>by
   obtain⟨i,h1,h2,h3⟩:=nY h;exact⟨i+1,h1,h2,h3⟩
  cases sl with
  | fm ty s=>
   cases sv with
   | fm v x=>
    unfold lM at h;simp only at h;split at h
    ·rename_i hs;injection h with h;subst h;exact⟨0,rfl,rfl,hs⟩
    ·cases h
   | _=>exact next h
  | _=>exact next h
theorem aTm {st:St}{ρ:Env}{ty:TypeId}{s:Nat}{v:Value}(h:(Slot.get st (.fm ty s)).den ρ=some v):∃f,st.fam=some f∧(f.ty=ty∧f.s=s)∧∃vs xs:Array Value,v=.tuple #[.agg vs,.agg xs]∧ρ.val f.v=some (.agg vs)∧ρ.val f.x=some (.agg xs):=by
 unfold Slot.get at h;simp only at h;split at h
 ·rename_i f hf;split at h
  ·rename_i hs;simp only [SV.den]at h;split at h
   ·rename_i vs xs e1 _ e3 _;injection h with h;exact⟨f,hf,hs,vs,xs,h.symm,e1,e3⟩
   ·cases h
  ·cases h
 ·cases h
theorem Rel.head {st st1:St}{ρ ρ1:Env}{k0 k0' kA:Anc}{w0 k w k1 w1:World}{a a1:Act}{slots:List Slot}{ws:List Tmp}{us vs:List Value}(h0:Rel st ρ k0 w0 k a w) (h:Rel st1 ρ1 k0' w0 k1 a1 w1)
 (hw:k0'.toWorld=k0.toWorld) (hρ:k0'.ρ=ρ) (hw2:kA.toWorld=k0'.toWorld) (hρ2:kA.ρ=ρ) (hkk:kA.kk=k0'.kk) (hd:kA.d=st.depth+1) (hb:kL st slots ws st1=true)
 (hvs:argsD ρ1 (slots.map (Slot.get st1))=some vs) (hf:fitsL (aT st.kinds.length slots).2 us) (htm:argsD (ρ.ext st.kinds.length (aT st.kinds.length slots).2 us) (aT st.kinds.length slots).1=some vs) :
 Rel (dL st slots ws) (ρ.ext st.kinds.length (aT st.kinds.length slots).2 us) kA w0 k1 a1 w1:=by
 have hle:=h0.ext_le (aT st.kinds.length slots).2 us;have hle1:ρ.le ρ1:=by rw [←hρ];exact h.anc
 simp only [kL,qf,beq_iff_eq,vp,List.mem_range]at hb;obtain⟨⟨⟨⟨hlen,hkept⟩,hnodup⟩,hbt⟩,hbh⟩:=hb;have hnodup:=ow hnodup;have hkept:∀q∈iE st slots,q∈st1.rows∧q ∉ dY st1 slots:=fun q hq=>by
  have:=hkept q hq;exact⟨ow this.1,ow this.2⟩
 have hlenH:(dL st slots ws).tmps.length=st.tmps.length:=by simp [dL]
 obtain⟨htl,htg⟩:=iZ htm;obtain⟨hvl,hvg⟩:=iZ hvs;have hR:RowsOk (ρ.ext st.kinds.length (aT st.kinds.length slots).2 us) k0.heap.size k1 w1 (iE st slots++fM slots (aT st.kinds.length slots).1)∧
  ∀r∈iE st slots++fM slots (aT st.kinds.length slots).1,∀g,aD (ρ.ext st.kinds.length (aT st.kinds.length slots).2 us) r=some g→∃r0∈st1.rows,aD ρ1 r0=some g:=by
  have hr0:=h0.rows;have hr1:=h.rows;rw [hw]at hr1;have hnb:∀g,(∀b,ρ1.blk b≠some g)→∀b,(ρ.ext st.kinds.length (aT st.kinds.length slots).2 us).blk b≠some g:=fun g hg b e=>hg b (hle1.blk _ _ e)
  -- what a row of the head is in the last state
  have old:∀r∈iE st slots,(∃A n c,ρ.val r.v=some (.slice A n c)∧ρ1.val r.v=some (.slice A n c))∧RowOk (ρ.ext st.kinds.length (aT st.kinds.length slots).2 us) k0.heap.size k1 w1 r:=by
   intro r hr;have hr':r∈st.rows:=(List.mem_filter.1 hr).1;obtain⟨A,n,c,xs,a1,a2,a3,a4,a5,a6,a7,_⟩:=hr0.ok r hr';obtain⟨A',n',c',xs',b1,b2,b3,b4,b5,b6,b7,b8⟩:=hr1.ok r (hkept r hr).1;have e1:=hle1.val _ _ a1;rw [b1]at e1;injection e1 with e1;injection e1 with e1 e2 e3;subst e1 e2 e3;have e4:=hle1.val _ _ a2;rw [b2]at e4;injection e4 with e4;injection e4 with e4;subst e4;refine⟨⟨A',n',c',a1,b1⟩,A',n',c',xs',hle.val _ _ a1,hle.val _ _ a2,hle.kd _ _ a3,hle.kd _ _ a4,b5,b6,b7,b8.imp id ?_⟩;rintro⟨g,cs,rfl,g1,g2,g3,g4,g5,g6,g7⟩;exact⟨g,cs,rfl,g1,g2,g3,g4,g5,g6,hnb g g7⟩
  have new:∀r∈fM slots (aT st.kinds.length slots).1,RowOk (ρ.ext st.kinds.length (aT st.kinds.length slots).2 us) k0.heap.size k1 w1 r∧
   ∃(i:Nat) (sl:Slot),slots[i]?=some sl∧sl.row?=some (r.ty,r.s)∧(aT st.kinds.length slots).1[i]?=some (SV.rw r.v r.x)∧(aD (ρ.ext st.kinds.length (aT st.kinds.length slots).2 us) r=none∨
    ∃u q,sl.place st1=.one (.slr u)∧cW st1 u=some q∧aD ρ1 q=aD (ρ.ext st.kinds.length (aT st.kinds.length slots).2 us) r):=by
   intro r hr;obtain⟨i,sl,s1,s0,s2⟩:=mB hr;obtain⟨v,v1,v2⟩:=htg i _ s2;obtain⟨v',v1',v2'⟩:=hvg i (pO st1 (sl.place st1) r.ty r.s) (by rw [jb,s1,←aTn s0];rfl);rw [v1]at v1';injection v1' with v1';subst v1';simp only [SV.den]at v2;split at v2
   ·rename_i A l c xs e1 e2 e3 e4;injection v2 with v2;rcases uH v2' with ⟨u',q,A',l',c',xs',g1,g2,gt,gs,g3,_,g5,_,g4⟩|⟨g1,gn,g4⟩
    ·rw [←v2]at g4;injection g4 with g4;injection g4 with g4;injection g4 with g6 g7;injection g7 with g7 _;injection g7 with g7;injection g6 with g8 g9 g10;subst g7 g8 g9 g10;obtain⟨hq1,hq2⟩:=aN g2;obtain⟨A',n',c',xs',b1,b2,b3,b4,b5,b6,b7,b8⟩:=hr1.ok q hq1;rw [g3]at b1;injection b1 with b1;injection b1 with b1 b1' b1'';subst b1 b1' b1'';rw [g5]at b2;injection b2 with b2;injection b2 with b2;subst b2;refine⟨⟨A,l,c,xs,e1,e3,e2,e4,by rw [←gs];exact b5,by rw [←gs];exact b6,b7,b8.imp id ?_⟩,i,sl,s1,s0,s2,.inr ⟨u',q,g1,g2,?_⟩⟩
     ·rintro⟨g,cs,rfl,q1,q2,q3,q4,q5,q6,q7⟩;exact⟨g,cs,rfl,q1,by rw [←gt];exact q2,by rw [←gs];exact q3,q4,q5,q6,hnb g q7⟩
     ·unfold aD;rw [g3,e1]
    ·rw [←v2]at g4;injection g4 with g4;injection g4 with g4;injection g4 with g6 g7;injection g7 with g7 _;injection g7 with g7;injection g6 with g8 g9 g10;subst g7 g8 g9 g10;exact⟨⟨none,0,0,#[],e1,e3,e2,e4,gn,by simp,oy _,.inl ⟨rfl,rfl⟩⟩,i,sl,s1,s0,s2,.inl (by unfold aD;rw [e1])⟩
   ·cases v2
  have keptBlk:∀r∈iE st slots,aD (ρ.ext st.kinds.length (aT st.kinds.length slots).2 us) r=aD ρ1 r:=fun r hr=>by
   obtain⟨⟨A,n,c,e1,e2⟩,_⟩:=old r hr;unfold aD;rw [hle.val _ _ e1,e2]
  refine⟨⟨fun r hr=>?_,fun r hr r' hr' hne g hg hg'=>?_⟩,fun r hr g hg=>?_⟩
  ·rcases qd.1 hr with hr|hr
   ·exact (old r hr).2
   ·exact (new r hr).1
  ·rcases qd.1 hr with hr|hr <;> rcases qd.1 hr' with hr'|hr'
   ·rw [keptBlk r hr]at hg;rw [keptBlk r' hr']at hg';exact hr1.dist r (hkept r hr).1 r' (hkept r' hr').1 hne g hg hg'
   ·obtain⟨_,i,t,s1,s0,s2,h3⟩:=new r' hr';rcases h3 with h3|⟨u,q,q1,q2,q3⟩
    ·rw [h3]at hg';cases hg'
    ·rw [keptBlk r hr]at hg;rw [←q3]at hg';exact hr1.dist r (hkept r hr).1 q (aN q2).1 (fun e=>(hkept r hr).2 (by rw [e];exact fN s1 q1 q2)) g hg hg'
   ·obtain⟨_,i,t,s1,s0,s2,h3⟩:=new r hr;rcases h3 with h3|⟨u,q,q1,q2,q3⟩
    ·rw [h3]at hg;cases hg
    ·rw [keptBlk r' hr']at hg';rw [←q3]at hg;exact hr1.dist q (aN q2).1 r' (hkept r' hr').1 (fun e=>(hkept r' hr').2 (by rw [←e];exact fN s1 q1 q2)) g hg hg'
   ·obtain⟨_,i,t,s1,s0,s2,h3⟩:=new r hr;obtain⟨_,i',t',s1',s0',s2',h3'⟩:=new r' hr';rcases h3 with h3|⟨u,q,q1,q2,q3⟩
    ·rw [h3]at hg;cases hg
    ·rcases h3' with h3'|⟨u',q',q1',q2',q3'⟩
     ·rw [h3']at hg';cases hg'
     ·rw [←q3]at hg;rw [←q3']at hg'
      by_cases hi:i=i'
      ·subst hi;rw [s2]at s2';injection s2' with s2';injection s2' with e1 e2;rw [s1]at s1';injection s1' with s1';subst s1';rw [s0]at s0';injection s0' with s0';injection s0' with e3 e4;apply hne;cases r;cases r';simp_all
      ·exact hr1.dist q (aN q2).1 q' (aN q2').1 (qZ hnodup s1 s1' hi q1 q2 q1' q2') g hg hg'
  ·rcases qd.1 hr with hr|hr
   ·exact⟨r,(hkept r hr).1,by rw [←keptBlk r hr];exact hg⟩
   ·obtain⟨_,i,t,s1,s0,s2,h3⟩:=new r hr;rcases h3 with h3|⟨u,q,q1,q2,q3⟩
    ·rw [h3]at hg;cases hg
    ·exact⟨q,(aN q2).1,by rw [q3];exact hg⟩
 exact
  { anc:=by rw [hρ2];exact hle
    up:=by rw [hkk];exact h.up
    dep:=by rw [hd];exact oy _
    env:=h0.ext_ok hf
    kinds:=fun i=>by
     show (if i<st.kinds.length then ρ.kd i else (aT st.kinds.length slots).2[i-st.kinds.length]?)=(st.kinds++(aT st.kinds.length slots).2)[i]?;rw [jn];split
     ·exact h0.kinds i
     ·rfl
    vals:=fun i hi=>by
     have hi':st.kinds.length+(aT st.kinds.length slots).2.length≤i:=by simpa [dL] using hi
     show (if i<st.kinds.length then ρ.val i else us[i-st.kinds.length]?)=none;rw [oh oq];exact ob (by have:=(bZ hf).1;omega)
    blks:=fun b hb'=>h0.blks b (by simpa [dL] using hb')
    inj:=by rw [hw2,hw];exact h0.inj
    size:=by rw [hlenH,h.size,hlen]
    tmps:=fun t=>by
     by_cases hlt:t<st.tmps.length
     ·have e1:(dL st slots ws).tm t=(match dP t slots (aT st.kinds.length slots).1 with|some sv=>sv|none=>if ws.contains t then .top else st.tm t):=by
       exact Tab.get_lt (b:=(dL st slots ws).tmps) hlt
      rw [e1];have hok1:=h.tmps t;split
      ·rename_i sv hfind;rcases eF hfind with ⟨i,agg,lks,s1,s2⟩|⟨i,ty,n,u,s1,s2,s3⟩
       rotate_left
       ·obtain⟨v,v1,v2⟩:=htg i u s2;obtain⟨v',v1',v2'⟩:=hvg i (Slot.get st1 (.rw t ty n)) (by rw [jb,s1];rfl);rw [v1]at v1';injection v1' with v1';subst v1';subst s3;cases u with
        | rw y x=>
         simp only [SV.den]at v2;split at v2
         ·rename_i A l c xs e1 e2 e3 e4;injection v2 with v2;have hyd:(SV.one (.slr y)).den (ρ.ext st.kinds.length (aT st.kinds.length slots).2 us)=some (.slice A l c):=by
           simp only [SV.den,SC.den,e1]
          rcases uH v2' with ⟨u',q,A',l',c',xs',g1,g2,_,_,g3,_,_,_,g4⟩|⟨g1,_,g4⟩
          ·rw [←v2]at g4;injection g4 with g4;injection g4 with g4;injection g4 with g4 _;rcases hok1 with hok1|hok1
           ·rw [g1]at hok1;cases hok1
           ·rw [g1]at hok1;have hq2:=(aN g2).2;rw [hq2]at g3;simp only [SV.den,SC.den,g3]at hok1;injection hok1 with hok1;refine .inr ?_;show (SV.one (.slr y)).den _=_;rw [hyd,←hok1,g4]
          ·rw [←v2]at g4;injection g4 with g4;injection g4 with g4;injection g4 with g4 _;rcases hok1 with hok1|hok1
           ·rw [g1]at hok1;cases hok1
           ·rw [g1]at hok1;simp only [SV.den,SC.den]at hok1;injection hok1 with hok1;refine .inr ?_;show (SV.one (.slr y)).den _=_;rw [hyd,←hok1,g4]
         ·cases v2
        | _=>exact .inl rfl
       obtain⟨v,v1,v2⟩:=htg i sv s2;obtain⟨v',v1',v2'⟩:=hvg i (st1.tm t) (by rw [jb,s1];rfl);rw [v1]at v1';injection v1' with v1';subst v1';rcases hok1 with hok1|hok1
       ·rw [hok1]at v2';cases v2'
       ·rw [hok1]at v2';injection v2' with v2';subst v2';exact .inr v2
      ·rename_i hfind;split
       ·exact .inl rfl
       ·rename_i hws;have hs:=hbt t hlt;simp only [hfind,Option.isSome_none,Bool.false_or,we]at hs;have hs:=aQk (hs.resolve_left hws);rw [hs]at hok1;rcases h0.tmps t with h2|h2
        ·exact .inl h2
        ·rcases hok1 with h3|h3
         ·exact .inl h3
         ·have:=SV.den_le hle1 h2;rw [h3]at this;injection this with this;refine .inr ?_;rw [this];exact SV.den_le hle h2
     ·have hge:st.tmps.length≤t:=zw hlt;have e1:(dL st slots ws).tm t=bL:=by
       exact Tab.get_ge (b:=(dL st slots ws).tmps) hge
      have e2:a1.tmps.getD t undef=undef:=by
       rw [jv,zq (by rw [h.size,hlen];exact hge)];rfl
      rw [e1,e2];exact .inr rfl
    defers:=h.defers
    sees:=h.sees
    base:=by rw [hw2];exact h.base
    kb:=by rw [hw2];exact h.kb
    wb:=h.wb
    heap:=fun b blk hblk=>by
     rw [hw2];unfold dL at hblk;simp only [List.getElem?_mapIdx]at hblk;cases hx:st.heap[b]? with
     | none=>rw [hx]at hblk;cases hblk
     | some x=>
      rw [hx]at hblk;simp only [je,jy]at hblk;have hblt:b<st.heap.length:=(qe.1 hx).1;have hs:=hbh b hblt;rw [hx]at hs;cases hy:st1.heap[b]? with
      | none=>rw [hy]at hs;cases hs
      | some y=>
       rw [hy]at hs;simp only [qf,beq_iff_eq]at hs;obtain⟨⟨⟨e1,e2⟩,e3⟩,e4⟩:=hs;obtain⟨n0,vs0,f1,f2,f3,f4,f5⟩:=h0.heap b x hx;obtain⟨n1,vs1,g1,g2,g3,g4,g5⟩:=h.heap b y hy;have hn:=hle1.blk _ _ f1;rw [g1]at hn;injection hn with hn;subst hn;cases hfind:eS b slots (aT st.kinds.length slots).1 with
       | some cs=>
        rw [hfind]at hblk e4;simp only [Option.isSome_some,if_true,Bool.not_eq_true']at e4;simp only at hblk;subst hblk;obtain⟨i,lks,s1,s2⟩:=eE hfind;obtain⟨v,v1,v2⟩:=htg i _ s2;obtain⟨v',v1',v2'⟩:=hvg i (.agg y.cells) (by rw [jb,s1];simp [Slot.get,hy]);rw [v1]at v1';injection v1' with v1';subst v1';simp only [bU,SV.den,g2]at v2';injection v2' with v2';simp only [bU,SV.den]at v2;split at v2
        ·rename_i us' hus;injection v2 with v2;rw [←v2']at v2;injection v2 with v2;have:us'=vs1:=by
          have:=congrArg Array.toList v2;simpa using this
         subst this;refine⟨n1,us',f1,hus,by rw [e1];exact g3,fun _=>?_,fun hp=>?_⟩
         ·rw [hw];exact⟨(f4 e4).1,(g4 (by rw [←e2];exact e4)).2⟩
         ·have hp':x.pub=true:=hp;rw [e4]at hp';cases hp'
        ·cases v2
       | none=>
        rw [hfind]at hblk e4;simp only [Option.isSome_none,xu,if_false,qf]at e4;simp only at hblk;subst hblk;have hcells:=oO e4.1;have hlens:x.cells.length=y.cells.length:=by rw [←gU (cP b slots (aT st.kinds.length slots).1) x.cells,hcells,gU]
        have hv:=vA hle1 hle x.cells y.cells (gH x.cells (cP b slots (aT st.kinds.length slots).1)) hlens.symm (gU _ _) (fun p c hp=>by
         rcases jV _ _ _ _ hp with hl|⟨hl,hx'⟩
         ·obtain⟨i,ty,n,v,z,s1,s2,rfl⟩:=kR hl
          right
          obtain⟨va,v1,v2⟩:=htg i _ s2;obtain⟨vb,v1',v2'⟩:=hvg i (Slot.get st1 (.rb b p ty n)) (by rw [jb,s1];rfl);rw [v1]at v1';injection v1' with v1';subst v1';simp only [SV.den]at v2;split at v2
          ·rename_i A l c xs e1 _ _ _;injection v2 with v2;have hz:aC (ρ.ext st.kinds.length (aT st.kinds.length slots).2 us) [.slr v]=some [.slice A l c]:=by
            simp only [aC,SC.scalar,if_true,SC.den,e1]
           have hsv:∀d,wU st1 b p=.one d→y.cells[p]?=some d:=fun d hd=>by
            unfold wU at hd;rw [hy]at hd;simp only at hd;split at hd
            ·rename_i d' hd';injection hd with hd;subst hd;exact hd'
            ·cases hd
           rcases uH v2' with ⟨u',q,A',l',c',xs',g1,g2,_,_,g3,_,_,_,g4⟩|⟨g1,_,g4⟩
           ·rw [←v2]at g4;injection g4 with g4;injection g4 with g4;injection g4 with g4 _;have hq2:=(aN g2).2;rw [hq2]at g3;exact⟨_,_,hsv _ g1,by simp only [aC,SC.scalar,if_true,SC.den,g3];rw [←g4],hz⟩
           ·rw [←v2]at g4;injection g4 with g4;injection g4 with g4;injection g4 with g4 _;exact⟨_,_,hsv _ g1,by simp only [aC,SC.scalar,Value.scalar,if_true,SC.den];rw [←g4],hz⟩
          ·cases v2
         ·left
          refine⟨hx',?_⟩;rw [hcells]at hp;rcases jV _ _ _ _ hp with hl2|⟨_,hy'⟩
          ·exact absurd hl2 (hl _)
          ·exact hy') f2 g2
        refine⟨n1,vs1,f1,hv,by rw [e1];exact g3,fun hp=>?_,fun hp=>?_⟩
        ·rw [hw];exact⟨(f4 hp).1,(g4 (by rw [←e2];exact hp)).2⟩
        ·obtain⟨c1,c2⟩:=g5 (by rw [←e2];exact hp);exact⟨by rw [e1];exact c1,hle.val _ _ (f5 hp).2⟩
    mem:=fun A v hv=>h.mem A v (hle1.mem A v hv)
    rows:=by rw [hw2,hw];exact hR.1
    fam:=by
     rw [hw2,hw];intro f hf0;obtain⟨i,s1,s2,hs0⟩:=nY hf0;obtain⟨v,v1,v2⟩:=htg i _ s2;obtain⟨v',v1',v2'⟩:=hvg i (Slot.get st1 (.fm f.ty f.s)) (by rw [jb,s1];rfl);rw [v1]at v1';injection v1' with v1';subst v1';simp only [SV.den]at v2;split at v2
     ·rename_i vs xs e1 e2 e3 e4;injection v2 with v2;obtain⟨f1,g1,g2,vs2,xs2,g3,g4,g5⟩:=aTm v2';obtain⟨vs1,xs1,a1,a2,_,_,_,hB⟩:=h.famAt g1;rw [g4]at a1;injection a1 with a1;injection a1 with a1;rw [g5]at a2;injection a2 with a2;injection a2 with a2;rw [←v2]at g3;injection g3 with g3;injection g3 with g3;injection g3 with g6 g7;injection g6 with g6;injection g7 with g7 _;injection g7 with g7;rw [hw,g2.1,g2.2,←a1,←a2,←g6,←g7]at hB;exact⟨_,_,e1,e3,e2,e4,hs0,hB.mono (fun b g e _=>⟨b,hle1.blk _ _ e⟩) (fun _ e _ _=>e) (fun _ _ _ _=>rfl) fun r hr g hg=>.inr (hR.2 r hr g hg)⟩
     ·cases v2 }
theorem Rel.refine {st:St}{ρ:Env}{k0:Anc}{w0 k w:World}{a:Act}(h:Rel st ρ k0 w0 k a w) {t:Tmp}{b:Bool}(hb:a.tmps.getD t undef=.bool b):Rel (st.put (some t) (.one (.lit (.bool b)))) ρ k0 w0 k a w:=by
 have:=h.put (some t) (v:=.one (.lit (.bool b))) (x:=.bool b) (.inr rfl);have e:a.put (some t) (.bool b)=a:=by
  unfold Act.put;have:a.tmps.setIfInBounds t (.bool b)=a.tmps:=by
   apply jc;intro i
   by_cases e:t=i
   ·by_cases hl:t<a.tmps.size <;> simp_all
   simp_all
  simp_all
 simp_all
structure Agree (d:Nat) (R R':Ctx):Prop where
 res:R'.R=R.R
 ag:∀j,j<d→R'.ag j=R.ag j
theorem Agree.refl (d:Nat) (R:Ctx):Agree d R R:=⟨rfl,fun _ _=>rfl⟩
theorem Agree.trans {d d':Nat}{A B C:Ctx}(h:Agree d A B) (h':Agree d' B C) (hd:d≤d'):Agree d A C:=
 ⟨h'.res.trans h.res,fun j hj=>(h'.ag j (qy hj hd)).trans (h.ag j hj)⟩
theorem zX (hm:P.follows .mixedOrders=true) {ops:Array Oper}{id:Nat}{K:St→T}{Q:Exit→Act→World→Prop}{R:Ctx}{k0:Anc}{w0:World}
 (hK:∀st' ρ' k' a' w',Rel st' ρ' k0 w0 k' a' w'→(K st').den P R ρ'.bare k'→Q .normal a' w') {st:St}{ρ:Env}{k w:World}{a:Act}{n:Nat}(h:Rel st ρ k0 w0 k a w)
 (hT:(aZ P cfg ops (masks ops) n (Array.replicate ops.size false) [] st K).den P R ρ.bare k):(Code.region id ops true).wp P Q a w:=by
 refine wp_region_any hm ?_;have hd:=h.drew (w.drawn+1);have hget:∀i,¬ ((Array.replicate ops.size false).getD i false=true):=fun i=>by
  rw [jv,vz];split <;> simp
 have hrel:DRel P ops [] st (fun i=>(Array.replicate ops.size false).getD i false=true) st.heap.length ρ k0 w0 k a { w with drawn:=w.drawn+1 }:=
  { anc:=hd.anc
    up:=hd.up
    dep:=hd.dep
    env:=hd.env
    kinds:=hd.kinds
    vals:=hd.vals
    inj:=hd.inj
    size:=hd.size
    defers:=hd.defers
    sees:=hd.sees
    base:=hd.base
    kb:=hd.kb
    wb:=hd.wb
    lt:=fun b n hb=>by
     rcases zb b st.heap.length with hlt|hge
     ·obtain⟨n',vs,h1,_,h3,_⟩:=hd.heap b _ (qi hlt);rw [hb]at h1;injection h1 with h1;subst h1;exact h3.lt
     ·rw [hd.blks b hge]at hb;cases hb
    nb:=fun p=>by unfold dS;simp
    blks:=fun b n hb=>by
     rcases zb b st.heap.length with hlt|hge
     ·exact .inl hlt
     ·rw [hd.blks b hge]at hb;cases hb
    tmps:=fun t p hp _=>by
     have:p=0:=by simpa using hp
     subst this;exact hd.tmps t
    heap:=fun b p hp _=>by
     have:p=0:=by simpa using hp
     subst this;exact hd.heap b
    uniq:=fun q q' s s' e e' h1=>by simp at h1
    conf:=fun q q' s s' e e' _ h1=>by simp at h1
    pend:=fun q s e h1=>by simp at h1
    dsub:=fun i hi=>absurd hi (hget i)
    dcl:=fun i o _ hi=>absurd hi (hget i)
    pubs:=fun p=>by
     have:dS [] st p=st:=by unfold dS;simp
     rw [this];exact hd.pubOk
    fw:=fun q s oe h1=>by simp at h1
    mem:=hd.mem
    rows:=hd.rows
    fam:=hd.fam
    rowsEq:=fun q s e h1=>by simp at h1 }
 have hE:EOk ops (Array.replicate ops.size false) []:=⟨by simp,fun i=>⟨fun hh=>absurd hh (hget i),fun ⟨q,s,e,h1,_⟩=>by simp at h1⟩,fun q s e o h1=>by simp at h1⟩;obtain⟨E',H',st',_,_,a1,a2,a3⟩:=advance n hrel hE hT;refine aCm hK ops.size (by simp) ?_ a1 a2 a3;simp
theorem aTi {c:SC}{ν:Env}{k:IntKind}{i:Int}(h:(SC.bin 0 .eql c (.lit (.int k i))).den ν=some (.bool true)):c.den ν=some (.int k i):=by
 simp only [SC.den]at h;split at h
 ·rename_i x y h1 h2;injection h2 with h2;subst h2;cases x <;> simp only [eL]at h <;> try cases h
  simp_all
 ·cases h
theorem Rel.refineV {st:St}{ρ:Env}{k0:Anc}{w0 k w:World}{a:Act}(h:Rel st ρ k0 w0 k a w) {t:Tmp}{b:Value}(hb:a.tmps.getD t undef=b):Rel (st.put (some t) (.one (.lit b))) ρ k0 w0 k a w:=by
 have:=h.put (some t) (v:=.one (.lit b)) (x:=b) (.inr rfl);have e:a.put (some t) b=a:=by
  unfold Act.put;have:a.tmps.setIfInBounds t b=a.tmps:=by
   apply jc;intro i
   by_cases e:t=i
   ·by_cases hl:t<a.tmps.size <;> simp_all
   simp_all
  simp_all
 simp_all
theorem oS {t:Tmp}{K:St→T}{R:Ctx}{k0:Anc}{w0 w k:World}{a:Act}{st:St}{ρ:Env}(h:Rel st ρ k0 w0 k a w):∀ {vs:List Int},(yM t (vs.map fun i=>.int .i64 i) st K).den P R ρ.bare k→
 ∃st',Rel st' ρ k0 w0 k a w∧(K st').den P R ρ.bare k
 | [],hT=>hT.elim
 | v :: vs,hT=>by
  simp only [zr,yM]at hT;split at hT
  ·unfold T.den at hT;split at hT
   ·rename_i b hb;cases b with
    | false=>exact oS h (hT.2 rfl)
    | true=>
     refine⟨_,h.refineV (t:=t) (b:=.int .i64 v) ?_,hT.1 rfl⟩;have h1:=aTi hb;have h2:=h.tmps t;rcases h2 with h2|h2 <;> grind [SV.den,SC.den_le,Env.bare_le]
   simp_all
  trivial
theorem yL {cfg:Cfg}{lid:Nat}{K:St→T}{R:Ctx}{k0:Anc}{w0 w k:World}{a:Act}{st:St}{ρ:Env}(h:Rel st ρ k0 w0 k a w) (hT:(aEh cfg lid st K).den P R ρ.bare k) :
 ∃st',Rel st' ρ k0 w0 k a w∧(K st').den P R ρ.bare k:=by
 grind [aEh,oS]
theorem iJ {K:St→T}{R:Ctx}{k0:Anc}{w0 w:World}{a:Act}:∀ {xs:List Operand}{st:St}{ρ:Env}{k:World},Rel st ρ k0 w0 k a w→(aDk xs st K).den P R ρ.bare k→
 ∃st' ρ' k',Rel st' ρ' k0 w0 k' a w∧(K st').den P R ρ'.bare k'
 | [],st,ρ,k,h,hT=>⟨st,ρ,k,h,hT⟩
 | x :: xs,st,ρ,k,h,hT=>by
  unfold aDk at hT;split at hT
  ·rename_i b hx;split at hT
   ·rename_i blk hb;split at hT
    ·exact iJ h hT
    ·have hp':blk.pub=false:=by simp_all
     obtain⟨n,vs',g1,g2,g3,g4,g5⟩:=h.heap b blk hb;unfold T.den at hT;split at hT
     ·rename_i us hus;have:=aJ (Env.bare_le ρ) hus;rw [g2]at this;injection this with this;subst this;obtain⟨k',u1,u2,u3⟩:=h.pub hb hp' g1 g2;exact iJ u3.at (hT n k' u1 u2)
     simp_all
   ·exact iJ h hT
  ·exact iJ h hT
theorem mR (hm:P.follows .mixedOrders=true):∀(c:Code) {lid:Nat}{st:St}{ρ:Env}{k0:Anc}{w0 k w:World}{a:Act}{K:SExit→St→T}{Q:Exit→Act→World→Prop}{R:Ctx},
 (∀R' e st' ρ' k' a' w',Agree k0.d R R'→Rel st' ρ' k0 w0 k' a' w'→(K e st').den P R' ρ'.bare k'→Q e.to a' w')→
 Rel st ρ k0 w0 k a w→(exec P cfg lid c st K).den P R ρ.bare k→c.wp P Q a w:=by
 intro c
 induction c with
 | skip=>intro lid st ρ k0 w0 k w a K Q R hK h hT;exact wp_skip (hK R .normal _ _ _ _ _ (Agree.refl _ _) h hT)
 | region id ops draw=>
  intro lid st ρ k0 w0 k w a K Q R hK h hT;unfold exec at hT;obtain⟨st,ρ,k,h,hT⟩:=fA h hT;have hK:∀(R':Ctx) st' ρ' k' a' w',Agree k0.d R R'→Rel st' ρ' k0 w0 k' a' w'→(mT (aFe cfg id true) st' (K .normal)).den P R' ρ'.bare k'→Q .normal a' w':=fun R' st' ρ' k' a' w' hA h' hT'=>by
   obtain⟨st2,ρ2,k2,h2,hT2⟩:=fA h' hT';exact hK R' .normal _ _ _ _ _ hA h2 hT2
  cases draw with
  | true=>
   obtain⟨st0,ρ0,k0',h0,hT0⟩:=cZ h hT;obtain⟨st1,ρ1,k1,h1,hT1⟩:=iJ h0 hT0;rw [vI _ Bits.init Ents.nil]at hT1;exact zX hm (fun st' ρ' k' a' w' h' hT'=>hK R _ _ _ _ _ (Agree.refl _ _) h' hT') h1 hT1
  | false=>
   simp only [xu,if_false]at hT;unfold aWm at hT;split at hT
   ·exact wp_region (fR (fun st' ρ' k' a' w' h' hT'=>hK R _ _ _ _ _ (Agree.refl _ _) h' hT') _ h hT)
   ·rename_i _ slots _;unfold T.den at hT;obtain⟨φ,ha,hb⟩:=hT
    let kA:Anc:={ toWorld:=k0.toWorld,ρ:=ρ,kk:=k,d:=st.depth+1 }
    let kB:Anc:={ toWorld:=k0.toWorld,ρ:=ρ,kk:=k,d:=0 }
    refine wp_region (fR (k0:=kB) (fun st1 ρ1 k1 a1 w1 h1 hT1=>?_) _ { h with anc:=Env.le.refl ρ,up:=Up.refl k,dep:=jx _ } ha);split at hT1
    ·rename_i hbk;unfold T.den at hT1;split at hT1
     ·rename_i vs hvs;have hag:φ k1 vs:=by
       have:=hT1 k1 (Up.refl k1);have e:(R.push st.depth φ).ag st.depth=φ:=og rfl
       rwa [e]at this
      obtain⟨us,hf,ht,hden⟩:=aR (hb k1 vs h1.up hag);have hhead:Rel (dL st slots (ops.toList.filterMap (·.dst))) (ρ.ext st.kinds.length (aT st.kinds.length slots).2 us) kA w0 k1 a1 w1:=
       Rel.head (k0':=kB) h h1 rfl rfl rfl rfl rfl rfl hbk (aX (Env.bare_le _) hvs) hf (aX (Env.bare_le _) ht)
      have h':=hhead.at
      have hconv:Rel (dL st slots (ops.toList.filterMap (·.dst))) ((ρ.ext st.kinds.length (aT st.kinds.length slots).2 us).at k1) k0 w0 k1 a1 w1:=
       { anc:=h.anc.trans h'.anc,up:=h.up.trans h'.up,dep:=qr h.dep (qr (Nat.le_succ _) h'.dep),env:=h'.env,kinds:=h'.kinds,vals:=h'.vals,blks:=h'.blks,inj:=h'.inj,size:=h'.size,tmps:=h'.tmps,
         defers:=h'.defers,sees:=h'.sees,base:=h'.base,kb:=h'.kb,wb:=h'.wb,heap:=h'.heap,mem:=h'.mem,rows:=h'.rows,fam:=h'.fam }
      exact hK R _ _ _ _ _ (Agree.refl _ _) hconv hden
     ·exact hT1.elim
    ·exact hT1.elim
 | seq x y ihx ihy=>
  intro lid st ρ k0 w0 k w a K Q R hK h hT;unfold exec at hT;refine wp_seq (ihx ?_ h hT);intro R' e st' ρ' k' a' w' hA h' hT';cases e with
  | normal=>exact ihy (fun R2 e2 st2 ρ2 k2 a2 w2 hA2=>hK R2 e2 st2 ρ2 k2 a2 w2 (hA.trans hA2 (oy _))) h' hT'
  | exit id=>exact hK R' (.exit id) _ _ _ _ _ hA h' hT'
  | ret=>exact hK R' .ret _ _ _ _ _ hA h' hT'
 | cond c x y ihx ihy=>
  intro lid st ρ k0 w0 k w a K Q R hK h hT;unfold exec at hT;have hev:∀sv,opnd st.tm c=sv→sv≠.top→sv.den ρ=some (a.eval c):=fun sv e hne=>by
   rw [←e];exact iA (fun t _=>h.tmps t) (by rw [e];exact hne)
  split at hT
  ·rename_i hc;have:=hev _ hc (by simp);simp only [SV.den,SC.den]at this;injection this with this;exact wp_cond_true this.symm (ihx hK h hT)
  ·rename_i hc;have:=hev _ hc (by simp);simp only [SV.den,SC.den]at this;injection this with this;exact wp_cond_false this.symm (ihy hK h hT)
  ·rename_i i hc;have hv:=hev _ hc (by simp);simp only [SV.den]at hv;split at hT
   ·unfold T.den at hT;split at hT
    ·rename_i b hb;have hb':=SC.den_le (Env.bare_le ρ) hb;have hval:ρ.val i=some (.bool b):=by
      simp only [SC.den]at hb';split at hb'
      ·cases hb'
      ·cases hb'
      ·exact hb'
     rw [hb']at hv;injection hv with hv;cases b with
     | true=>exact wp_cond_true hv.symm (ihx hK (h.sb hval) (hT.1 rfl))
     | false=>exact wp_cond_false hv.symm (ihy hK (h.sb hval) (hT.2 rfl))
    ·exact hT.elim
   split at hT
   ·rename_i t;unfold T.den at hT;split at hT
    ·rename_i b hb;rw [SC.den_le (Env.bare_le ρ) hb]at hv;injection hv with hv;cases b with
     | true=>exact wp_cond_true hv.symm (ihx hK (h.refine hv.symm) (hT.1 rfl))
     | false=>exact wp_cond_false hv.symm (ihy hK (h.refine hv.symm) (hT.2 rfl))
    ·exact hT.elim
   ·unfold T.den at hT;split at hT
    ·rename_i b hb;rw [SC.den_le (Env.bare_le ρ) hb]at hv;injection hv with hv;cases b with
     | true=>exact wp_cond_true hv.symm (ihx hK h (hT.1 rfl))
     | false=>exact wp_cond_false hv.symm (ihy hK h (hT.2 rfl))
    ·exact hT.elim
  ·rename_i sc _ _ _ hc;have hv:=hev _ hc (by simp);simp only [SV.den]at hv;split at hT
   ·rename_i t;unfold T.den at hT;split at hT
    ·rename_i b hb;rw [SC.den_le (Env.bare_le ρ) hb]at hv;injection hv with hv;cases b with
     | true=>exact wp_cond_true hv.symm (ihx hK (h.refine hv.symm) (hT.1 rfl))
     | false=>exact wp_cond_false hv.symm (ihy hK (h.refine hv.symm) (hT.2 rfl))
    ·exact hT.elim
   ·unfold T.den at hT;split at hT
    ·rename_i b hb;rw [SC.den_le (Env.bare_le ρ) hb]at hv;injection hv with hv;cases b with
     | true=>exact wp_cond_true hv.symm (ihx hK h (hT.1 rfl))
     | false=>exact wp_cond_false hv.symm (ihy hK h (hT.2 rfl))
    ·exact hT.elim
  ·exact hT.elim
 | block id c ih=>
  intro lid st ρ k0 w0 k w a K Q R hK h hT;unfold exec at hT;split at hT
  ·rename_i _ slots _;unfold T.den at hT;obtain⟨φ,ha,hb⟩:=hT
   let kA:Anc:={ toWorld:=k0.toWorld,ρ:=ρ,kk:=k,d:=st.depth+1 }
   let kB:Anc:={ toWorld:=k0.toWorld,ρ:=ρ,kk:=k,d:=0 }
   have hstart:Rel { st with depth:=st.depth+1 } ρ kA w0 k a w:={ h with anc:=Env.le.refl ρ,up:=Up.refl k,dep:=oy _ };refine wp_block (ih (k0:=kA) ?_ hstart ha);intro R' e st1 ρ1 k1 a1 w1 hA h1 hT1
   have hA0:Agree k0.d R R':=⟨hA.res,fun j hj=>by
    have hd:=h.dep;rw [hA.ag j (show j<st.depth+1 by omega)];show (if j=st.depth then _ else R.ag j)=R.ag j
    rw [oh oq]⟩
   have hconv:Rel st1 ρ1 k0 w0 k1 a1 w1:=
    { anc:=h.anc.trans h1.anc,up:=h.up.trans h1.up,dep:=qr h.dep (qr (Nat.le_succ _) h1.dep),env:=h1.env,kinds:=h1.kinds,vals:=h1.vals,blks:=h1.blks,inj:=h1.inj,size:=h1.size,tmps:=h1.tmps,
      defers:=h1.defers,sees:=h1.sees,base:=h1.base,kb:=h1.kb,wb:=h1.wb,heap:=h1.heap,mem:=h1.mem,rows:=h1.rows,fam:=h1.fam }
   have meet:(aFk st slots (cG c) st1).den P R' ρ1.bare k1→Q .normal a1 w1:=fun hT1=>by
    unfold aFk at hT1;split at hT1
    ·rename_i hbk;unfold T.den at hT1;split at hT1
     ·rename_i vs hvs;have hag:=hT1 k1 (Up.refl k1);rw [hA.ag st.depth (zp _)]at hag;have hag:(if st.depth=st.depth then φ else R.ag st.depth) k1 vs:=hag;rw [og rfl]at hag;obtain⟨us,hf,ht,hden⟩:=aR (hb k1 vs h1.up hag);have h1':Rel st1 ρ1 kB w0 k1 a1 w1:={ h1 with dep:=jx _ };have hhead:Rel (dL st slots (cG c)) (ρ.ext st.kinds.length (aT st.kinds.length slots).2 us) kA w0 k1 a1 w1:=
       Rel.head (k0':=kB) h h1' rfl rfl rfl rfl rfl rfl hbk (aX (Env.bare_le _) hvs) hf (aX (Env.bare_le _) ht)
      have h':=hhead.at
      have hc2:Rel (dL st slots (cG c)) ((ρ.ext st.kinds.length (aT st.kinds.length slots).2 us).at k1) k0 w0 k1 a1 w1:=
       { anc:=h.anc.trans h'.anc,up:=h.up.trans h'.up,dep:=qr h.dep (qr (Nat.le_succ _) h'.dep),env:=h'.env,kinds:=h'.kinds,vals:=h'.vals,blks:=h'.blks,inj:=h'.inj,size:=h'.size,tmps:=h'.tmps,
         defers:=h'.defers,sees:=h'.sees,base:=h'.base,kb:=h'.kb,wb:=h'.wb,heap:=h'.heap,mem:=h'.mem,rows:=h'.rows,fam:=h'.fam }
      exact hK R .normal _ _ _ _ _ (Agree.refl _ _) hc2 hden
     ·exact hT1.elim
    ·exact hT1.elim
   cases e with
   | normal=>exact meet hT1
   | exit i=>
    show Exit.inBlock id Q (.exit i) a1 w1;simp only [Exit.inBlock];simp only at hT1;split at hT1
    ·rename_i e;rw [og e];exact meet hT1
    ·rename_i e;rw [oh e];exact hK R' (.exit i) _ _ _ _ _ hA0 hconv hT1
   | ret=>exact hK R' .ret _ _ _ _ _ hA0 hconv hT1
  ·refine wp_block (ih ?_ h hT);intro R' e st' ρ' k' a' w' hA h' hT';cases e with
   | normal=>exact hK R' .normal _ _ _ _ _ hA h' hT'
   | exit i=>
    show Exit.inBlock id Q (.exit i) a' w';simp only [Exit.inBlock];simp only at hT';split at hT'
    ·rename_i e;rw [og e];exact hK R' .normal _ _ _ _ _ hA h' hT'
    ·rename_i e;rw [oh e];exact hK R' (.exit i) _ _ _ _ _ hA h' hT'
   | ret=>exact hK R' .ret _ _ _ _ _ hA h' hT'
 | exit id=>intro lid st ρ k0 w0 k w a K Q R hK h hT;exact wp_exit (hK R (.exit id) _ _ _ _ _ (Agree.refl _ _) h hT)
 | ret=>intro lid st ρ k0 w0 k w a K Q R hK h hT;exact wp_ret (hK R .ret _ _ _ _ _ (Agree.refl _ _) h hT)
 | loop c ih=>
  intro lid st ρ k0 w0 k w a K Q R hK h hT;unfold exec at hT;split at hT
  ·rename_i lid' slots hfind;obtain⟨st,ρ,k,h,hT⟩:=cZ h hT;simp only at hT;split at hT
   ·exact hT.elim
   rename_i hback;have hback:kL st slots (cG c) st=true:=by simpa using hback
   unfold T.den at hT;split at hT
   ·rename_i vs hvs;obtain⟨I,⟨n0,hI0⟩,hbody⟩:=hT
    let kA:Anc:={ toWorld:=k0.toWorld,ρ:=ρ,kk:=k,d:=st.depth+1 }
    let kB:Anc:={ toWorld:=k0.toWorld,ρ:=ρ,kk:=k,d:=0 }
    have key:∀(N n:Nat) {st1:St}{ρ1:Env}{k1 w1:World}{a1:Act}{vs1:List Value},n<N→Rel st1 ρ1 kB w0 k1 a1 w1→kL st slots (cG c) st1=true→
     argsD ρ1 (slots.map (Slot.get st1))=some vs1→I n k1 vs1→Code.rounds P c Q N a1 w1:=by
     intro N
     induction N with
     | zero=>intro n st1 ρ1 k1 w1 a1 vs1 hn;omega
     | succ N ihN=>
      intro n st1 ρ1 k1 w1 a1 vs1 hn h1 hb hv hI;rw [rounds_succ];obtain⟨us,hf,ht,hden⟩:=aR (hbody n k1 vs1 h1.up hI);have hhead:Rel (dL st slots (cG c)) (ρ.ext st.kinds.length (aT st.kinds.length slots).2 us) kA w0 k1 a1 w1:=
       Rel.head (k0':=kB) h h1 rfl rfl rfl rfl rfl rfl hb hv hf (aX (Env.bare_le _) ht)
      obtain⟨stS,hheadS,hden⟩:=yL hhead.at hden;refine ih ?_ hheadS hden;intro R' e st' ρ' k' a' w' hA h' hT'
      have hA0:Agree k0.d R R':=⟨hA.res,fun j hj=>by
       have hd:=h.dep;rw [hA.ag j (show j<st.depth+1 by omega)];show (if j=st.depth then _ else R.ag j)=R.ag j
       rw [oh oq]⟩
      have hconv:Rel st' ρ' k0 w0 k' a' w':=
       { anc:=h.anc.trans h'.anc,up:=h.up.trans h'.up,dep:=qr h.dep (qr (Nat.le_succ _) h'.dep),env:=h'.env,kinds:=h'.kinds,vals:=h'.vals,blks:=h'.blks,inj:=h'.inj,size:=h'.size,tmps:=h'.tmps,
         defers:=h'.defers,sees:=h'.sees,base:=h'.base,kb:=h'.kb,wb:=h'.wb,heap:=h'.heap,mem:=h'.mem,rows:=h'.rows,fam:=h'.fam }
      cases e with
      | normal=>
       simp only at hT';split at hT'
       ·rename_i hb';unfold T.den at hT';split at hT'
        ·rename_i vs2 hv2;have hag:=hT' k' (Up.refl k');rw [hA.ag st.depth (zp _)]at hag;have hag:(if st.depth=st.depth then (fun (k'':World) (vs'':List Value)=>∃m,m<n∧I m k'' vs'') else R.ag st.depth) k' vs2:=hag;rw [og rfl]at hag;obtain⟨m,hm',hI'⟩:=hag;show Code.rounds P c Q N a' w';exact ihN m oq { h' with dep:=jx _ } hb' (aX (Env.bare_le _) hv2) hI'
        ·exact hT'.elim
       ·exact hT'.elim
      | exit id=>exact hK R' (.exit id) _ _ _ _ _ hA0 hconv hT'
      | ret=>exact hK R' .ret _ _ _ _ _ hA0 hconv hT'
    refine wp_loop_rounds (n0+1) (key (n0+1) n0 (zp _) (st1:=st) (ρ1:=ρ) { h with anc:=Env.le.refl ρ,up:=Up.refl k,dep:=jx _ } hback (aX (Env.bare_le ρ) hvs) (hI0 k (Up.refl k)))
   ·exact hT.elim
  ·suffices hr:∀(N:Nat) {st:St}{ρ:Env}{k w:World}{a:Act}{R:Ctx},(∀R' e st' ρ' k' a' w',Agree k0.d R R'→Rel st' ρ' k0 w0 k' a' w'→(K e st').den P R' ρ'.bare k'→Q e.to a' w')→
    Rel st ρ k0 w0 k a w→(unroll N (fun st K=>exec P cfg lid c st K) st K).den P R ρ.bare k→Code.rounds P c Q N a w by
    exact wp_loop_rounds cfg.fuel (hr cfg.fuel hK h hT)
   intro N
   induction N with
   | zero=>intro st ρ k w a R _ _ hT;exact hT.elim
   | succ N ihN=>
    intro st ρ k w a R hK h hT;rw [rounds_succ];refine ih ?_ h hT;intro R' e st' ρ' k' a' w' hA h' hT';cases e with
    | normal=>exact ihN (fun R2 e2 st2 ρ2 k2 a2 w2 hA2=>hK R2 e2 st2 ρ2 k2 a2 w2 (hA.trans hA2 (oy _))) h' hT'
    | exit id=>exact hK R' (.exit id) _ _ _ _ _ hA h' hT'
    | ret=>exact hK R' .ret _ _ _ _ _ hA h' hT'
 | _=>intro lid st ρ k0 w0 k w a K Q R hK h hT;exact hT.elim
def aFz (st:St) (P:Program):ResultVar→Option SV
 | .tmp t=>some (st.tm t)
 | .cell a t=>match st.tm a with
  | .one (.ptr b off)=>match st.heap[b]? with
   | some blk=>oI P t blk.cells off
   | none=>none
  | _=>none
def eP (P:Program) (st:St):List ResultVar→Option (List SV)
 | []=>some []
 | r :: rs=>match aFz st P r,eP P st rs with
  | some v,some vs=>some (v :: vs)
  | _,_=>none
def aOa:SV→Option (Bool×List SC)
 | .one c=>some (false,[c])
 | .agg cs=>some (true,cs)
 | _=>none
def aGm:List SV→Option (List (Bool×List SC))
 | []=>some []
 | v :: vs=>match aOa v,aGm vs with
  | some p,some ps=>some (p :: ps)
  | _,_=>none
def aPt (P:Program) (fn:Func) (st:St):T:=
 match eP P st fn.results.toList with
 | some [v]=>.ret v
 | some vs=>match aGm vs with
  | some ps=>.ret (.tup ps)
  | none => .fail "ret: tuple"
 | none => .fail "ret"
def aYt (P:Program) (fn:Func) (st:St):T:=
 match eP P st fn.results.toList with
 | some vs=>rL (vs.flatMap (aYy st)) st fun st=>aPt P fn st
 | none => .fail "ret"
def gV (fn:Func) (args:List SV) (heap:List SB) (kinds:List LK):St:=
 { tmps:=⟨args.length+(fn.ntmps-args.length),[],fun t=>args.getD t bL⟩,heap,kinds }
theorem aEj (fn:Func) (args:List SV) (heap:List SB) (kinds:List LK) (t:Nat):(gV fn args heap kinds).tm t=args.getD t bL:=by
 by_cases h:t<args.length+(fn.ntmps-args.length)
 ·exact Tab.get_lt (b:=(gV fn args heap kinds).tmps) h
 ·rw [List.getD_eq_getElem?_getD,ob oq];exact Tab.get_ge (b:=(gV fn args heap kinds).tmps) (show args.length+(fn.ntmps-args.length)≤t by omega)
def execFn (P:Program) (cfg:Cfg) (f:FuncId) (args:List SV) (heap:List SB) (kinds:List LK):T:=
 match xC P f with
 | some fn=>match fn.body with
  | some c=>exec P cfg 0 c (gV fn args heap kinds) fun e st=>match e with
   | .exit _ => .fail "exit"
   | _=>aYt P fn st
  | none => .fail "no body"
 | none => .fail "no function"
def aYs (P:Program) (fn:Func) (ty:TypeId) (s:Nat) (st:St):T:=
 match eP P st fn.results.toList with
 | some [.one (.lit (.slice none 0 0))]=>.ret .rwnil
 | some [.one (.slr v)]=>match cW st v with
  | some r => if r.ty = ty ∧ r.s = s then .ret (.rw r.v r.x) else .fail "ret: row"
  | none => .fail "ret: a row"
 | _ => .fail "ret: what"
def rows3:Bool→List SV→Option (Nat×Nat×Nat)
 | false,[.agg [.slr v,.slr v',.slr v'']]=>some (v,v',v'')
 | true,[.agg [.slr v,.slr v',.slr v''],.one (.lit (.int .i64 0))]=>some (v,v',v'')
 | _,_=>none
def bAt (P:Program) (fn:Func) (ty:TypeId) (s:Nat) (d:Bool) (st:St):T:=
 match (eP P st fn.results.toList).bind (rows3 d) with
 | some (v,v',v'')=>match cW st v,cW st v',cW st v'' with
  | some r, some r', some r'' => if (r.ty = ty ∧ r.s = s) ∧ (r'.ty = ty ∧ r'.s = s) ∧ (r''.ty = ty ∧ r''.s = s) ∧ r ≠ r' ∧ r ≠ r'' ∧ r' ≠ r'' then .ret3 r.v r.x r'.v r'.x r''.v r''.x else .fail "ret: rows"
  | _, _, _ => .fail "ret: three rows"
 | none => .fail "ret: what"
def aPs (P:Program) (fn:Func) (ty:TypeId) (s:Nat) (u:TypeId) (us:Nat) (st:St):T:=
 match eP P st fn.results.toList with
 | some [.one (.slr v)]=>match cW st v,st.fam with
  | some r, some f => if (r.ty = ty ∧ r.s = s) ∧ f.ty = u ∧ f.s = us then .retf r.v r.x f.v f.x else .fail "ret: rows"
  | _, _ => .fail "ret: no rows"
 | _ => .fail "ret: what"
def tA (P:Program) (cfg:Cfg) (f:FuncId) (args:List SV) (heap:List SB) (kinds:List LK) (ty:TypeId) (s:Nat) (u:TypeId) (us:Nat):T:=
 match xC P f with
 | some fn=>match fn.body with
  | some c=>exec P cfg 0 c (gV fn args heap kinds) fun e st=>match e with
   | .exit _ => .fail "exit"
   | _=>aPs P fn ty s u us st
  | none => .fail "no body"
 | none => .fail "no function"
def bAd (P:Program) (cfg:Cfg) (f:FuncId) (args:List SV) (heap:List SB) (kinds:List LK) (ty:TypeId) (s:Nat) (d:Bool):T:=
 match xC P f with
 | some fn=>match fn.body with
  | some c=>exec P cfg 0 c (gV fn args heap kinds) fun e st=>match e with
   | .exit _ => .fail "exit"
   | _=>bAt P fn ty s d st
  | none => .fail "no body"
 | none => .fail "no function"
def xA (P:Program) (cfg:Cfg) (f:FuncId) (args:List SV) (heap:List SB) (kinds:List LK) (ty:TypeId) (s:Nat):T:=
 match xC P f with
 | some fn=>match fn.body with
  | some c=>exec P cfg 0 c (gV fn args heap kinds) fun e st=>match e with
   | .exit _ => .fail "exit"
   | _=>aYs P fn ty s st
  | none => .fail "no body"
 | none => .fail "no function"
theorem Ok.of_den {ρ:Env}{sv:SV}{v x:Value}(h:Ok ρ sv v) (hx:sv.den ρ=some x):x=v:=by
 rcases h with h|h
 ·rw [h]at hx;cases hx
 simp_all
def lA (tmps:Array Value):ResultVar→Sem Value
 | .tmp t=>pure (tmps.getD t undef)
 | .cell b t=>do loadVar t (←asAddr (tmps.getD b undef))
theorem gG {st:St}{ρ:Env}{k0:Anc}{w0 k w:World}{a:Act}(h:Rel st ρ k0 w0 k a w):∀ {rs:List ResultVar}{vs:List SV}{xs:List Value},eP P st rs=some vs→argsD ρ vs=some xs→
 (rs.mapM (m:=Sem) (lA a.tmps)).run P w=.ok xs w
 | [],vs,xs,h1,h2=>by simp_all [eP,argsD]
 | r :: rs,vs,xs,h1,h2=>by
  simp only [eP]at h1;split at h1
  ·rename_i v vs' g1 g2;injection h1 with h1;subst h1;simp only [argsD]at h2;split at h2
   ·rename_i x xs' e1 e2;have ih:=gG h g2 e2;have hr:(lA a.tmps r).run P w=.ok x w:=by
     cases r with
     | tmp t=>
      injection g1 with g1;subst g1;have:=(h.tmps t).of_den e1 <;> grind [lA,Sem.run_pure]
     | cell b t=>
      simp only [aFz]at g1;split at g1
      ·rename_i b' off hb;split at g1
       ·rename_i blk hblk;obtain⟨n,us,f1,f2,f3,_⟩:=h.heap b' blk hblk;obtain⟨y,y1,y2⟩:=qU h.env (P:=P) (w:=w) g1 f2 f3;have:=h.tmps b;have hp:=this.of_den (x:=.pointer (some ⟨n,off,none⟩)) (by grind [SV.den,SC.den])
        grind [lA,asAddr]
       ·cases g1
      ·cases g1
    simp_all
   ·cases h2
  ·cases h1
theorem aGn {ρ:Env}:∀ {vs:List SV}{ps:List (Bool×List SC)}{xs:List Value},aGm vs=some ps→iI ρ ps=some xs→argsD ρ vs=some xs
 | [],ps,xs,h1,h2=>by injection h1 with h1;subst h1;exact h2
 | v :: vs,ps,xs,h1,h2=>by
  simp only [aGm]at h1;split at h1
  ·rename_i p ps' g1 g2;injection h1 with h1;subst h1;simp only [iI]at h2;split at h2
   ·rename_i x xs' e1 e2;have ih:=aGn g2 e2;have hv:v.den ρ=some x:=by
     cases v <;> simp only [aOa]at g1 <;> cases g1
     ·exact e1
     ·exact e1
    simp_all [argsD]
   ·cases h2
  ·cases h1
structure Begin (ρ:Env) (heap:List SB) (kinds:List LK) (k:World):Prop where
 env:ρ.Ok
 kd:∀i,ρ.kd i=kinds[i]?
 vals:∀i,kinds.length≤i→ρ.val i=none
 blks:∀b,heap.length≤b→ρ.blk b=none
 mem:∀A v,ρ.mem A=some v→k.cell? A=some v
 hp:∀b blk,heap[b]?=some blk→blk.pub=true∧∃n vs,ρ.blk b=some n∧aC ρ blk.cells=some vs∧Blk k n blk.ty vs.toArray∧ρ.val blk.pv=some (.pointer (some ⟨n,0,none⟩))
def anc0 (k:World) (ρ:Env):Anc:={ toWorld:=k,ρ:=ρ,kk:=k,d:=0 }
theorem pR {args:List SV}{heap:List SB}{kinds:List LK}{ρ:Env}{k w:World}{vs:List Value}(hbeg:Begin ρ heap kinds k) (hargs:argsD ρ args=some vs) (hs:Sees k w) (fn:Func) :
 Rel (gV fn args heap kinds) ρ (anc0 k ρ) w k { tmps:=vs.toArray++Array.replicate (fn.ntmps-vs.toArray.size) undef,defers:=[] } w:=by
 obtain⟨hl,hg⟩:=iZ hargs;exact
  { anc:=Env.le.refl ρ
    up:=Up.refl k
    dep:=jx _
    env:=hbeg.env
    kinds:=hbeg.kd
    vals:=hbeg.vals
    blks:=hbeg.blks
    inj:=fun b b' n hbase h1 _=>by
     rcases zb b heap.length with hlt|hge
     ·obtain⟨_,n',us,h1',_,h3,_⟩:=hbeg.hp b _ (qi hlt);rw [h1]at h1';injection h1' with h1';subst h1';have:=h3.lt;have hbase:k.heap.size≤n:=hbase;omega
     ·rw [hbeg.blks b hge]at h1;cases h1
    size:=by simp [gV,hl]
    tmps:=fun t=>by
     rw [aEj];simp only [List.getD_eq_getElem?_getD,jv,Array.getElem?_append,wz,hl]
     by_cases ht:t<args.length
     ·rw [og ht];obtain⟨v,v1,v2⟩:=hg t _ (qi ht);rw [qi ht];simp only [List.getElem?_toArray,v1,Option.getD_some];exact .inr v2
     ·rw [oh ht,ob (zw ht)];simp only [vz];split <;> exact .inr rfl
    defers:=rfl
    sees:=hs
    base:=hs.size.symm
    kb:=Below.refl _ _
    wb:=Below.refl _ _
    heap:=fun b blk hb=>by
     obtain⟨hp,n,us,h1,h2,h3,h4⟩:=hbeg.hp b blk hb;exact⟨n,us,h1,h2,h3.sees hs,(fun hp'=>by rw [hp]at hp';cases hp'),fun _=>⟨h3,h4⟩⟩
    mem:=hbeg.mem
    rows:=⟨fun r hr=>(by cases hr),fun r hr=>(by cases hr)⟩
    fam:=FamOk.nil }
theorem nW (hm:P.follows .mixedOrders=true) {f:FuncId}{args:List SV}{heap:List SB}{kinds:List LK}{ρ:Env}{k:World}{vs:List Value}{R:World→Value→Prop}(hbeg:Begin ρ heap kinds k)
 (hargs:argsD ρ args=some vs) {φ:Nat→World→List Value→Prop}(hT:(execFn P cfg f args heap kinds).den P ⟨R,φ⟩ ρ.bare k):CallsG P f vs.toArray k R:=by
 intro w hs;unfold execFn at hT;split at hT
 ·rename_i fn hfn;split at hT
  ·rename_i c hc;refine calls_of_wp ((jN _ _).symm.trans hfn) hc ?_;have hrel:=pR hbeg hargs hs fn;refine mR hm c (k0:=anc0 k ρ) ?_ hrel hT;intro R' e st' ρ' k' a' w' hA h' hT';have hret0:∀ {st':St}{ρ':Env}{k':World},Rel st' ρ' (anc0 k ρ) w k' a' w'→(aPt P fn st').den P R' ρ'.bare k'→a'.defers=[]∧∃v,(results fn a'.tmps).run P w'=.ok v w'∧∃v' k',Ending.returned v=.returned v'∧Sees k' w'∧Below k.heap.size k k'∧Below w.heap.size w w'∧R k' v':=by
    intro st' ρ' k' h' hT';refine⟨h'.defers,?_⟩;have fin:∀(v:Value),(∀k'',Up k' k''→R'.R k'' v)→∃v' k',Ending.returned v=.returned v'∧Sees k' w'∧Below k.heap.size k k'∧Below w.heap.size w w'∧R k' v':=fun v hv=>
     ⟨v,k',rfl,h'.sees,h'.kb,h'.wb,by have:=hv k' (Up.refl k');rw [hA.res]at this;exact this⟩
    have run:∀(vs':List SV) (xs:List Value),eP P st' fn.results.toList=some vs'→argsD ρ' vs'=some xs→(results fn a'.tmps).run P w'=.ok (if h:xs.toArray.size=1 then xs.toArray[0] else .tuple xs.toArray) w':=fun vs' xs g1 g2=>by
     have:=gG h' g1 g2;have e:(results fn a'.tmps)=(do let vs ←fn.results.mapM (lA a'.tmps);pure (if h:vs.size=1 then vs[0] else .tuple vs):Sem Value):=rfl;rw [e,xx];simp only [qw,Sem.run_map,Result.andThen,this,jd]
    unfold aPt at hT';split at hT'
    ·rename_i v hv;unfold T.den at hT';split at hT'
     ·rename_i x hx;refine⟨x,?_,fin x hT'⟩;have:=run [v] [x] hv (by simp only [argsD,aQ hx]);simpa using this
     ·exact hT'.elim
    ·rename_i vs' hne hv;split at hT'
     ·rename_i ps hps;unfold T.den at hT';split at hT'
      ·rename_i x hx;refine⟨x,?_,fin x hT'⟩;have hx':=aQ (ρ:=ρ') hx;simp only [SV.den]at hx';split at hx'
       ·rename_i us hus;injection hx' with hx';subst hx';have hd:=aGn hps hus;have:=run vs' us hv hd;rw [this];have hlen:=(iZ hd).1;have hne':us.toArray.size≠1:=by
         simp only [wz,hlen];intro e
         match vs',e with
         | [v],_=>exact hne v rfl
        rw [dif_neg hne']
       ·cases hx'
      ·exact hT'.elim
     ·exact hT'.elim
    ·exact hT'.elim
   have hret:(aYt P fn st').den P R' ρ'.bare k'→a'.defers=[]∧∃v,(results fn a'.tmps).run P w'=.ok v w'∧∃v' k',Ending.returned v=.returned v'∧Sees k' w'∧Below k.heap.size k k'∧Below w.heap.size w w'∧R k' v':=by
    intro hT';unfold aYt at hT';split at hT'
    ·obtain⟨st2,ρ2,k2,p1,p2⟩:=cZ h' hT';exact hret0 p1 p2
    ·exact hT'.elim
   cases e with
   | normal=>exact hret hT'
   | ret=>exact hret hT'
   | exit id=>exact hT'.elim
  ·exact hT.elim
 ·exact hT.elim
theorem uS (hm:P.follows .mixedOrders=true) {f:FuncId}{args:List SV}{heap:List SB}{kinds:List LK}{ρ:Env}{k:World}{vs:List Value}{R:World→Value→Prop}{ty:TypeId}{s:Nat}(hbeg:Begin ρ heap kinds k)
 (hargs:argsD ρ args=some vs) {φ:Nat→World→List Value→Prop}(hT:(xA P cfg f args heap kinds ty s).den P ⟨R,φ⟩ ρ.bare k):CallsR P f vs.toArray k ty s R:=by
 intro w hs;unfold xA at hT;split at hT
 ·rename_i fn hfn;split at hT
  ·rename_i c hc;refine calls_of_wp ((jN _ _).symm.trans hfn) hc ?_;have hrel:=pR hbeg hargs hs fn;refine mR hm c (k0:=anc0 k ρ) ?_ hrel hT;intro R' e st' ρ' k' a' w' hA h' hT';have hret:(aYs P fn ty s st').den P R' ρ'.bare k'→a'.defers=[]∧∃v,(results fn a'.tmps).run P w'=.ok v w'∧∃A n c xs k',Ending.returned v=.returned (.slice A n c)∧Sees k' w'∧Below k.heap.size k k'∧Below w.heap.size w w'∧Gift k.heap.size k' w' ty s A n c xs∧R k' (.tuple #[.slice A n c,.agg xs]):=by
    intro hT';unfold aYs at hT';split at hT'
    ·rename_i hv;unfold T.den at hT';have hres:=gG h' hv (xs:=[.slice none 0 0]) rfl;have erun:(results fn a'.tmps)=(do let vs ←fn.results.mapM (lA a'.tmps);pure (if h:vs.size=1 then vs[0] else .tuple vs):Sem Value):=rfl;refine⟨h'.defers,.slice none 0 0,?_,none,0,0,#[],k',rfl,h'.sees,h'.kb,h'.wb,⟨by simp,oy _,fun u hu=>(by cases hu),.inl ⟨rfl,rfl⟩⟩,by have:=hT' k' (Up.refl k');rwa [hA.res]at this⟩;rw [erun,xx];simp only [qw,Sem.run_map,Result.andThen,hres,jd];rfl
    ·rename_i v hv;split at hT'
     ·rename_i r hr;split at hT'
      ·rename_i hrs;obtain⟨hm,hrv⟩:=aN hr;obtain⟨A,n,c,xs,h1,h2,h3,h4,h5,h6,h7,h8⟩:=h'.rows.ok r hm;unfold T.den at hT';split at hT'
       ·rename_i x hx;have hx':=aQ (ρ:=ρ') hx;simp only [SV.den,h1,h2,h3,h4]at hx';injection hx' with hx';subst hx';have hrow:=h'.env _ _ _ h4 h2;obtain⟨xs',e,hrc⟩:=hrow;injection e with e;subst e
        have hres:=gG h' hv (xs:=[.slice A n c]) (by
         simp only [argsD,SV.den,SC.den]
         rw [←hrv,h1])
        have erun:(results fn a'.tmps)=(do let vs ←fn.results.mapM (lA a'.tmps);pure (if h:vs.size=1 then vs[0] else .tuple vs):Sem Value):=rfl;refine⟨h'.defers,.slice A n c,?_,A,n,c,xs,k',rfl,h'.sees,h'.kb,h'.wb,⟨by rw [←hrs.2];exact h6,h7,hrc,?_⟩,by have:=hT' k' (Up.refl k');rwa [hA.res]at this⟩
        ·rw [erun,xx];simp only [qw,Sem.run_map,Result.andThen,hres,jd];rfl
        ·rw [←hrs.1,←hrs.2];exact h8.imp id fun ⟨g,cs,e,g1,g2,g3,g4,g5,g6,_⟩=>⟨g,cs,e,g1,g2,g3,g4,g5,g6⟩
       ·exact hT'.elim
      ·exact hT'.elim
     ·exact hT'.elim
    ·exact hT'.elim
   cases e with
   | normal=>exact hret hT'
   | ret=>exact hret hT'
   | exit id=>exact hT'.elim
  ·exact hT.elim
 ·exact hT.elim
theorem tB (hm:P.follows .mixedOrders=true) {f:FuncId}{args:List SV}{heap:List SB}{kinds:List LK}{ρ:Env}{k:World}{vs:List Value}{R:World→Value→Prop}{ty:TypeId}{s:Nat}{u:TypeId}{us:Nat}(hbeg:Begin ρ heap kinds k)
 (hargs:argsD ρ args=some vs) {φ:Nat→World→List Value→Prop}(hT:(tA P cfg f args heap kinds ty s u us).den P ⟨R,φ⟩ ρ.bare k):CallsRF P f vs.toArray k ty s u us R:=by
 intro w hs;unfold tA at hT;split at hT
 ·rename_i fn hfn;split at hT
  ·rename_i c hc;refine calls_of_wp ((jN _ _).symm.trans hfn) hc ?_;have hrel:=pR hbeg hargs hs fn;refine mR hm c (k0:=anc0 k ρ) ?_ hrel hT;intro R' e st' ρ' k' a' w' hA h' hT';have hret:(aPs P fn ty s u us st').den P R' ρ'.bare k'→a'.defers=[]∧∃v,(results fn a'.tmps).run P w'=.ok v w'∧∃A n c cs vs xs k',Ending.returned v=.returned (.slice A n c)∧Sees k' w'∧Below k.heap.size k k'∧Below w.heap.size w w'∧Gift k.heap.size k' w' ty s A n c cs∧GiftF k.heap.size k' w' u us A vs xs∧R k' (.tuple #[.slice A n c,.agg cs,.agg vs,.agg xs]):=by
    intro hU;unfold aPs at hU;split at hU
    ·rename_i v hv;split at hU
     ·rename_i r q hr hq;split at hU
      ·rename_i hrs;obtain⟨⟨rfl,rfl⟩,rfl,rfl⟩:=hrs;obtain⟨hm,hrv⟩:=aN hr;obtain⟨A,n,c,cs,h1,h2,h3,h4,h5,h6,h7,h8⟩:=h'.rows.ok r hm;obtain⟨ws,xs,f1,f2,f3,f4,f5,F⟩:=h'.fam q hq;unfold T.den at hU;have b1:ρ'.bare.val r.v=some (.slice A n c):=h1;have b2:ρ'.bare.val r.x=some (.agg cs):=h2;have b3:ρ'.bare.val q.v=some (.agg ws):=f1;have b4:ρ'.bare.val q.x=some (.agg xs):=f2;simp only [b1,b2,b3,b4]at hU;obtain⟨cs',e,hrc⟩:=h'.env _ _ _ h4 h2;injection e with e;subst e;obtain⟨ws',e,hwc⟩:=h'.env _ _ _ f3 f1;injection e with e;subst e;obtain⟨xs',e,hxc⟩:=h'.env _ _ _ f4 f2;injection e with e;subst e
       have hres:=gG h' hv (xs:=[.slice A n c]) (by
        simp only [argsD,SV.den,SC.den]
        rw [←hrv,h1])
       have erun:(results fn a'.tmps)=(do let vs ←fn.results.mapM (lA a'.tmps);pure (if h:vs.size=1 then vs[0] else .tuple vs):Sem Value):=rfl;have own:∀ {B:Option Addr}{c s:Nat}{ty:TypeId}{cs:Array Value},((B=none∧c=0)∨∃g ds,B=some ⟨g,0,none⟩∧k.heap.size≤g∧Blk w' g ty ds∧ds.size=c*s∧(∀(p:Nat) u,cs[p]?=some u→ds[p]?=some u)∧(∀u∈ds.toList,u.noWord=true)∧k'.heap[g]?=some dead∧∀b,ρ'.blk b≠some g)→
        ((B=none∧c=0)∨∃g ds,B=some ⟨g,0,none⟩∧k.heap.size≤g∧Blk w' g ty ds∧ds.size=c*s∧(∀(p:Nat) u,cs[p]?=some u→ds[p]?=some u)∧(∀u∈ds.toList,u.noWord=true)∧k'.heap[g]?=some dead):=fun h=>h.imp id fun ⟨g,ds,e,g1,g2,g3,g4,g5,g6,_⟩=>⟨g,ds,e,g1,g2,g3,g4,g5,g6⟩
       refine⟨h'.defers,.slice A n c,?_,A,n,c,cs,ws,xs,k',rfl,h'.sees,h'.kb,h'.wb,⟨h6,h7,hrc,own h8⟩,⟨hwc,hxc,F.size,fun j v hj=>?_,F.inj,fun j a m d hj g eg ea=>?_⟩,by have:=hU k' (Up.refl k');rwa [hA.res]at this⟩
       ·rw [erun,xx];simp only [qw,Sem.run_map,Result.andThen,hres,jd];rfl
       ·obtain⟨B,m,d,ds,e1,e2,o1,o2,o3,o4⟩:=F.one j v hj;exact⟨B,m,d,ds,e1,e2,o2,o3,o1,own o4⟩
       ·refine F.far j a m d hj r hm ?_;unfold aD;rw [h1,eg];simp only [ea]
      ·exact hU.elim
     ·exact hU.elim
    ·exact hU.elim
   cases e with
   | normal=>exact hret hT'
   | ret=>exact hret hT'
   | exit id=>exact hT'.elim
  ·exact hT.elim
 ·exact hT.elim
end
