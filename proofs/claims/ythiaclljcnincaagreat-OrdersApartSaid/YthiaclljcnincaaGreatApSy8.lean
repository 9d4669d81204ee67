/- A symbolic executor of the model's code: regions in the text's order. -/
import Derived.Test.YthiaclljcnincaaGreatApSyA
namespace Go.Proofs.YthiaclljcnincaaGreat.Sy
open Go.RowKit
def gY (lo:Nat):List LK→List SC
 | []=>[]
 | .seg m :: l=>.seg lo m :: gY (lo+1) l
 | _ :: l=>.var lo :: gY (lo+1) l
def rX (P:Program) (opq:List TypeId):Nat→TypeId→List LK
 | 0,_=>[.any]
 | n+1,t=>match dB P t with
  | some .bool=>[.bool]
  | some (.int k)=>[.int k]
  | some .string=>[.str]
  | some (.float k)=>[.flt k]
  | some (.complex k)=>[.cpx k]
  | some (.slice _)=>[.slice]
  | some (.map _ _)=>[.map]
  | some (.struct fs)=>if opq.contains t then [.seg ((bT P t).getD 0)] else fs.toList.flatMap fun f=>rX P opq n f.type
  | some (.array m e)=>if opq.contains t then [.seg ((bT P t).getD 0)] else (List.replicate m (rX P opq n e)).flatten
  | _=>[.any]
def wB (P:Program) (opq:List TypeId):Nat→List TypeId→List (Bool×List SC)×List LK
 | _,[]=>([],[])
 | lo,t :: ts=>
  let ks:=rX P opq 20 t
  let r:=wB P opq (lo+ks.length) ts
  (((dD P t).getD false,gY lo ks) :: r.1,ks++r.2)
def cV (P:Program) (opq:List TypeId) (t:TypeId) (lo:Nat):SV×List LK:=
 match dB P t with
 | some (.tuple ts)=>let r:=wB P opq lo ts.toList;(.tup r.1,r.2)
 | _=>let ks:=rX P opq 20 t
  if (dD P t).getD false then (.agg (gY lo ks),ks) else (.one (.var lo),ks)
inductive Slot where
 | tmp (t:Tmp) (agg:Bool) (lks:List LK)
 | blk (b:Nat) (lks:List LK)
 | rw (t:Tmp) (ty:TypeId) (s:Nat)
 | rb (b i:Nat) (ty:TypeId) (s:Nat)
 | fm (ty:TypeId) (s:Nat)
 deriving Inhabited
inductive Gc where
 | mk (t:Tmp) (ty:TypeId) (s:Nat)
 | take (i:Tmp)
 | give (i r:Tmp)
 | push (r:Tmp)
 | pub
 deriving Inhabited
structure Cfg where
 opq:List TypeId
 fuel:Nat:=30
 loops:List (Nat×List Slot):=[]
 splits:List (Nat×Tmp×List Int):=[]
 sub:Bool:=false
 big:Nat:=0
 adopt:List FuncId:=[]
 wr:List FuncId:=[]
 gift:Option (TypeId×Nat):=none
 gift3:Bool:=false
 bare:List FuncId:=[]
 joins:List (Nat×List Slot):=[]
 nanc:Bool:=false
 meets:List (Nat×List Slot):=[]
 nix:Bool:=false
 gho:List (Nat×Bool×List Gc):=[]
 adoptF:List FuncId:=[]
 giftF:Option (TypeId×Nat):=none
 lend:List FuncId:=[]
 deriving Inhabited
def mX:List SC→T→T
 | [],t=>t
 | .lit (.bool true) :: l,t=>mX l t
 | c :: l,t=>.need c (mX l t)
def St.vars (st:St) (lks:List LK):St:={ st with kinds:=st.kinds++lks }
def St.pubB (st:St) (b:Nat):St:={ st with heap:=st.heap.modify b (fun blk=>{ blk with pub:=true,pv:=st.kinds.length }),kinds:=st.kinds++[.any] }
def aLr (st:St):List Operand→List Nat→(St→List Nat→T)→T
 | [],acc,K=>K st acc
 | x :: xs,acc,K=>match opnd st.tm x with
  | .one (.ptr b 0)=>match st.heap[b]? with
   | some blk=>if blk.pub then aLr st xs (acc++[blk.pv]) K
    else .pub blk.ty blk.cells st.kinds.length (aLr (st.pubB b) xs (acc++[st.kinds.length]) K)
   | none => .fail "captured"
  | _ => .fail "captured"
def aLz:SV→Option LK
 | .one (.slc _ _ _ _)=>some .slice
 | .one (.cel _ _ _ k)=>some k
 | _=>none
def aMb (d:Option Tmp) (v:SV) (st:St) (K:St→T):T:=
 if simple v then K (st.put d v) else match v with
  | .one (.elem (.slr w) i s j)=>match cW st w with
   | some _=>.need (.idx i (.len (.var w))) (K (st.put d (.one (.elem (.slr w) i s j))))
   | none=>.elem (.slr w) i (K (st.put d (.one (.elem (.slr w) i s j))))
  | .one (.elem a i s j)=>.elem a i (K (st.put d (.one (.elem a i s j))))
  | v=>match aLz v with
   | some lk=>.name v st.kinds.length [lk] (.one (.var st.kinds.length)) (K ((st.vars [lk]).put d (.one (.var st.kinds.length))))
   | none=>.defd v (K (st.put d v))
def aEd (P:Program) (t:TypeId):SV→Bool
 | .agg _=>dD P t == some true
 | .one (.var _)=>dD P t == some false
 | .one (.slr _)=>dD P t == some false
 | _=>false
def aQl:Value→Value→Bool
 | .bool a,.bool b=>a == b
 | .int k a,.int k' b=>decide (k=k') && decide (a=b)
 | .string s,.string t=>decide (s=t)
 | .slice a n c,.slice a' n' c'=>decide (a=a') && decide (n=n') && decide (c=c')
 | .float k b,.float k' b'=>decide (k=k') && decide (b=b')
 | .complex k a b,.complex k' a' b'=>decide (k=k') && decide (a=a') && decide (b=b')
 | .tuple a,.tuple b=>a.size == 0 && b.size == 0
 | .nilFunc,.nilFunc=>true
 | .nilIface,.nilIface=>true
 | _,_=>false
def aM:SC→SC→Bool
 | .var i,.var j=>i == j
 | .lit a,.lit b=>aQl a b
 | .ptr b o,.ptr b' o'=>b == b' && o == o'
 | .slr v,.slr v'=>v == v'
 | .idx a b,.idx a' b'=>aM a a' && aM b b'
 | .le a b,.le a' b'=>aM a a' && aM b b'
 | .fit a b,.fit a' b'=>aM a a' && aM b b'
 | .nz a,.nz b=>aM a b
 | .cap a,.cap b=>aM a b
 | .isSl x a,.isSl y b=>x == y && aM a b
 | .elem a i s j,.elem a' i' s' j'=>aM a a' && aM i i' && s == s' && j == j'
 | .slc a b c s,.slc a' b' c' s'=>aM a a' && aM b b' && aM c c' && s == s'
 | .psl p o n c,.psl p' o' n' c'=>p == p' && o == o' && n == n' && c == c'
 | .sl b o n c,.sl b' o' n' c'=>b == b' && o == o' && n == n' && c == c'
 | .seg i m,.seg i' m'=>i == i' && m == m'
 | .part x N i s j m,.part x' N' i' s' j' m'=>x == x' && N == N' && aM i i' && s == s' && j == j' && m == m'
 | .upd x N i s j y,.upd x' N' i' s' j' y'=>x == x' && N == N' && aM i i' && s == s' && j == j' && aM y y'
 | .cat a b,.cat a' b'=>aM a a' && aM b b'
 | .fn f c,.fn f' c'=>f == f' && decide (c=c')
 | .fnb f b c,.fnb f' b' c'=>f == f' && b == b' && c == c'
 | .bin cl op a b,.bin cl' op' a' b'=>cl == cl' && decide (op=op') && aM a a' && aM b b'
 | .not a,.not b=>aM a b
 | .neg a,.neg b=>aM a b
 | .conv k a,.conv k' b=>decide (k=k') && aM a b
 | .len a,.len b=>aM a b
 | .byte a b,.byte a' b'=>aM a a' && aM b b'
 | .sub a b c,.sub a' b' c'=>aM a a' && aM b b' && aM c c'
 | .pick a b c,.pick a' b' c'=>aM a a' && aM b b' && aM c c'
 | _,_=>false
def aDw (P:Program) (cfg:Cfg) (st:St) (i:SC) (t:TypeId):SV×List LK:=
 match st.cur,dB P t with
 | p :: l,some (.slice _)=>match (p :: l).find? fun p=>aM p.1 i with
  | some p=>(.one (.slr p.2),[])
  | none=>cV P cfg.opq t st.kinds.length
 | _,_=>cV P cfg.opq t st.kinds.length
def aDt (st:St) (v?:Option Nat) (sa i:SC) (s j m:Nat) (lks:List LK) (res:SV) (K:SV→St→T):T:=
 match v? with
 | some v=>match cW st v with
  | some q => if q.s = s then .getw q.x i s j m st.kinds.length lks res (K res (st.vars lks)) else .fail "row: size"
  | none=>.read sa i s j m st.kinds.length lks res (K res (st.vars lks))
 | none=>.read sa i s j m st.kinds.length lks res (K res (st.vars lks))
def mH (P:Program) (cfg:Cfg) (st:St) (v?:Option Nat) (sa i:SC) (s j:Nat) (t:TypeId) (K:SV→St→T):T:=
 match bT P t with
 | some m => if aEd P t (aDw P cfg st i t).1 then aDt st v? sa i s j m (aDw P cfg st i t).2 (aDw P cfg st i t).1 K else .fail "read: shape"
 | none => .fail "read: size"
def iQ (P:Program) (t:TypeId):Option (TypeId×TypeInfo×Value):=
 match dB P t with
 | some (.slice e)=>match kS P e with
  | some i=>match i.zero with
   | some z=>if z.cells.size=i.size && decide (0<i.size) && z.cells.all (fun u=>u.scalar && u.noWord) then some (e,i,z) else none
   | none=>none
  | none=>none
 | _=>none
def aZs (P:Program) (t:TypeId):Option (TypeId×Nat):=match dB P t with
 | some (.struct fs)=>match fs.toList with
  | [a,b,c]=>if a.type=b.type∧a.type=c.type then (iQ P a.type).map fun x=>(x.1,x.2.1.size) else none
  | _=>none
 | _=>none
def agg3T (P:Program) (t:TypeId):Option (TypeId×Nat×Bool):=match dB P t with
 | some (.tuple ts)=>match ts.toList with
  | [a,_]=>(aZs P a).map fun x=>(x.1,x.2,true)
  | _=>none
 | _=>(aZs P t).map fun x=>(x.1,x.2,false)
def aWn (P:Program) (cfg:Cfg) (o:Oper) (v:SV) (st:St) (K:St→T):T:=
 match v,o.op with
 | .agg [.part x N i s j m],.load t _=>if cfg.opq.contains t=true then K (st.put o.dst (.agg [.part x N i s j m])) else
  .name (.agg [.part x N i s j m]) st.kinds.length (cV P cfg.opq t st.kinds.length).2 (cV P cfg.opq t st.kinds.length).1 (K ((st.vars (cV P cfg.opq t st.kinds.length).2).put o.dst (cV P cfg.opq t st.kinds.length).1))
 | .one (.cel x i s lk),_=>.name (.one (.cel x i s lk)) st.kinds.length [lk] (.one (.var st.kinds.length)) (K ((st.vars [lk]).put o.dst (.one (.var st.kinds.length))))
 | v,_=>K (st.put o.dst v)
def aMr (P:Program) (cfg:Cfg) (o:Oper) (v:SV) (st:St) (K:St→T):T:=
 match v,o.op with
 | .agg [.part x N i s j m],.index _ _ _=>if cfg.nix=true then
  .name (.agg [.part x N i s j m]) st.kinds.length (cV P cfg.opq o.type st.kinds.length).2 (cV P cfg.opq o.type st.kinds.length).1 (K ((st.vars (cV P cfg.opq o.type st.kinds.length).2).put o.dst (cV P cfg.opq o.type st.kinds.length).1))
  else aMb o.dst (.agg [.part x N i s j m]) st K
 | v,_=>aMb o.dst v st K
def St.row4 (st:St) (ty:TypeId) (s:Nat) (u:TypeId) (us:Nat):St:=
 { st with kinds:=(st.kinds++[.slice,.row])++[.row,.fam],rows:=st.rows++[⟨st.kinds.length,st.kinds.length+1,ty,s⟩],fam:=some ⟨st.kinds.length+2,st.kinds.length+3,u,us⟩,cur:=[] }
def aAk (st:St):List SV→Option RowI
 | []=>none
 | .one (.slr v) :: l=>match cW st v with
  | some q=>some q
  | none=>aAk st l
 | _ :: l=>aAk st l
theorem pI {st:St}{q:RowI}:∀ {l:List SV},aAk st l=some q→q∈st.rows
 | [],h=>by cases h
 | c :: l,h=>by
  unfold aAk at h;split at h
  ·cases h
  ·rename_i v l' e;injection e with _ e;subst e;split at h
   ·rename_i q' hq;injection h with h;subst h;exact (aN hq).1
   ·exact pI h
  ·rename_i e;injection e with _ e;subst e;exact pI h
def rA (P:Program) (cfg:Cfg) (o:Oper) (st:St) (K:St→T):T:=
 match bD P st.tm st.hp o with
 | .pure v needs=>mX needs (aMr P cfg o v st K)
 | .load v b=>match st.heap[b]? with
  | some _=>aWn P cfg o v st K
  | none => .fail "load"
 | .alloc ty cs sl=>if cs.all (wordless st.kd) then
  if cfg.big≠0∧cfg.big≤cs.length then
   .name (.agg cs) st.kinds.length [.seg cs.length] (.agg [.seg st.kinds.length cs.length]) (K (((st.vars [.seg cs.length]).new ty [.seg st.kinds.length cs.length]).put o.dst (tX sl st.heap.length)))
  else K ((st.new ty cs).put o.dst (tX sl st.heap.length))
  else match sl with
  | some m=>.pub ty cs st.kinds.length (.name (.one (.psl st.kinds.length 0 m m)) (st.vars [.any]).kinds.length [.slice] (.one (.var (st.vars [.any]).kinds.length)) (K (((st.vars [.any]).vars [.slice]).put o.dst (.one (.var (st.vars [.any]).kinds.length)))))
  | none => .fail "a word"
 | .store b cs=>match st.heap[b]? with
  | some blk => if !blk.pub && cs.all (wordless st.kd) then K ((st.setB b cs).put o.dst bL) else .fail "store: a word"
  | none => .fail "store"
 | .call f args=>
  if cfg.adoptF.contains f then match iQ P o.type with
   | some (e,i,_)=>match iQ P e with
    | some (u, j, _) => if 0 < i.size ∧ 0 < j.size then .callrf f args e i.size u j.size st.kinds.length (K ((st.row4 e i.size u j.size).put o.dst (.one (.slr st.kinds.length)))) else .fail "rows: size"
    | none => .fail "rows of what"
   | none => .fail "rows"
  else if cfg.adopt.contains f then match iQ P o.type with
   | some (e, i, _) => if 0 < i.size then .callr f args e i.size st.kinds.length (K ((st.row2 st.rows e i.size).put o.dst (.one (.slr st.kinds.length)))) else .fail "a row: size"
   | none=>match agg3T P o.type with
    | some (e, z, d) => if 0 < z then .callr3 f args e z d st.kinds.length (K (({ st.vars [.slice, .row, .slice, .row, .slice, .row] with rows := st.rows ++ [⟨st.kinds.length, st.kinds.length + 1, e, z⟩, ⟨st.kinds.length + 2, st.kinds.length + 3, e, z⟩, ⟨st.kinds.length + 4, st.kinds.length + 5, e, z⟩] } : St).put o.dst (qG d [.slr st.kinds.length, .slr (st.kinds.length + 2), .slr (st.kinds.length + 4)]))) else .fail "rows: size"
    | none => .fail "a row"
  else
  let r:=cV P cfg.opq o.type st.kinds.length
  match (if cfg.lend.contains f then aAk st args else none) with
  | some q=>.lend q.v q.x f args st.kinds.length r.2 r.1 (K ((st.vars r.2).put o.dst r.1))
  | none=>.call f args st.kinds.length r.2 r.1 (K ((st.vars r.2).put o.dst r.1))
 | .read a i s j t=>mH P cfg st none a i s j t fun v st=>K (st.put o.dst v)
 | .getw v i s j t=>mH P cfg st (some v) (.slr v) i s j t fun w st=>K (st.put o.dst w)
 | .fail why=>.fail why
def yH:Operand→Operand→Bool
 | .tmp a,.tmp b=>a == b
 | .const (.int k i),.const (.int k' j)=>k == k' && i == j
 | _,_=>false
def SC.psub (b p:Nat):SC→SC
 | .sl b' o n c=>if b'=b then .psl p o n c else .sl b' o n c
 | c=>c
def SV.psub (b p:Nat):SV→SV
 | .one c=>.one (c.psub b p)
 | .agg cs=>.agg (cs.map (SC.psub b p))
 | v=>v
def St.psub (st:St) (b p:Nat):St:=
 { st with tmps:=st.tmps.map (SV.psub b p),heap:=st.heap.map fun x=>{ x with cells:=x.cells.map (SC.psub b p) } }
def rL:List SC→St→(St→T)→T
 | [],st,K=>K st
 | c :: l,st,K=>match c with
  | .slr v=>match cW st v with
   | some r=>.pubr r.v r.x (rL l { st with rows:=st.without r } K)
   | none=>rL l st K
  | .sl b _ _ _=>match st.heap[b]? with
   | some blk=>if blk.pub then rL l (st.psub b blk.pv) K
    else .pub blk.ty blk.cells st.kinds.length (rL l ((st.pubB b).psub b st.kinds.length) K)
   | none=>rL l st K
  | _=>rL l st K
def SV.scs:SV→List SC
 | .one c=>[c]
 | .agg cs=>cs
 | .tup vs=>vs.flatMap (·.2)
 | _=>[]
def SC.deep (st:St):Nat→SC→List SC
 | n+1,.sl b o m c=>(match st.heap[b]? with
  | some blk=>blk.cells.flatMap (SC.deep st n)
  | none=>[])++[.sl b o m c]
 | _,c=>[c]
def aZt (cfg:Cfg):SV→Bool
 | .one (.fn f _)=>cfg.bare.contains f
 | _=>false
def aYy (st:St) (v:SV):List SC:=v.scs.flatMap (SC.deep st 3)
def aYi (st:St) (s:Nat) (y:SV) (K:RC→SC→St→T):T:=
 match y with
 | .one (.sl b off n _)=>match st.heap[b]? with
  | some blk=>match cutW off (n*s) blk.cells with
   | some cs => if cs.all (wordless st.kd) then K (.cells cs) (.lit (.int .i64 n)) st else .fail "append: a word"
   | none => .fail "append: cells"
  | none => .fail "append: block"
 | .one (.slr v)=>match cW st v with
  | some r => if r.s = s then K (.var r.x) (.len (.var v)) st else .fail "append: size"
  | none=>.spread (.var v) s st.kinds.length (K (.var st.kinds.length) (.len (.var v)) (st.vars [LK.row]))
 | .one c=>.spread c s st.kinds.length (K (.var st.kinds.length) (.len c) (st.vars [LK.row]))
 | _ => .fail "append: what"
def aLn (st:St) (x:SV) (e:TypeId) (s:Nat) (K:RowI→St→T):T:=
 match x with
 | .one (.slr v)=>match cW st v with
  | some r => if r.ty = e ∧ r.s = s then K r st else .fail "append: row"
  | none => .fail "append: a row that is known"
 | .one (.lit (.slice none 0 0))=>.lrow [] 0 st.kinds.length (K ⟨st.kinds.length,st.kinds.length+1,e,s⟩ (st.row2 st.rows e s))
 | _ => .fail "append: to what"
def xF (P:Program) (f:FuncId):Bool:=match xC P f with
 | some fn => fn.name != "runtime.NumGoroutine" && fn.body.isSome
 | none=>false
def uI (P:Program) (cfg:Cfg) (o:Oper) (st:St) (K:St→T):T:=
 match o.op with
 | .makeFunc (.func f) first captured=>if first.size=0 then if cfg.wr.contains f then match captured.toList with
  | [x,y]=>match opnd st.tm x,opnd st.tm y with
   | .one (.ptr b 0),.one (.ptr c 0)=>K (st.put o.dst (.one (.fnb f b c)))
   | _, _ => .fail "makeFunc: captured"
  | _ => .fail "makeFunc: captured"
  else aLr st captured.toList [] fun st ids => K (st.put o.dst (.one (.fn f ids))) else .fail "makeFunc"
 | .makeSlice t l c=>match iQ P t,opnd st.tm l with
  | some (e, i, z), .one n => if yH l c then .mkrow z.cells.toList n i.size i.bytes st.kinds.length (K ((st.row2 st.rows e i.size).put o.dst (.one (.slr st.kinds.length)))) else .fail "make: cap"
  | _, _ => .fail "make"
 | .buildSlice t 0 parts=>match iQ P t with
  | some (e, i, _) => if parts.size = 0 then .lrow [] 0 st.kinds.length (K ((st.row2 st.rows e i.size).put o.dst (.one (.slr st.kinds.length)))) else .fail "buildSlice"
  | none => .fail "buildSlice"
 | .call ⟨.builtin .append,args,argTypes⟩=>match args.toList,argTypes.toList with
  | [x,y],[t,t']=>match iQ P t with
   | some (e,i,_)=>if t=t' then aLn st (opnd st.tm x) e i.size fun r st=>aYi st i.size (opnd st.tm y) fun new m st=>
    .app r.v r.x new m i.size i.bytes st.kinds.length (K ((st.row2 (st.without r) e i.size).put o.dst (.one (.slr st.kinds.length))))
    else .fail "append: types"
   | none => .fail "append: type"
  | _, _ => .fail "append"
 | .store t a x=>match opnd st.tm a with
  | .one (.elem (.slr v) i s j)=>match cW st v,(opnd st.tm x).cells?,bT P t with
   | some r,some new,some m=>if r.s=s && widths new=m && decide (j+m≤s) && new.all (wordless st.kd) then
    .setr r.v r.x i s j new st.kinds.length (K ({ st with kinds := st.kinds ++ [LK.row], rows := st.without r ++ [{ r with x := st.kinds.length }] }.put o.dst bL)) else .fail "store: row"
   | _, _, _ => .fail "store: row"
  | _=>rA P cfg o st K
 | .convert s d x=>match dB P s,dB P d,opnd st.tm x with
  | some (.float _),some (.float k'),.one c=>if cfg.nanc=true then .draw k' c st.kinds.length (K ((st.vars [.flt k']).put o.dst (.one (.var st.kinds.length)))) else rA P cfg o st K
  | _,_,_=>rA P cfg o st K
 | .lookup t m x false=>match dB P t,opnd st.tm m,opnd st.tm x with
  | some (.map _ e),.one mc,.one kc=>.look t mc kc st.kinds.length (cV P cfg.opq e st.kinds.length).2 (cV P cfg.opq e st.kinds.length).1 (K ((st.vars (cV P cfg.opq e st.kinds.length).2).put o.dst (cV P cfg.opq e st.kinds.length).1))
  | _, _, _ => .fail "lookup"
 | .call c=>match c.callee with
  | .value y=>match opnd st.tm y with
   | .one (.fnb f b b')=>match st.heap[b]?,st.heap[b']? with
    | some blk, some blk' => if b = b' ∨ blk.pub = true ∨ blk'.pub = true ∨ xF P f = false then .fail "call: blocks" else
     .callb f (c.args.toList.map (opnd st.tm)) blk.ty blk'.ty blk.cells blk'.cells st.kinds.length
      (K ((((st.vars [.seg (widths blk.cells),.seg (widths blk'.cells)]).setB b [.seg st.kinds.length (widths blk.cells)]).setB b' [.seg (st.kinds.length+1) (widths blk'.cells)]).put o.dst .top))
    | _, _ => .fail "call: blocks"
   | _=>rL (if aZt cfg (opnd st.tm y)=true then [] else c.args.toList.flatMap fun x=>aYy st (opnd st.tm x)) st fun st=>rA P cfg o st K
  | _=>rA P cfg o st K
 | _=>rA P cfg o st K
def fQ (P:Program) (cfg:Cfg) (ops:Array Oper):List Nat→St→(St→T)→T
 | [],st,K=>K st
 | i :: l,st,K=>match ops[i]? with
  | none=>fQ P cfg ops l st K
  | some o=>match o.guard with
   | none=>uI P cfg o st fun st=>fQ P cfg ops l st K
   | some (j,want)=>match (ops[j]?).bind (·.dst) with
    | some t=>match st.tm t with
     | .one (.lit (.bool b))=>if b=want then uI P cfg o st fun st=>fQ P cfg ops l st K else fQ P cfg ops l (st.put o.dst bL) K
     | .one (.lit _)=>fQ P cfg ops l (st.put o.dst bL) K
     | .one c=>.branch c
      (if want then uI P cfg o (st.put (some t) (.one (.lit (.bool true)))) fun st=>fQ P cfg ops l st K else fQ P cfg ops l ((st.put (some t) (.one (.lit (.bool true)))).put o.dst bL) K)
      (if want then fQ P cfg ops l ((st.put (some t) (.one (.lit (.bool false)))).put o.dst bL) K else uI P cfg o (st.put (some t) (.one (.lit (.bool false)))) fun st=>fQ P cfg ops l st K)
     | _ => .fail "guard"
    | none => .fail "guard"
section
variable {st:St}{ρ:Env}{k0:Anc}{w0 k w:World}{a:Act}{P:Program}{R:Ctx}{cfg:Cfg}
theorem ext_le (ρ:Env) {n:Nat}(lks:List LK) (us:List Value) (hv:∀i,n≤i→ρ.val i=none) (hk:∀i,n≤i→ρ.kd i=none):ρ.le (ρ.ext n lks us):=by
 refine⟨fun i v h=>?_,fun _ _ h=>h,fun i v h=>?_,fun _ _ h=>h⟩
 ·show (if i<n then ρ.val i else us[i-n]?)=some v <;> grind
 ·show (if i<n then ρ.kd i else lks[i-n]?)=some v <;> grind
theorem Core.old {k0:World}{rows:List RowI}(h:Core ρ k0 w0 k w rows) {r:RowI}(hr:r∈rows) {q:Nat}(hq:aD ρ r=some q):q<w.heap.size:=by
 obtain⟨A,n,c,xs,h1,_,_,_,_,_,_,h8⟩:=h.rows.ok r hr;unfold aD at hq;rw [h1]at hq;rcases h8 with ⟨rfl,_⟩|⟨g,cs,rfl,_,hB,_⟩
 ·cases hq
 ·have:=hB.lt <;> simp_all
theorem Gift.new {base:Nat}{k w:World}{ty:TypeId}{s:Nat}{A:Option Addr}{n c:Nat}{xs:Array Value}(h:Gift base k w ty s A n c xs):∀a,A=some a→base≤a.block:=fun a e=>by
 rcases h.own with ⟨rfl,_⟩|⟨g,cs,rfl,g1,_⟩ <;> grind
theorem kM {n0:Nat}{ty:TypeId}{s:Nat}{A:Option Addr}{n c:Nat}{xs:Array Value}{q:Nat}(h:aD (ρ.ext n0 [.slice,.row] [.slice A n c,.agg xs]) ⟨n0,n0+1,ty,s⟩=some q):∃a,A=some a∧a.block=q:=by
 have e0:=(aK (ρ:=ρ) (n:=n0) (lks:=[.slice,.row]) (us:=[.slice A n c,.agg xs]) 0).1;unfold aD at h <;> grind
theorem Core.gift3 {k0:World}{rows:List RowI}{n0:Nat}(h:Core ρ k0 w0 k w rows) (hv:∀i,n0≤i→ρ.val i=none) (hk:∀i,n0≤i→ρ.kd i=none) {k' w':World}{ty:TypeId}{s:Nat}(hs0:0<s) (s1:Sees k' w') (s2:Below k.heap.size k k') (s3:Below w.heap.size w w')
 {A A' A'':Option Addr}{n c n' c' n'' c'':Nat}{xs xs' xs'':Array Value}(g:Gift k.heap.size k' w' ty s A n c xs) (g':Gift k.heap.size k' w' ty s A' n' c' xs') (g'':Gift k.heap.size k' w' ty s A'' n'' c'' xs'') (ap:Apart A A'∧Apart A A''∧Apart A' A'') :
 Went ρ (ρ.ext n0 [.slice,.row,.slice,.row,.slice,.row] [.slice A n c,.agg xs,.slice A' n' c',.agg xs',.slice A'' n'' c'',.agg xs'']) k0 w0 k w k' w' rows (rows++[⟨n0,n0+1,ty,s⟩,⟨n0+2,n0+3,ty,s⟩,⟨n0+4,n0+5,ty,s⟩]):=by
 have hkw:=h.sees.size;have vn:∀ {m:Nat}{ρ:Env}{lks:List LK}{us:List Value}{L:Nat},us.length=L→lks.length=L→(∀i,m+L≤i→(ρ.ext m lks us).val i=none)∧(∀i,m+L≤i→(ρ.ext m lks us).kd i=none):=fun {m ρ lks us L} h1 h2=>
  ⟨fun i hi=>by show (if i<m then _ else us[i-m]?)=none <;> grind,fun i hi=>by show (if i<m then _ else lks[i-m]?)=none <;> grind⟩
 have l0:ρ.le (ρ.ext n0 [.slice,.row] [.slice A n c,.agg xs]):=Sy.ext_le ρ _ _ hv hk;have w1:=h.gift hs0 s1 s2 s3 g l0;have n1:=vn (m:=n0) (ρ:=ρ) (lks:=[.slice,.row]) (us:=[.slice A n c,.agg xs]) (L:=2) rfl rfl;have l1:(ρ.ext n0 [.slice,.row] [.slice A n c,.agg xs]).le ((ρ.ext n0 [.slice,.row] [.slice A n c,.agg xs]).ext (n0+2) [.slice,.row] [.slice A' n' c',.agg xs']):=Sy.ext_le _ _ _ n1.1 n1.2
 have w2:=w1.gift (n1:=n0+2) rfl h.lt hkw h.kb.size hs0 g' (fun r hr q hq a ea=>by
  rcases qd.1 hr with hr|hr
  ·rw [bG (h.rows.ok r hr) l0]at hq;have:=h.old hr hq;have:=g'.new a ea;omega
  ·rw [qt.1 hr]at hq;obtain⟨b,eb,e⟩:=kM hq
   rw [←e];exact (ap.1 b a eb ea).symm) l1
 have n2:=vn (m:=n0+2) (ρ:=ρ.ext n0 [.slice,.row] [.slice A n c,.agg xs]) (lks:=[.slice,.row]) (us:=[.slice A' n' c',.agg xs']) (L:=2) rfl rfl;have l2:=Sy.ext_le ((ρ.ext n0 [.slice,.row] [.slice A n c,.agg xs]).ext (n0+2) [.slice,.row] [.slice A' n' c',.agg xs']) (n:=n0+2+2) [LK.slice,.row] [.slice A'' n'' c'',.agg xs''] n2.1 n2.2
 have w3:=w2.gift (n1:=n0+2+2) rfl h.lt hkw h.kb.size hs0 g'' (fun r hr q hq a ea=>by
  rcases qd.1 hr with hr|hr
  ·rw [bG (w1.rows.ok r hr) l1]at hq;rcases qd.1 hr with hr|hr
   ·rw [bG (h.rows.ok r hr) l0]at hq;have:=h.old hr hq;have:=g''.new a ea;omega
   ·rw [qt.1 hr]at hq;obtain⟨b,eb,e⟩:=kM hq;rw [←e];exact (ap.2.1 b a eb ea).symm
  ·rw [qt.1 hr]at hq;obtain⟨b,eb,e⟩:=kM hq
   rw [←e];exact (ap.2.2 b a eb ea).symm) l2
 have e1:=rU (ρ:=ρ) (n:=n0) (lks:=[LK.slice,.row]) (lks':=[LK.slice,.row]) (us:=[.slice A n c,.agg xs]) (us':=[.slice A' n' c',.agg xs']) rfl;have e2:=rU (ρ:=ρ) (n:=n0) (lks:=[LK.slice,.row,.slice,.row]) (lks':=[LK.slice,.row]) (us:=[.slice A n c,.agg xs,.slice A' n' c',.agg xs']) (us':=[.slice A'' n'' c'',.agg xs'']) rfl <;> simp_all
theorem Rel.kdnone (h:Rel st ρ k0 w0 k a w):∀i,st.kinds.length≤i→ρ.kd i=none:=fun i hi=>by
 rw [h.kinds,ob hi]
theorem Rel.ext_le (h:Rel st ρ k0 w0 k a w) (lks:List LK) (us:List Value):ρ.le (ρ.ext st.kinds.length lks us):=
 Sy.ext_le ρ lks us h.vals h.kdnone
theorem Rel.ext_ok (h:Rel st ρ k0 w0 k a w) {lks:List LK}{us:List Value}(hf:fitsL lks us):(ρ.ext st.kinds.length lks us).Ok:=fun i kk v h1 h2=>by
 have h1:(if i<st.kinds.length then ρ.kd i else lks[i-st.kinds.length]?)=some kk:=h1;have h2:(if i<st.kinds.length then ρ.val i else us[i-st.kinds.length]?)=some v:=h2
 by_cases e:i<st.kinds.length
 ·rw [og e]at h1 h2;exact h.env i kk v h1 h2
 ·grind [bZ]
theorem Rel.vars (h:Rel st ρ k0 w0 k a w) {lks:List LK}{us:List Value}(hf:fitsL lks us) {k' w':World}(hs:Sees k' w') (hk:Below k.heap.size k k') (hw:Below w.heap.size w w') :
 Rel (st.vars lks) (ρ.ext st.kinds.length lks us) k0 w0 k' a w':=by
 have hle:=h.ext_le lks us;refine
  { anc:=h.anc.trans hle
    up:=h.up.trans (Up.of_below hk)
    dep:=h.dep
    env:=h.ext_ok hf
    kinds:=fun i=>?_
    vals:=fun i hi=>?_
    blks:=h.blks
    inj:=h.inj
    size:=h.size
    tmps:=fun t=>(h.tmps t).le hle
    defers:=h.defers
    sees:=hs
    base:=h.base
    kb:=h.kb.trans (hk.mono h.kb.size)
    wb:=h.wb.trans (hw.mono h.wb.size)
    heap:=fun b blk hb=>?_
    mem:=fun A v hv=>(Up.of_below hk).cell (h.mem A v hv)
    rows:=h.rows.mono hle (fun b g e _=>⟨b,e⟩) (fun g e _=>(hk.block _ (heap_lt e)).trans e) (fun g hg _=>hw.block g hg)
    fam:=h.fam.same h.rows hle (fun b g e _=>⟨b,e⟩) (fun g e _=>(hk.block _ (heap_lt e)).trans e) (fun g hg _=>hw.block g hg) }
 ·show (if i<st.kinds.length then ρ.kd i else lks[i-st.kinds.length]?)=(st.kinds++lks)[i]?;rw [jn];split
  ·exact h.kinds i
  ·rfl
 ·have hi':st.kinds.length+lks.length≤i:=by simp_all [St.vars]
  show (if i<st.kinds.length then ρ.val i else us[i-st.kinds.length]?)=none
  grind [bZ]
 ·obtain⟨n,vs,h1,h2,h3,h4,h5⟩:=h.heap b blk hb;refine⟨n,vs,h1,aJ hle h2,(hw.block _ h3.lt).trans h3,fun hp=>?_,fun hp=>?_⟩
  ·obtain⟨a1,a2⟩:=h4 hp;exact⟨a1,(hk.block _ (heap_lt a2)).trans a2⟩
  ·obtain⟨a1,a2⟩:=h5 hp;exact⟨(hk.block _ a1.lt).trans a1,hle.val _ _ a2⟩
theorem Rel.knows (h:Rel st ρ k0 w0 k a w) (o:Oper):Knows1 ρ st.tm a o:=fun t _=>h.tmps t
theorem aQ {sv:SV}{v:Value}(h:sv.den ρ.bare=some v):sv.den ρ=some v:=SV.den_le (Env.bare_le ρ) h
theorem jO {ν:Env}:∀ {l:List SC}{t:T},(mX l t).den P R ν k→(∀c∈l,c.den ν=some (.bool true))∧t.den P R ν k
 | [],t,h=>⟨by simp,h⟩
 | c :: l,t,h=>by
  unfold mX at h;split at h
  ·simp_all
  ·rename_i l' t' h0;injection h0 with e1 e2;subst e1 e2;obtain⟨h1,h2⟩:=jO h
   exact⟨fun c hc=>by rcases wv.1 hc with rfl|hc;· rfl
                      exact h1 c hc,h2⟩
  ·rename_i c' l' t' _ h0;injection h0 with e1 e2;unfold T.den at h;split at h
   ·obtain⟨h1,h2⟩:=jO h.2 <;> simp_all
   simp_all
theorem Rel.pubOk (h:Rel st ρ k0 w0 k a w):PubOk ρ st.hp:=fun b blk hb hp=>by
 obtain⟨n,vs,h1,_,_,_,h5⟩:=h.heap b blk hb <;> simp_all
theorem Rel.named (h:Rel st ρ k0 w0 k a w) {lks:List LK}{us:List Value}(hf:fitsL lks us):Rel (st.vars lks) (ρ.ext st.kinds.length lks us) k0 w0 k a w:=
 h.vars hf h.sees (Below.refl _ _) (Below.refl _ _)
theorem zY {base:Nat}{q:RowI}{v:Nat}{i:SC}{s j:Nat}(hq:RowOk ρ base k w q) (hv:q.v=v) (hi:(SC.idx i (.len (.var v))).den ρ=some (.bool true)):∃p,(SV.one (.elem (.slr v) i s j)).den ρ=some p:=by
 obtain⟨A,n,c,xs,g1,_,_,_,_,_,g7,g8⟩:=hq;rw [hv]at g1;simp only [SC.den]at hi;split at hi
 ·rename_i x y hx hy;rw [g1]at hy;injection hy with hy;subst hy;unfold tJ at hi;split at hi
  ·rename_i kk I kk' N e;injection e with _ e;injection hi with hi;injection hi with hi;have hi:=ow hi;rcases g8 with ⟨rfl,rfl⟩|⟨g,cs,rfl,_⟩
   ·omega
   simp_all [SV.den,SC.den,kG]
  ·cases hi
 ·cases hi
theorem aCj {d:Option Tmp}{v:SV}{K:St→T}{next:Act→World→Prop}(h:Rel st ρ k0 w0 k a w) (hsim:simple v=true→∃x,v.den ρ=some x) (hT:(aMb d v st K).den P R ρ.bare k)
 (hK:∀x st' ρ' v',v.den ρ=some x→Rel st' ρ' k0 w0 k a w→v'.den ρ'=some x→(K (st'.put d v')).den P R ρ'.bare k→next (a.put d x) w):∃x,v.den ρ=some x∧next (a.put d x) w:=by
 unfold aMb at hT;split at hT
 ·grind
 ·have gen:∀ {sa i:SC}{s j:Nat},(T.elem sa i (K (st.put d (.one (.elem sa i s j))))).den P R ρ.bare k→v=.one (.elem sa i s j)→∃x,v.den ρ=some x∧next (a.put d x) w:=by
   intro sa i s j hG hv;unfold T.den at hG;split at hG
   ·rename_i A n c kk I e1 e2;obtain⟨⟨b,o,rfl⟩,⟨h0,h1⟩,h2⟩:=hG;have hx:(SV.one (.elem sa i s j)).den ρ=some (.pointer (some ⟨b,o+I.toNat*s+j,none⟩)):=by
     simp only [SV.den,SC.den,SC.den_le (Env.bare_le ρ) e1,SC.den_le (Env.bare_le ρ) e2,kG,h0,h1,and_self,if_true]
    grind
   simp_all
  split at hT
  ·rename_i y i s j _;split at hT
   ·rename_i q hq;obtain⟨hq1,hq2⟩:=aN hq;unfold T.den at hT;split at hT
    ·rename_i b hb;obtain⟨rfl,hT⟩:=hT;obtain⟨p,hp⟩:=zY (s:=s) (j:=j) (h.rows.ok q hq1) hq2 (SC.den_le (Env.bare_le ρ) hb) <;> grind
    simp_all
   simp_all
  ·simp_all
  ·split at hT
   ·obtain⟨us,hf,hu⟩:=aR hT;split at hu
    ·rename_i x hx;have hxv:=aQ hu.1;have hx':=aQ (ρ:=ρ.ext st.kinds.length _ us) hx;exact⟨x,hxv,hK x _ _ _ hxv (h.named hf) hx' hu.2⟩
    simp_all
   grind [T.den,aQ]
theorem oQ {ρ:Env}{t:TypeId}{m:Nat}{r:SV}{x:Value}(h:aEd P t r=true) (hm:bT P t=some m) (hx:r.den ρ=some x) (hs:x.cells.size=m):fI P t x:=by
 unfold aEd at h;split at h
 ·have ha:dD P t=some true:=eq_of_beq h;simp only [SV.den,bU]at hx;split at hx
  ·injection hx with hx;subst hx;unfold fI;simp only [ha,hm];exact⟨_,rfl,hs⟩
  ·cases hx
 ·have ha:dD P t=some false:=eq_of_beq h;unfold fI;simp only [ha,hm];exact jU (c:=.var _) rfl hx
 ·have ha:dD P t=some false:=eq_of_beq h;unfold fI;simp only [ha,hm];exact jU (c:=.slr _) rfl hx
 ·cases h
theorem qB {w:World}{mem:Addr→Option Value}(hm:∀A v,mem A=some v→w.cell? A=some v) {b o p:Nat}{u:Value}(h:cellAt mem (some ⟨b,o,none⟩) p=some u):w.cell? ⟨b,o+p,none⟩=some u:=by
 simp_all [cellAt,rW]
theorem qO {v?:Option Nat} {sa i:SC}{s j:Nat}{t:TypeId}{K:SV→St→T}{p:Value}{Q:Value→Prop}(h:Rel st ρ k0 w0 k a w) (hT:(mH P cfg st v? sa i s j t K).den P R ρ.bare k)
 (hv?:∀v,v?=some v→sa=.slr v) (hp:(SC.elem sa i s j).den ρ=some p)
 (hrun:(∀b o' n c kk I x,sa.den ρ=some (.slice (some ⟨b,o',none⟩) n c)→i.den ρ=some (.int kk I)→0≤I→I<n→fI P t x→(∀(p:Nat) u,x.cells[p]?=some u→w.cell? ⟨b,o'+(I.toNat*s+j+p),none⟩=some u)→Q x)) :
 ∃x r lks us,Q x∧fitsL lks us∧r.den (ρ.ext st.kinds.length lks us)=some x∧(K r (st.vars lks)).den P R (ρ.ext st.kinds.length lks us).bare k:=by
 have hp0:=hp;simp only [SC.den]at hp;split at hp
 ·rename_i va vi hva hvi;obtain⟨b,o',n,c,kk,I,rfl,rfl,h0,h1,rfl⟩:=dU hp;unfold mH at hT;split at hT
  ·rename_i m hm;split at hT
   ·rename_i hsh;generalize hl:(aDw P cfg st i t).2=lks at hT;generalize hr:(aDw P cfg st i t).1=res at hT hsh;have key:(T.read sa i s j m st.kinds.length lks res (K res (st.vars lks))).den P R ρ.bare k→
     ∃x r lks us,Q x∧fitsL lks us∧r.den (ρ.ext st.kinds.length lks us)=some x∧(K r (st.vars lks)).den P R (ρ.ext st.kinds.length lks us).bare k:=by
     intro hT;unfold T.den at hT;split at hT
     ·rename_i A _ _ _ _ e1 e2;have e1:=SC.den_le (Env.bare_le ρ) e1;have e2:=SC.den_le (Env.bare_le ρ) e2;rw [hva]at e1;injection e1 with e1;injection e1 with e1 _ _;subst e1;rw [hvi]at e2;injection e2 with e2;injection e2 with _ e2;subst e2;obtain⟨us,hf,hu⟩:=aR hT;split at hu
      ·rename_i x hx;have hx':=aQ (ρ:=ρ.ext st.kinds.length lks us) hx;exact⟨x,_,_,us,hrun b o' n c kk I x hva hvi h0 h1 (oQ hsh hm hx' hu.1.1) fun p u hu'=>qB h.memOk (hu.1.2 p u hu'),hf,hx',hu.2⟩
      ·exact hu.elim
     ·exact hT.elim
    unfold aDt at hT;split at hT
    ·rename_i v;have hsa:=hv? v rfl;split at hT
     ·rename_i q hq;obtain⟨hq1,hq2⟩:=aN hq;split at hT
      ·rename_i hqs;subst hqs;unfold T.den at hT;split at hT
       ·rename_i xs _ _ e1 e2;have e2:=SC.den_le (Env.bare_le ρ) e2;rw [hvi]at e2;injection e2 with e2;injection e2 with _ e2;subst e2;obtain⟨A2,n2,c2,xs2,g1,g2,_,_,_,g6,g7,g8⟩:=h.rows.ok q hq1;have e1:ρ.val q.x=some (.agg xs):=e1;rw [e1]at g2;injection g2 with g2;injection g2 with g2;subst g2;have hva':ρ.val v=some (.slice (some ⟨b,o',none⟩) n c):=by
         have hva2:=hva;rw [hsa]at hva2;simp only [SC.den]at hva2;split at hva2
         ·cases hva2
         ·cases hva2
         ·exact hva2
        rw [hq2,hva']at g1;injection g1 with g1;injection g1 with g1 _ _;subst g1;rcases g8 with ⟨g8,_⟩|⟨g,cs,g8,_,hB,_,g4,_⟩
        ·cases g8
        ·injection g8 with g8;injection g8 with e3 e4 _;subst e3 e4;obtain⟨us,hf,hu⟩:=aR hT;split at hu
         ·rename_i x hx;have hx':=aQ (ρ:=ρ.ext st.kinds.length lks us) hx
          exact⟨x,_,_,us,hrun b 0 n c kk I x hva hvi h0 h1 (oQ hsh hm hx' hu.1.1) fun p u hu'=>by
           rw [hB.cell,qc]
           exact g4 _ u (hu.1.2 p u hu'),hf,hx',hu.2⟩
         ·exact hu.elim
       ·exact hT.elim
      ·exact hT.elim
     ·exact key hT
    ·exact key hT
   ·exact hT.elim
  ·exact hT.elim
 ·cases hp
theorem wD {k w:World}(h:Sees k w) {vs:List Value}(ty:TypeId) :
 ∃k',Sees k' { w with heap:=w.heap.push (.cells vs.toArray ty) }∧Up k k'∧Below k.heap.size k k'∧Below w.heap.size w { w with heap:=w.heap.push (.cells vs.toArray ty) }∧Blk k' w.heap.size ty vs.toArray:=by
 have hsz:=h.size;have hpush:∀(g:Nat),g<w.heap.size→(w.heap.push (.cells vs.toArray ty))[g]?=w.heap[g]?:=fun g hg=>by
  grind
 let k':World:={ k with heap:=k.heap.push (.cells vs.toArray ty) }
 have hpushk:∀(g:Nat),g<k.heap.size→k'.heap[g]?=k.heap[g]?:=fun g hg=>by
  grind
 have hnew:k'.heap[k.heap.size]?=some (.cells vs.toArray ty):=by simp [k']
 refine⟨k',?_,⟨rfl,rfl,rfl,by simp [k'],fun g o hg _=>(hpushk g (heap_lt hg)).trans hg⟩,⟨rfl,rfl,rfl,by simp [k'],fun g hg=>hpushk g hg⟩,⟨rfl,rfl,rfl,by simp,fun g hg=>hpush g hg⟩,by rw [hsz];exact hnew⟩;exact
  { os:=h.os
    tape:=h.tape
    output:=h.output
    size:=by grind
    live:=fun g o hg hd=>by
     by_cases e:g=k.heap.size
     ·grind
     ·have hg':g<k.heap.size:=by grind
      rw [hpushk g hg']at hg;exact (hpush g oq).trans (h.live g o hg hd)
    dark:=fun g hg=>by
     by_cases e:g=k.heap.size
     ·simp_all [eD]
     ·have hg':g<k.heap.size:=by grind
      rw [hpushk g hg']at hg
      obtain⟨cs',t',fr,h1,h2⟩:=h.dark g hg <;> simp_all }
theorem Rel.giftF (h:Rel st ρ k0 w0 k a w) {k' w':World}{ty u:TypeId}{s us:Nat}{A:Option Addr}{n c:Nat}{cs vs xs:Array Value}(hs:0<s) (hu:0<us) (s1:Sees k' w') (s2:Below k.heap.size k k') (s3:Below w.heap.size w w')
 (g:Gift k.heap.size k' w' ty s A n c cs) (gf:GiftF k.heap.size k' w' u us A vs xs) :
 Rel (st.row4 ty s u us) (ρ.ext st.kinds.length [.slice,.row,.row,.fam] [.slice A n c,.agg cs,.agg vs,.agg xs]) k0 w0 k' a w':=by
 have hkw:=h.sees.size;have h0:Rel { st with fam:=none,cur:=[] } ρ k0 w0 k a w:=⟨h.anc,h.up,h.dep,h.env,h.kinds,h.vals,h.blks,h.inj,h.size,h.tmps,h.defers,h.sees,h.base,h.kb,h.wb,h.heap,h.mem,h.rows,fun f hf=>(by cases hf)⟩;have l1:=h.ext_le [.slice,.row] [.slice A n c,.agg cs];have h1:=h0.went (lks:=[.slice,.row]) (us:=[.slice A n c,.agg cs]) ⟨⟨_,_,_,rfl⟩,⟨_,rfl,g.rc⟩,trivial⟩ l1 (h.core.gift hs s1 s2 s3 g l1);have h2:Rel _ ((ρ.ext st.kinds.length [.slice,.row] [.slice A n c,.agg cs]).ext (st.kinds++[LK.slice,.row]).length [.row,.fam] [.agg vs,.agg xs]) k0 w0 k' a w':=h1.vars (lks:=[.row,.fam]) (us:=[.agg vs,.agg xs]) ⟨⟨_,rfl,gf.rc⟩,⟨_,rfl,gf.fc⟩,trivial⟩ s1 (Below.refl _ _) (Below.refl _ _);have ee:(ρ.ext st.kinds.length [.slice,.row] [.slice A n c,.agg cs]).ext (st.kinds++[LK.slice,.row]).length [.row,.fam] [.agg vs,.agg xs]=ρ.ext st.kinds.length [.slice,.row,.row,.fam] [.slice A n c,.agg cs,.agg vs,.agg xs]:=by
  rw [od];exact rU rfl
 rw [ee]at h2;have en:=aK (ρ:=ρ) (n:=st.kinds.length) (lks:=[.slice,.row,.row,.fam]) (us:=[.slice A n c,.agg cs,.agg vs,.agg xs]);refine⟨h2.anc,h2.up,h2.dep,h2.env,h2.kinds,h2.vals,h2.blks,h2.inj,h2.size,h2.tmps,h2.defers,h2.sees,h2.base,h2.kb,h2.wb,h2.heap,h2.mem,h2.rows,fun f hf=>?_⟩;injection hf with hf;subst hf;refine⟨vs,xs,(en 2).1,(en 3).1,(en 2).2,(en 3).2,hu,gf.size,fun j v hj=>?_,gf.inj,fun j b m d hj r hr e=>?_⟩
 ·obtain⟨B,m,d,ds,rfl,e,G⟩:=gf.one j v hj
  exact⟨B,m,d,ds,rfl,e,G.rc,G.size,G.cap,G.own.imp id fun ⟨q,es,eB,g1,g2,g3,g4,g5,g6⟩=>⟨q,es,eB,qr h.kb.size g1,g2,g3,g4,g5,g6,fun b eb=>by
   have:=h.blkLt b _ eb
   omega⟩⟩
 ·obtain⟨B,m',d',ds,e',_,G⟩:=gf.one j _ hj;injection e' with e';subst e';have:=G.new b rfl;rcases qd.1 hr with hr|hr
  ·rw [bG (h.rows.ok r hr) (h.ext_le _ _)]at e;have:=h.core.old hr e;omega
  ·rw [qt.1 hr]at e;have e0:=(en 0).1;rw [jh]at e0;unfold aD at e;simp only [e0]at e;cases A with
   | none=>cases e
   | some q=>injection e with e;exact gf.far j _ _ _ hj q rfl e
theorem fH {o:Oper}{K:St→T}{next:Act→World→Prop}{Q:Exit→Act→World→Prop}(h:Rel st ρ k0 w0 k a w) (hT:(rA P cfg o st K).den P R ρ.bare k)
 (hK:∀st' ρ' k' a' w',Rel st' ρ' k0 w0 k' a' w'→(K st').den P R ρ'.bare k'→next a' w'):o.wp P a w next Q:=by
 have hs:=fC (P:=P) (w:=w) (hp:=st.hp) h.env h.pubOk (h.knows o);unfold rA at hT;unfold Oper.wp;generalize he:bD P st.tm st.hp o=e at hs hT;cases e with
 | pure v needs=>
  simp only at hT;obtain⟨h1,h2⟩:=jO hT;have fin:∀ {v},bD P st.tm st.hp o=.pure v needs→aLa P ρ a w st.hp o (.pure v needs)→(aMb o.dst v st K).den P R ρ.bare k→o.wp P a w next Q:=by
   intro v he hs h2;obtain⟨x,hx,hn⟩:=aCj (next:=next) h (fun hsim=>rB h.env h.pubOk (h.knows o) he (fun c hc=>SC.den_le (Env.bare_le ρ) (h1 c hc)) hsim) h2 fun x st' ρ' v' _ hr hv' ht=>hK _ _ _ _ _ (hr.put o.dst (.inr hv')) ht
   unfold Oper.wp;rw [hs (fun c hc=>SC.den_le (Env.bare_le ρ) (h1 c hc)) x hx,jw];exact hn
  unfold aMr at h2;split at h2
  ·split at h2
   ·unfold T.den at h2;obtain⟨us,hf,hu⟩:=aR h2;split at hu
    ·rename_i y hy;obtain⟨hv,hK'⟩:=hu;rw [hs (fun c hc=>SC.den_le (Env.bare_le ρ) (h1 c hc)) y (aQ hv),jw];exact hK _ _ _ _ _ ((h.named hf).put o.dst (.inr (aQ hy))) hK'
    simp_all
   ·exact fin he hs h2
  ·exact fin he hs h2
 | load v b=>
  simp only at hT;split at hT
  ·rename_i blk hb;obtain⟨n,vs,h1,h2,h3,_⟩:=h.heap b blk hb;obtain⟨x,x1,x2⟩:=hs blk n vs hb h1 h2 h3;rw [x2,jw];unfold aWn at hT;split at hT
   ·split at hT
    ·exact hK _ _ _ _ _ (h.put o.dst (.inr x1)) hT
    ·unfold T.den at hT;obtain⟨us,hf,hu⟩:=aR hT;split at hu
     ·rename_i y hy;obtain⟨hv,hK'⟩:=hu;have hv':=aQ hv;rw [x1]at hv';injection hv' with hv';subst hv';exact hK _ _ _ _ _ ((h.named hf).put o.dst (.inr (aQ hy))) hK'
     simp_all
   ·unfold T.den at hT;obtain⟨us,hf,hu⟩:=aR hT;split at hu
    ·rename_i y hy;obtain⟨hv,hK'⟩:=hu;have hv':=aQ hv;rw [x1]at hv';injection hv' with hv';subst hv';exact hK _ _ _ _ _ ((h.named hf).put o.dst (.inr (aQ hy))) hK'
    simp_all
   ·exact hK _ _ _ _ _ (h.put o.dst (.inr x1)) hT
  trivial
 | alloc ty cs sl=>
  simp only at hT;split at hT
  ·rename_i hw;obtain⟨vs,h1,h2⟩:=hs;have hkd:st.kd=ρ.kd:=funext fun i=>(h.kinds i).symm;have hnw:=bO h.env (by simp_all) h1;split at hT
   ·unfold T.den at hT;obtain⟨us,hf,hu⟩:=aR hT;split at hu
    ·rename_i x hx;obtain⟨hv,hK'⟩:=hu;have hv':=aQ hv;simp only [SV.den,bU,h1]at hv';have hx':=aQ (ρ:=ρ.ext st.kinds.length [.seg cs.length] us) hx;simp only [SV.den,bU]at hx';cases hc:aC (ρ.ext st.kinds.length [.seg cs.length] us) [.seg st.kinds.length cs.length] with
     | none=>simp_all
     | some ws=>
      simp only [hc]at hx';rw [←hv']at hx';injection hx' with hx';injection hx' with hx';have e:ws=vs:=by simp_all
      subst e;obtain⟨ρ',k',hle,e1,e2,hb,hup,hrel⟩:=(h.named hf).alloc (ty:=ty) hc hnw;rw [h2,jw];refine hK _ ρ' k' _ _ (hrel.put o.dst (v:=tX sl st.heap.length) (.inr ?_)) ?_
      ·exact tY hb
      ·exact T.den_le (T.den_up hK' hup) (Env.bare_mono hle)
    simp_all
   obtain⟨ρ',k',hle,e1,e2,hb,hup,hrel⟩:=h.alloc (ty:=ty) h1 hnw;rw [h2,jw];refine hK _ ρ' k' _ _ (hrel.put o.dst (v:=tX sl st.heap.length) (.inr ?_)) ?_
   ·exact tY hb
   ·exact T.den_le (T.den_up hT hup) (Env.bare_mono hle)
  ·cases sl with
   | none=>trivial
   | some m=>
    obtain⟨vs,h1,h2⟩:=hs;unfold T.den at hT;split at hT
    ·rename_i vs' hvs;have e:=aJ (Env.bare_le ρ) hvs;rw [h1]at e;injection e with e;subst e;obtain⟨k',s1,hup,s2,s3,hblk⟩:=wD h.sees (vs:=vs) ty;have hn:=hT w.heap.size k' hup hblk;have hf:fitsL [.any] [.pointer (some ⟨w.heap.size,0,none⟩)]:=⟨⟨rfl,rfl⟩,trivial⟩;have hr1:=(h.vars hf s1 s2 s3).at
     obtain⟨us,hf2,hu⟩:=aR hn;split at hu
     ·rename_i x hx;obtain⟨hv,hK'⟩:=hu;have hval:x=yE (some m) w.heap.size:=by
       have:(SV.one (.psl st.kinds.length 0 m m)).den (ρ.ext st.kinds.length [.any] [.pointer (some ⟨w.heap.size,0,none⟩)])=some (yE (some m) w.heap.size):=by
        have hv0:=aK (ρ:=ρ) (n:=st.kinds.length) (lks:=[LK.any]) (us:=[.pointer (some ⟨w.heap.size,0,none⟩)]) 0;have:=hv0.1;rw [jh]at this;simp only [SV.den,SC.den,this];rfl
       have hv':(SV.one (.psl st.kinds.length 0 m m)).den (ρ.ext st.kinds.length [.any] [.pointer (some ⟨w.heap.size,0,none⟩)])=some x:=aQ hv <;> simp_all
      rw [h2,jw,←hval];exact hK _ _ _ _ _ ((hr1.named hf2).put o.dst (.inr (aQ hx))) hK'
     simp_all
    simp_all
 | store b cs=>
  simp only at hT;split at hT
  ·rename_i blk hb;split at hT
   ·rename_i hw;simp only [qf,Bool.not_eq_true']at hw;obtain⟨n,vs,h1,h2,h3,h4,h5⟩:=h.heap b blk hb;have hkd:st.kd=ρ.kd:=funext fun i=>(h.kinds i).symm;obtain⟨us,u1,u2⟩:=hs (by simp_all) blk n vs hb h1 h2 h3;rw [u2,Oper.upon_skip];exact hK _ _ _ _ _ ((h.store hb hw.1 h1 u1 (bO h.env (by simp_all) u1)).put o.dst (.inr rfl)) hT
   trivial
  trivial
 | call f args=>
  simp only at hT;split at hT
  ·split at hT
   ·split at hT
    ·split at hT
     ·rename_i hi;unfold T.den at hT;split at hT
      ·rename_i vs hvs;rw [hs vs (aX (Env.bare_le ρ) hvs),xt];refine (hT k (Up.refl k) w h.sees).mono ?_;rintro e' w' ⟨A,n,c,cs,ws,xs,k',rfl,s1,s2,s3,hg,hf,A',n',c',cs',ws',xs',he',ht⟩;simp only [Value.tuple.injEq,Array.mk.injEq,List.cons.injEq,Value.slice.injEq,Value.agg.injEq,and_true]at he';obtain⟨⟨rfl,rfl,rfl⟩,rfl,rfl,rfl⟩:=he';have e0:=(aK (ρ:=ρ) (n:=st.kinds.length) (lks:=[.slice,.row,.row,.fam]) (us:=[.slice A n c,.agg cs,.agg ws,.agg xs]) 0).1;rw [jh]at e0;have hrel:=(h.giftF hi.1 hi.2 s1 s2 s3 hg hf).put o.dst (v:=.one (.slr st.kinds.length)) (x:=.slice A n c) (.inr (by simp only [SV.den,SC.den,e0];rfl));exact hK _ _ _ _ _ hrel.at ht
      ·exact hT.elim
     ·exact hT.elim
    ·exact hT.elim
   ·exact hT.elim
  split at hT
  ·split at hT
   ·split at hT
    ·rename_i hi;unfold T.den at hT;split at hT
     ·rename_i vs hvs;rw [hs vs (aX (Env.bare_le ρ) hvs),xt];refine (hT k (Up.refl k) w h.sees).mono ?_;rintro e' w' ⟨A,n,c,xs,k',rfl,s1,s2,s3,hg,A',n',c',cs',he',ht⟩;obtain⟨⟨rfl,rfl,rfl⟩,rfl⟩:=he';have hle:=h.ext_le [.slice,.row] [.slice A n c,.agg xs];have g:=h.core.gift hi s1 s2 s3 hg hle;have e0:=(aK (ρ:=ρ) (n:=st.kinds.length) (lks:=[.slice,.row]) (us:=[.slice A n c,.agg xs]) 0).1;have hrel:=(h.went (lks:=[.slice,.row]) (us:=[.slice A n c,.agg xs]) ⟨⟨_,_,_,rfl⟩,⟨_,rfl,hg.rc⟩,trivial⟩ hle g).put o.dst (v:=.one (.slr st.kinds.length)) (x:=.slice A n c) (.inr (by simp_all [SV.den,SC.den]));exact hK _ _ _ _ _ hrel.at ht
     simp_all
    trivial
   ·split at hT
    ·rename_i e z d hel;split at hT
     ·rename_i hi;unfold T.den at hT;split at hT
      ·rename_i vs hvs;rw [hs vs (aX (Env.bare_le ρ) hvs),xt];refine (hT k (Up.refl k) w h.sees).mono ?_;rintro e' w' ⟨A,n,c,xs,A',n',c',xs',A'',n'',c'',xs'',k',rfl,s1,s2,s3,g,g',g'',hap,B,m,d1,ys,B',m',d',ys',B'',m'',d'',ys'',he',ht⟩;obtain⟨⟨rfl,rfl,rfl⟩,rfl,⟨rfl,rfl,rfl⟩,rfl,⟨rfl,rfl,rfl⟩,rfl⟩:=he';have hle:=h.ext_le [.slice,.row,.slice,.row,.slice,.row] [.slice A n c,.agg xs,.slice A' n' c',.agg xs',.slice A'' n'' c'',.agg xs''];have gg:=h.core.gift3 (n0:=st.kinds.length) h.vals h.kdnone hi s1 s2 s3 g g' g'' hap;have e0:=(aK (ρ:=ρ) (n:=st.kinds.length) (lks:=[.slice,.row,.slice,.row,.slice,.row]) (us:=[.slice A n c,.agg xs,.slice A' n' c',.agg xs',.slice A'' n'' c'',.agg xs'']) 0).1;have e2:=(aK (ρ:=ρ) (n:=st.kinds.length) (lks:=[.slice,.row,.slice,.row,.slice,.row]) (us:=[.slice A n c,.agg xs,.slice A' n' c',.agg xs',.slice A'' n'' c'',.agg xs'']) 2).1;have e4:=(aK (ρ:=ρ) (n:=st.kinds.length) (lks:=[.slice,.row,.slice,.row,.slice,.row]) (us:=[.slice A n c,.agg xs,.slice A' n' c',.agg xs',.slice A'' n'' c'',.agg xs'']) 4).1
       have hrel:=(h.went (lks:=[.slice,.row,.slice,.row,.slice,.row]) (us:=[.slice A n c,.agg xs,.slice A' n' c',.agg xs',.slice A'' n'' c'',.agg xs'']) ⟨⟨_,_,_,rfl⟩,⟨_,rfl,g.rc⟩,⟨_,_,_,rfl⟩,⟨_,rfl,g'.rc⟩,⟨_,_,_,rfl⟩,⟨_,rfl,g''.rc⟩,trivial⟩ hle gg).put o.dst (v:=qG d [.slr st.kinds.length,.slr (st.kinds.length+2),.slr (st.kinds.length+4)]) (x:=aAf d (.agg #[.slice A n c,.slice A' n' c',.slice A'' n'' c''])) (.inr (vK (by
        simp_all [SV.den,zB,aC,SC.scalar,SC.den]) d))
       exact hK _ _ _ _ _ hrel.at ht
      simp_all
     trivial
    trivial
  ·split at hT
   ·rename_i q hq;have hq:q∈st.rows:=by
     split at hq
     ·exact pI hq
     ·cases hq
    unfold T.den at hT;split at hT
    ·rename_i A n c xs vs e1 e2 hvs;rw [hs vs (aX (Env.bare_le ρ) hvs),xt];obtain⟨k1,u1,u2,u3⟩:=h.pubRow hq (cN st q) e1 e2;refine (hT k1 u1 u2 w u3.sees).mono ?_;rintro e w' ⟨v,k',rfl,s1,s2,s3,hex⟩;obtain⟨us,hf,hr,ht⟩:=aR hex;have hr':SV.den (ρ.ext st.kinds.length (cV P cfg.opq o.type st.kinds.length).2 us) (cV P cfg.opq o.type st.kinds.length).1=some v:=
      aQ (ρ:=ρ.ext st.kinds.length (cV P cfg.opq o.type st.kinds.length).2 us) hr
     obtain⟨kp,p1,p2⟩:=aKz h.sees s1 s3;exact hK _ _ _ _ _ ((h.vars hf p1 p2 s3).put o.dst (.inr hr')).at (ht kp (Up.of_below p2))
    ·exact hT.elim
   ·unfold T.den at hT;split at hT
    ·rename_i vs hvs;rw [hs vs (aX (Env.bare_le ρ) hvs),xt];refine (hT k (Up.refl k) w h.sees).mono ?_;rintro e w' ⟨v,k',rfl,s1,s2,s3,hex⟩;obtain⟨us,hf,hr,ht⟩:=aR hex;have hr':SV.den (ρ.ext st.kinds.length (cV P cfg.opq o.type st.kinds.length).2 us) (cV P cfg.opq o.type st.kinds.length).1=some v:=
      aQ (ρ:=ρ.ext st.kinds.length (cV P cfg.opq o.type st.kinds.length).2 us) hr
     have hrel:=(h.vars hf s1 s2 s3).put o.dst (.inr hr');exact hK _ _ _ _ _ hrel.at ht
    simp_all
 | read sa i s j t=>
  obtain⟨p,hp⟩:=nU h.env h.pubOk (h.knows o) he;obtain⟨x,r,lks,us,hq,hf,hr,ht⟩:=qO (Q:=fun x=>(execOp a.eval o).run P w=.ok (.value x) w) h hT (fun _ e=>by cases e) hp fun b o' n c kk I x e1 e2 h0 h1 h2 h3=>hs b o' n c kk I x e1 e2 h0 h1 h2 h3;rw [hq,jw];exact hK _ _ _ _ _ ((h.named hf).put o.dst (.inr hr)) ht
 | getw v i s j t=>
  obtain⟨p,hp⟩:=nT h.env h.pubOk (h.knows o) he;obtain⟨x,r,lks,us,hq,hf,hr,ht⟩:=qO (Q:=fun x=>(execOp a.eval o).run P w=.ok (.value x) w) h hT (fun v' e=>by simp_all) hp fun b o' n c kk I x e1 e2 h0 h1 h2 h3=>hs b o' n c kk I x e1 e2 h0 h1 h2 h3;rw [hq,jw];exact hK _ _ _ _ _ ((h.named hf).put o.dst (.inr hr)) ht
 | fail why=>trivial
theorem Rel.pub (h:Rel st ρ k0 w0 k a w) {b n:Nat}{blk:SB}{vs:List Value}(hb:st.heap[b]?=some blk) (hp:blk.pub=false) (hn:ρ.blk b=some n) (hc:aC ρ blk.cells=some vs) :
 ∃k',Up k k'∧Blk k' n blk.ty vs.toArray∧Rel (st.pubB b) (ρ.ext st.kinds.length [.any] [.pointer (some ⟨n,0,none⟩)]) k0 w0 k' a w:=by
 obtain⟨n',vs',h1,h2,h3,h4,_⟩:=h.heap b blk hb;rw [hn]at h1;injection h1 with h1;subst h1;rw [hc]at h2;injection h2 with h2;subst h2;obtain⟨hbase,hdead⟩:=h4 hp
 let k':World:={ k with heap:=k.heap.setIfInBounds n (.cells vs.toArray blk.ty (0,0)) }
 have hoth:∀g,g≠n→k'.heap[g]?=k.heap[g]?:=fun g hg=>by
  grind
 have hown:k'.heap[n]?=some (.cells vs.toArray blk.ty (0,0)):=by
  grind
 have hsize:k'.heap.size=k.heap.size:=by simp [k']
 have hup:Up k k':=⟨rfl,rfl,rfl,oq,fun g o hg hd=>by
  grind⟩
 have hfit:fitsL [.any] [.pointer (some ⟨n,0,none⟩)]:=⟨⟨rfl,rfl⟩,trivial⟩;have hle:=h.ext_le [.any] [.pointer (some ⟨n,0,none⟩)];refine⟨k',hup,hown,?_⟩;exact
  { anc:=h.anc.trans hle
    up:=h.up.trans hup
    dep:=h.dep
    env:=h.ext_ok hfit
    kinds:=fun i=>by
     show (if i<st.kinds.length then ρ.kd i else [LK.any][i-st.kinds.length]?)=(st.kinds++[.any])[i]?;rw [jn];split
     ·exact h.kinds i
     ·rfl
    vals:=fun i hi=>by
     have hi':st.kinds.length+1≤i:=by simp_all [St.pubB]
     show (if i<st.kinds.length then ρ.val i else [Value.pointer (some ⟨n,0,none⟩)][i-st.kinds.length]?)=none <;> grind
    blks:=fun b' hb'=>h.blks b' (by simp_all [St.pubB])
    inj:=h.inj
    size:=h.size
    tmps:=fun t=>(h.tmps t).le hle
    defers:=h.defers
    sees:=
     { os:=h.sees.os
       tape:=h.sees.tape
       output:=h.sees.output
       size:=by rw [hsize];exact h.sees.size
       live:=fun g o hg hd=>by
        by_cases e:g=n
        ·subst e;rw [hown]at hg;injection hg with hg;subst hg;exact h3
        ·rw [hoth g e]at hg;exact h.sees.live g o hg hd
       dark:=fun g hg=>by
        by_cases e:g=n
        ·simp_all [eD]
        ·rw [hoth g e]at hg;exact h.sees.dark g hg }
    base:=h.base
    mem:=fun A v hv=>hup.cell (h.mem A v hv)
    rows:=h.rows.mono hle (fun b g e _=>⟨b,e⟩) (fun g e hb=>(hoth g fun e'=>hb b (by simp_all)).trans e) (fun _ _ _=>rfl)
    fam:=h.fam.same h.rows hle (fun b g e _=>⟨b,e⟩) (fun g e hb=>(hoth g fun e'=>hb b (by simp_all)).trans e) (fun _ _ _=>rfl)
    kb:=⟨h.kb.os,h.kb.tape,h.kb.output,by grind,fun g hg=>(hoth g oq).trans (h.kb.block g hg)⟩
    wb:=h.wb
    heap:=fun b' blk' hb'=>by
     unfold St.pubB at hb';simp only [ka]at hb'
     by_cases e:b=b'
     ·subst e;rw [hb]at hb';simp at hb';subst hb';refine⟨n,vs,hn,aJ hle hc,h3,(fun hp'=>by cases hp'),fun _=>⟨hown,?_⟩⟩;show (if st.kinds.length<st.kinds.length then ρ.val st.kinds.length else [Value.pointer (some ⟨n,0,none⟩)][st.kinds.length-st.kinds.length]?)=_;rw [oh oq,Nat.sub_self];rfl
     ·simp only [e]at hb';have hb'':st.heap[b']?=some blk':=by simpa using hb'
      obtain⟨n2,vs2,g1,g2,g3,g4,g5⟩:=h.heap b' blk' hb'';have hne:n2≠n:=fun e'=>e (h.inj _ _ _ hbase hn (e'▸g1));refine⟨n2,vs2,g1,aJ hle g2,g3,fun hp'=>?_,fun hp'=>?_⟩
      ·obtain⟨a1,a2⟩:=g4 hp';exact⟨a1,(hoth n2 hne).trans a2⟩
      ·obtain⟨a1,a2⟩:=g5 hp'
       exact⟨(hoth n2 hne).trans a1,hle.val _ _ a2⟩ }
theorem pD {ρ:Env}{i:Nat}{v:Value}(hi:ρ.val i=some v):∀ {is:List Nat}{vs:List Value},kJ ρ is=some vs→kJ ρ (is++[i])=some (vs++[v])
 | [],vs,h=>by simp_all [kJ]
 | j :: is,vs,h=>by
  simp only [kJ]at h;split at h
  ·rename_i x us h1 h2;injection h with h;subst h;simp [kJ,h1,pD hi h2]
  ·cases h
theorem mP {K:St→List Nat→T}:∀ {xs:List Operand}{st:St}{ρ:Env}{k:World}{acc:List Nat}{vs:List Value},Rel st ρ k0 w0 k a w→kJ ρ acc=some vs→(aLr st xs acc K).den P R ρ.bare k→
 ∃st' ρ' k' ids,Rel st' ρ' k0 w0 k' a w∧kJ ρ' ids=some (vs++xs.map a.eval)∧(K st' ids).den P R ρ'.bare k'
 | [],st,ρ,k,acc,vs,h,hc,hT=>⟨st,ρ,k,acc,h,by simp_all,hT⟩
 | x :: xs,st,ρ,k,acc,vs,h,hc,hT=>by
  unfold aLr at hT;split at hT
  ·rename_i b hx;have h1:(SV.one (.ptr b 0)).den ρ=some (a.eval x):=by rw [←hx];exact iA (fun t _=>h.tmps t) (by rw [hx];simp)
   simp only [SV.den,SC.den]at h1;split at h1
   ·rename_i n hn;split at hT
    ·rename_i blk hb;split at hT
     ·rename_i hp;obtain⟨n',vs',g1,g2,g3,g4,g5⟩:=h.heap b blk hb;obtain⟨_,g6⟩:=g5 hp;obtain⟨st',ρ',k',ids,r1,r2,r3⟩:=mP h (pD g6 hc) hT <;> grind
     ·have hp':blk.pub=false:=by simp_all
      obtain⟨n',vs',g1,g2,g3,g4,g5⟩:=h.heap b blk hb;unfold T.den at hT;split at hT
      ·rename_i us hus;have:=aJ (Env.bare_le ρ) hus;rw [g2]at this;injection this with this;subst this;obtain⟨k',u1,u2,u3⟩:=h.pub hb hp' hn g2;have hT':=hT n k' u1 u2;have hle:=h.ext_le [.any] [.pointer (some ⟨n,0,none⟩)];have hv:(ρ.ext st.kinds.length [.any] [.pointer (some ⟨n,0,none⟩)]).val st.kinds.length=some (.pointer (some ⟨n,0,none⟩)):=by
        show (if st.kinds.length<st.kinds.length then ρ.val st.kinds.length else [Value.pointer (some ⟨n,0,none⟩)][st.kinds.length-st.kinds.length]?)=_ <;> simp_all
       obtain⟨st',ρ',k2,ids,r1,r2,r3⟩:=mP u3.at (rS (Env.at_le u3.mem) (pD hv (rS hle hc))) hT' <;> grind
      simp_all
    trivial
   ·cases h1
  trivial
theorem dG {t e:TypeId}{i:TypeInfo}{z:Value}(h:iQ P t=some (e,i,z)):P.underlying t=some (.slice e)∧P.info? e=some i∧i.zero=some z∧z.cells.size=i.size∧0<i.size∧∀u∈z.cells.toList,u.scalar=true∧u.noWord=true:=by
 unfold iQ at h;simp only [jY,iD]at h;split at h
 ·split at h
  ·split at h
   ·split at h
    ·rename_i hc;simp only [qf,Array.all_eq_true']at hc <;> simp_all
    ·cases h
   ·cases h
  ·cases h
 ·cases h
theorem wH {l c:Operand}(h:yH l c=true):a.eval l=a.eval c:=by
 unfold yH at h <;> grind
theorem SC.psub_den {ρ:Env}{b p n:Nat}(hb:ρ.blk b=some n) (hp:ρ.val p=some (.pointer (some ⟨n,0,none⟩))) (c:SC):(c.psub b p).den ρ=c.den ρ:=by
 unfold SC.psub <;> grind [SC.den]
theorem SC.psub_scalar (b p:Nat) (c:SC):(c.psub b p).scalar=c.scalar:=by
 unfold SC.psub;split
 ·split <;> rfl
 ·rfl
theorem gD {ρ:Env}{b p n:Nat}(hb:ρ.blk b=some n) (hp:ρ.val p=some (.pointer (some ⟨n,0,none⟩))):∀cs:List SC,aC ρ (cs.map (SC.psub b p))=aC ρ cs
 | []=>rfl
 | c :: cs=>by
  rw [zr]
  by_cases hrun:c.isRun=true
  ·have e:c.psub b p=c:=by cases c <;> first|rfl|cases hrun
   rw [e,eW hrun,eW hrun,gD hb hp cs]
  have hrun:c.isRun=false:=by simp_all
  by_cases hseg:∃i m,c=.seg i m
  ·obtain⟨i,m,rfl⟩:=hseg;show aC ρ (.seg i m :: _)=_;simp only [aC,gD hb hp cs]
  ·have hn:∀i m,c=.seg i m→False:=fun i m e=>hseg ⟨i,m,e⟩;have hn':∀i m,c.psub b p=.seg i m→False:=fun i m e=>by
    unfold SC.psub at e <;> grind
   have hrun':(c.psub b p).isRun=false:=by
    unfold SC.psub;split
    ·split <;> rfl
    ·exact hrun
   rw [cF hrun' hn',cF hrun hn,SC.psub_scalar,SC.psub_den hb hp,gD hb hp cs]
theorem SV.psub_den {ρ:Env}{b p n:Nat}(hb:ρ.blk b=some n) (hp:ρ.val p=some (.pointer (some ⟨n,0,none⟩))) (v:SV):(v.psub b p).den ρ=v.den ρ:=by
 cases v with
 | one c=>exact SC.psub_den hb hp c
 | agg cs=>simp_all [SV.psub,SV.den,bU,gD]
 | _=>rfl
theorem Ok.psub {ρ:Env}{b p n:Nat}(hb:ρ.blk b=some n) (hp:ρ.val p=some (.pointer (some ⟨n,0,none⟩))) {sv:SV}{v:Value}(h:Ok ρ sv v):Ok ρ (sv.psub b p) v:=by
 rcases h with h|h
 ·exact .inl (by rw [h];rfl)
 ·exact .inr (by simp_all [SV.psub_den])
theorem Rel.psub (h:Rel st ρ k0 w0 k a w) {b p n:Nat}(hb:ρ.blk b=some n) (hp:ρ.val p=some (.pointer (some ⟨n,0,none⟩))):Rel (st.psub b p) ρ k0 w0 k a w:=
 { h with
   dep:=h.dep
   kinds:=h.kinds
   vals:=h.vals
   blks:=fun b' hb'=>h.blks b' (by simp_all [St.psub])
   size:=by simp [St.psub,h.size,uL]
   tmps:=fun t=>by
    have e:(st.psub b p).tm t=(st.tm t).psub b p:=by
     exact Tab.get_map rfl st.tmps t
    rw [e];exact (h.tmps t).psub hb hp
   heap:=fun b' blk hb'=>by
    simp only [St.psub,jb]at hb';cases hx:st.heap[b']? with
    | none=>simp_all
    | some x=>
     rw [hx]at hb';simp at hb';subst hb';obtain⟨n',vs,h1,h2,h3⟩:=h.heap b' x hx <;> simp_all [gD]
   rows:=h.rows
   fam:=h.fam }
theorem cZ {K:St→T}:∀ {l:List SC}{st:St}{ρ:Env}{k:World},Rel st ρ k0 w0 k a w→(rL l st K).den P R ρ.bare k→∃st' ρ' k',Rel st' ρ' k0 w0 k' a w∧(K st').den P R ρ'.bare k'
 | [],st,ρ,k,h,hT=>⟨st,ρ,k,h,hT⟩
 | c :: l,st,ρ,k,h,hT=>by
  unfold rL at hT;split at hT
  ·split at hT
   ·rename_i r hr;obtain⟨hr1,hr2⟩:=aN hr;unfold T.den at hT;split at hT
    ·rename_i A n c xs e1 e2;obtain⟨k',u1,u2,u3⟩:=h.pubRow hr1 (cN st r) e1 e2;exact cZ u3.at (hT k' u1 u2)
    simp_all
   ·exact cZ h hT
  ·rename_i b o n c;split at hT
   ·rename_i blk hb;obtain⟨n',vs',g1,g2,g3,g4,g5⟩:=h.heap b blk hb;split at hT
    ·rename_i hp;exact cZ (h.psub g1 (g5 hp).2) hT
    ·have hp':blk.pub=false:=by simp_all
     unfold T.den at hT;split at hT
     ·rename_i us hus;have:=aJ (Env.bare_le ρ) hus;rw [g2]at this;injection this with this;subst this;obtain⟨k',u1,u2,u3⟩:=h.pub hb hp' g1 g2;have hT':=hT n' k' u1 u2;have hv:(ρ.ext st.kinds.length [.any] [.pointer (some ⟨n',0,none⟩)]).val st.kinds.length=some (.pointer (some ⟨n',0,none⟩)):=by
       show (if st.kinds.length<st.kinds.length then ρ.val st.kinds.length else [Value.pointer (some ⟨n',0,none⟩)][st.kinds.length-st.kinds.length]?)=_ <;> simp_all
      exact cZ (u3.at.psub (b:=b) (p:=st.kinds.length) (n:=n') g1 hv) hT'
     simp_all
   ·exact cZ h hT
  ·exact cZ h hT
def aWj (ρ:Env) (w:World) (s:Nat) (B:Option Addr) (n:Nat) (new:RC) (m:SC):Prop:=∀us kk M,sT ρ.bare new=some us→m.den ρ.bare=some (.int kk M)→us.length=M.toNat*s→0≤M→
 M.toNat=n∧(B=none→n=0)∧(∀b,B=some b→∀(j:Nat) u,us[j]?=some u→w.cell? (b.add j)=some u)∧∀u∈us,u.scalar=true∧u.noWord=true
theorem lJ {ρ:Env}{x:Nat}{us:List Value}(h:sT ρ (.var x)=some us):∃xs,ρ.val x=some (.agg xs)∧ρ.kd x=some .row∧us=xs.toList:=by
 simp only [sT]at h <;> grind
theorem aDb {s:Nat}{y:SV}{vy:Value}{K:RC→SC→St→T}(hs:0<s) (h:Rel st ρ k0 w0 k a w) (hy:y.den ρ=some vy) (hT:(aYi st s y K).den P R ρ.bare k) :
 ∃st' ρ' B n c new m,Rel st' ρ' k0 w0 k a w∧ρ.le ρ'∧st'.rows=st.rows∧vy=.slice B n c∧aWj ρ' w s B n new m∧(K new m st').den P R ρ'.bare k:=by
 have hkd:st.kd=ρ.kd:=funext fun i=>(h.kinds i).symm;have spread:∀ {c:SC}{m:SC},(c.den ρ=some vy)→(∀A n c',vy=.slice A n c'→∀(ρ':Env) kk M,ρ.le ρ'→m.den ρ'=some (.int kk M)→M.toNat=n)→(T.spread c s st.kinds.length (K (.var st.kinds.length) m (st.vars [LK.row]))).den P R ρ.bare k→
  ∃st' ρ' B n c new m,Rel st' ρ' k0 w0 k a w∧ρ.le ρ'∧st'.rows=st.rows∧vy=.slice B n c∧aWj ρ' w s B n new m∧(K new m st').den P R ρ'.bare k:=by
  intro c m hc hm hT;unfold T.den at hT;split at hT
  ·rename_i A n c' e;have e:=SC.den_le (Env.bare_le ρ) e;rw [hc]at e;injection e with e;subst e;obtain⟨cs,h1,⟨h2,h3⟩,h4⟩:=hT;have hle:=h.ext_le [LK.row] [.agg cs];have hn:∀(p:Nat) u,cs[p]?=some u→∃b o,A=some ⟨b,o,none⟩∧w.cell? ⟨b,o+p,none⟩=some u:=fun p u hu=>by
    have:=h3 p u hu;unfold cellAt at this;split at this
    ·rename_i b o;exact⟨b,o,rfl,h.memOk _ _ (rW this).1⟩
    ·cases this
   refine⟨_,_,A,n,c',_,_,h.named (lks:=[LK.row]) (us:=[.agg cs]) ⟨⟨_,rfl,h1⟩,trivial⟩,hle,rfl,rfl,?_,h4⟩;intro us kk M hu hM hl h0;have hMn:M.toNat=n:=hm A n c' rfl _ kk M (hle.trans (Env.le.refl _)) (SC.den_le (Env.bare_le _) hM);obtain⟨xs,x1,x2,rfl⟩:=lJ hu;have x1:(ρ.ext st.kinds.length [LK.row] [.agg cs]).val st.kinds.length=some (.agg xs):=x1;have e0:=(aK (ρ:=ρ) (n:=st.kinds.length) (lks:=[LK.row]) (us:=[.agg cs]) 0).1;rw [jh,x1]at e0;injection e0 with e0;injection e0 with e0;subst e0;refine⟨hMn,fun hA=>?_,fun b hb j u hj=>?_,fun u hu=>h1 u hu⟩
   ·rcases ju n with h0|h0
    ·exact h0
    ·have hpos:0<xs.size:=by simp_all
     obtain⟨b,o,e,_⟩:=hn 0 xs[0] (ql hpos) <;> simp_all
   grind [bK]
  simp_all
 unfold aYi at hT;split at hT
 ·rename_i b off n c;split at hT
  ·rename_i blk hb;split at hT
   ·rename_i cs hcut;split at hT
    ·rename_i hw;obtain⟨n',vs,g1,g2,g3,_⟩:=h.heap b blk hb;simp only [SV.den,SC.den,g1]at hy;injection hy with hy;subst hy;refine⟨st,ρ,_,_,_,_,_,h,Env.le.refl ρ,rfl,rfl,?_,hT⟩;intro us kk M hu hM hl h0;simp only [SC.den]at hM;injection hM with hM;injection hM with _ hM;have hu:aC ρ cs=some us:=aJ (Env.bare_le ρ) hu;obtain⟨c1,c2⟩:=fE h.env hcut g2;rw [hu]at c1;injection c1 with c1;refine⟨oq,fun e=>(by cases e),fun b' hb' j u hj=>?_,fun u hu'=>⟨cD h.env hu u hu',bO h.env (by simp_all) hu u hu'⟩⟩;injection hb' with hb';subst hb';rw [bK,g3.cell] <;> grind
    trivial
   trivial
  trivial
 ·rename_i v;have hv:ρ.val v=some vy:=by
   simp only [SV.den,SC.den]at hy <;> grind
  have hvar:(SC.var v).den ρ=some vy:=hy;have hlen:∀A n c',vy=.slice A n c'→∀(ρ':Env) kk M,ρ.le ρ'→(SC.len (.var v)).den ρ'=some (.int kk M)→M.toNat=n:=fun A n c' e ρ' kk M hl hM=>by
   simp only [SC.den,hl.val _ _ hv,e,zz,oA]at hM <;> grind
  split at hT
  ·rename_i r hr;obtain⟨hr1,hr2⟩:=aN hr;split at hT
   ·rename_i hrs;obtain⟨A,n,c,xs,g1,g2,g3,g4,g5,g6,g7,g8⟩:=h.rows.ok r hr1;rw [hr2,hv]at g1;injection g1 with g1;subst g1;refine⟨st,ρ,A,n,c,_,_,h,Env.le.refl ρ,rfl,rfl,?_,hT⟩;intro us kk M hu hM hl h0;obtain⟨xs',x1,x2,rfl⟩:=lJ hu;have x1:ρ.val r.x=some (.agg xs'):=x1;rw [g2]at x1;injection x1 with x1;injection x1 with x1;subst x1;have hrc:RowC xs:=by
     obtain⟨cs',e,hc⟩:=h.env _ _ _ g4 g2 <;> simp_all
    refine⟨hlen A n c rfl ρ kk M (Env.le.refl ρ) (SC.den_le (Env.bare_le ρ) hM),fun hA=>?_,fun b hb j u hj=>?_,fun u hu=>hrc u hu⟩
    ·simp_all
    ·rcases g8 with ⟨g8,_⟩|⟨g,cs,e,_,hB,_,g9,_⟩
     ·simp_all
     ·rw [hb]at e;injection e with e;subst e;rw [bK,hB.cell,qc] <;> simp_all
   trivial
  grind
 ·rename_i c _ _;have hc:c.den ρ=some vy:=hy <;> grind [SC.den,SC.den_le,oA]
 trivial
theorem zD {s:Nat}{e:TypeId}{x:SV}{vx:Value}{K:RowI→St→T}(hs:0<s) (h:Rel st ρ k0 w0 k a w) (hx:x.den ρ=some vx) (hT:(aLn st x e s K).den P R ρ.bare k) :
 ∃st' ρ' r,Rel st' ρ' k0 w0 k a w∧st'.tmps=st.tmps∧r∈st'.rows∧r.ty=e∧r.s=s∧ρ'.val r.v=some vx∧(K r st').den P R ρ'.bare k:=by
 unfold aLn at hT;split at hT
 ·split at hT
  ·rename_i r hr;obtain⟨hr1,hr2⟩:=aN hr;split at hT
   ·grind [SV.den,SC.den]
   trivial
  trivial
 ·injection hx with hx;subst hx;unfold T.den at hT;split at hT
  ·rename_i vs hvs;injection hvs with hvs;subst hvs;have h1:=hT none 0 0 #[] rfl rfl (oy _);have hle:=h.ext_le [.slice,.row] [.slice none 0 0,.agg #[]];have e0:=aK (ρ:=ρ) (n:=st.kinds.length) (lks:=[.slice,.row]) (us:=[.slice none 0 0,.agg #[]]) 0;exact⟨_,_,_,h.freshNil (rows0:=st.rows) (ty:=e) (fun r hr=>hr) hs hle,rfl,by grind [St.row2],rfl,rfl,e0.1,h1⟩
  simp_all
 trivial
theorem Rel.rewr (h:Rel st ρ k0 w0 k a w) {b b' n m:Nat}{blk blk':SB}{us us':List Value}(hb:st.heap[b]?=some blk) (hb':st.heap[b']?=some blk') (hne:b≠b') (hp:blk.pub=false) (hp':blk'.pub=false) (hn:ρ.blk b=some n) (hm:ρ.blk b'=some m)
 (hd:k.heap[n]?=some dead) (hd':k.heap[m]?=some dead) (hnm:n≠m) (B1:Blk w n blk.ty us.toArray) (B2:Blk w m blk'.ty us'.toArray) {k' w':World}{ds ds':Array Value}{M M':Nat}(s1:Sees k' w') (s2:Below k.heap.size k k') (hw:Rewr n m w w') (D1:Blk w' n blk.ty ds) (D2:Blk w' m blk'.ty ds') (g1:Seg M ds) (g2:Seg M' ds') :
 Rel (((st.vars [.seg M,.seg M']).setB b [.seg st.kinds.length M]).setB b' [.seg (st.kinds.length+1) M']) (ρ.ext st.kinds.length [.seg M,.seg M'] [.agg ds,.agg ds']) k0 w0 k' a w':=by
 have hget:∀g,(World.putBlk (World.putBlk w' n blk.ty us.toArray) m blk'.ty us'.toArray).heap[g]?=if g=m then some (.cells us'.toArray blk'.ty (0,0)) else if g=n then some (.cells us.toArray blk.ty (0,0)) else w'.heap[g]?:=fun g=>by
  unfold World.putBlk;simp only [qz,vq]
  by_cases c:g=m
  ·subst c;rw [og rfl,og D2.lt,og rfl]
  ·rw [oh (Ne.symm c),oh c]
   by_cases c':g=n
   ·subst c';rw [og rfl,og D1.lt,og rfl]
   grind
 have hsz:(World.putBlk (World.putBlk w' n blk.ty us.toArray) m blk'.ty us'.toArray).heap.size=w'.heap.size:=by grind [World.putBlk]
 have kd:∀g,k.heap[g]?=some dead→k'.heap[g]?=some dead:=fun g hg=>(s2.block g (heap_lt hg)).trans hg;have b1:Below w.heap.size w (World.putBlk (World.putBlk w' n blk.ty us.toArray) m blk'.ty us'.toArray):=by
  refine⟨hw.os,hw.tape,hw.output,by rw [hsz];exact hw.size,fun g hg=>?_⟩;rw [hget]
  by_cases c:g=m
  ·subst c;rw [og rfl];exact B2.symm
  ·rw [oh c]
   by_cases c':g=n
   ·subst c';rw [og rfl];exact B1.symm
   ·rw [oh c'];exact hw.block g hg c' c
 have dk:∀ {g:Nat}{ty:TypeId}{vs:List Value},k.heap[g]?=some dead→Blk w g ty vs.toArray→∀u∈vs,u.noWord=true:=fun {g ty vs} hg hB u hu=>by
  obtain⟨cs,t,fr,e1,e2⟩:=h.sees.dark g hg;rw [show w.heap[g]?=some (.cells vs.toArray ty (0,0)) from hB]at e1 <;> grind
 have sees1:Sees k' (World.putBlk (World.putBlk w' n blk.ty us.toArray) m blk'.ty us'.toArray):=by
  refine⟨s1.os,s1.tape,s1.output,by rw [hsz];exact s1.size,fun g o hg ho=>?_,fun g hg=>?_⟩
  ·rw [hget]
   by_cases c:g=m
   ·simp_all
   ·rw [oh c]
    by_cases c':g=n
    ·simp_all
    ·rw [oh c'];exact s1.live g o hg ho
  ·rw [hget]
   by_cases c:g=m
   ·rw [og c] <;> grind
   ·rw [oh c]
    by_cases c':g=n
    ·rw [og c'] <;> grind
    ·rw [oh c'];exact s1.dark g hg
 have r1:=h.vars (lks:=[.seg M,.seg M']) (us:=[.agg ds,.agg ds']) ⟨⟨ds,rfl,g1⟩,⟨ds',rfl,g2⟩,trivial⟩ sees1 s2 b1;have e0:=aK (ρ:=ρ) (n:=st.kinds.length) (lks:=[LK.seg M,LK.seg M']) (us:=[.agg ds,.agg ds']) 0;have e1:=aK (ρ:=ρ) (n:=st.kinds.length) (lks:=[LK.seg M,LK.seg M']) (us:=[.agg ds,.agg ds']) 1
 have r2:=r1.store (b:=b) (n:=n) (blk:=blk) (cs:=[.seg st.kinds.length M]) (us:=ds.toList) hb hp hn (by
  simp_all [aC,List.append_nil]) (fun u hu=>(g1.2 u hu).2)
 have r3:=r2.store (b:=b') (n:=m) (blk:=blk') (cs:=[.seg (st.kinds.length+1) M']) (us:=ds'.toList) (by
  show (st.heap.modify b _)[b']?=some blk' <;> simp_all) hp' hm (by
  simp_all [aC,List.append_nil]) (fun u hu=>(g2.2 u hu).2)
 have ew:World.putBlk (World.putBlk (World.putBlk (World.putBlk w' n blk.ty us.toArray) m blk'.ty us'.toArray) n blk.ty ds.toList.toArray) m blk'.ty ds'.toList.toArray=w':=by
  have hh:(World.putBlk (World.putBlk (World.putBlk (World.putBlk w' n blk.ty us.toArray) m blk'.ty us'.toArray) n blk.ty ds) m blk'.ty ds').heap=w'.heap:=by
   apply jc;intro g;unfold World.putBlk;simp only [qz,vq]
   by_cases c:m=g
   ·subst c;rw [og rfl,og D2.lt];exact D2.symm
   ·rw [oh c]
    by_cases c':n=g
    ·subst c';rw [og rfl,og D1.lt];exact D1.symm
    simp_all
  exact (congrArg (fun x=>({ w' with heap:=x }:World)) hh)
 simp_all
theorem aQd {P:Program}{w k0:World}{k k':FloatKind}{n:Nat}(h:Sees k0 w):∃m w',(Conv.floatToFloat k n k').run P w=.ok (.float k' m) w'∧F2F k k' n m∧Sees k0 w'∧Below w.heap.size w w':=by
 by_cases hok:kH k k' n=true
 ·exact⟨_,w,aGe hok,.inl ⟨hok,rfl⟩,h,Below.refl _ _⟩
 ·have hok:kH k k' n=false:=by simp_all
  have hne:¬ k=k':=fun e=>by unfold kH at hok <;> simp_all
  have hd:∃q,q=(if (k.decode n).isNaN then Question.nanConv k' n else .floatToFloat n)∧q.forced=false∧(Conv.floatToFloat k n k').run P w=((choose q).bind fun m=>pure (.float k' m)).run P w:=by
   unfold kH at hok;rw [decide_eq_false hne,Bool.false_or]at hok;unfold Conv.floatToFloat;rw [oh hne];split at hok
   ·rename_i e;rw [e];exact⟨_,rfl,rfl,rfl⟩
   ·cases hok
   ·rename_i e;rw [e];simp at hok;refine⟨_,rfl,rfl,?_⟩;show (if _ then _ else _:Sem Value).run P w=_;rw [og hok];rfl
  obtain⟨q,hq,hf,hr⟩:=hd;refine⟨q.cut (w.tape w.drawn q),w.drew,?_,.inr ⟨hok,w.tape w.drawn q,by rw [hq]⟩,?_,?_⟩
  ·rw [hr];show (choose q >>= _).run P w=_ <;> simp_all
  ·exact⟨h.os,h.tape,h.output,h.size,h.live,h.dark⟩
  ·exact (Below.refl _ _).drew
theorem aBs {o:Oper}{K:St→T}{next:Act→World→Prop}{Q:Exit→Act→World→Prop}(h:Rel st ρ k0 w0 k a w) (hT:(uI P cfg o st K).den P R ρ.bare k)
 (hK:∀st' ρ' k' a' w',Rel st' ρ' k0 w0 k' a' w'→(K st').den P R ρ'.bare k'→next a' w'):o.wp P a w next Q:=by
 have hop:∀ {st:St}{ρ:Env}{k:World},Rel st ρ k0 w0 k a w→∀x,opnd st.tm x≠.top→(opnd st.tm x).den ρ=some (a.eval x):=fun h x hx=>iA (fun t _=>h.tmps t) hx;unfold uI at hT;split at hT
 ·rename_i f first captured ho
  split at hT
  ·rename_i hf;have e1:first=#[]:=ji hf
   have hrun:(execOp a.eval o).run P w=.ok (.value (.func (.func f) #[] (captured.map a.eval))) w:=by
    simp [execOp,ho,Instr.makeFunc,e1]
   split at hT
   ·split at hT
    ·rename_i x y hc;split at hT
     ·rename_i b c hx hy;have h1:=hop h x (by rw [hx];simp);have h2:=hop h y (by rw [hy];simp);rw [hx]at h1;rw [hy]at h2;simp only [SV.den,SC.den]at h1 h2;split at h1
      ·rename_i n hn;split at h2
       ·rename_i m hm;injection h1 with h1;injection h2 with h2;unfold Oper.wp;rw [hrun,jw];refine hK _ ρ k _ _ (h.put o.dst (v:=.one (.fnb f b c)) (.inr ?_)) hT;simp only [SV.den,SC.den,hn,hm]
        congr 2 <;> grind [Array.ext',Array.toList_map]
       ·cases h2
      ·cases h1
     trivial
    trivial
   obtain⟨st',ρ',k',ids,r1,r2,r3⟩:=mP (vs:=[]) h rfl hT;unfold Oper.wp;rw [hrun,jw];refine hK _ ρ' k' _ _ (r1.put o.dst (v:=.one (.fn f ids)) (.inr ?_)) r3;simp only [SV.den,SC.den,r2]
   congr 2 <;> grind
  trivial
 ·rename_i t l c ho;split at hT
  ·rename_i e i z n hel hn;split at hT
   ·rename_i hlc;obtain⟨q1,q2,q3,q4,q5,q6⟩:=dG hel;have hl:=hop h l (by rw [hn];simp);rw [hn]at hl;have hc:a.eval c=a.eval l:=(wH hlc).symm;unfold T.den at hT;split at hT
    ·rename_i kk N e1;have e1:=SC.den_le (Env.bare_le ρ) e1;have hl:n.den ρ=some (a.eval l):=hl;rw [e1]at hl;injection hl with hl;obtain⟨hN,hok,hT⟩:=hT;obtain⟨k',hrun,u1,u2⟩:=h.mkRow q1 q2 q3 q4 q5 q6 (kl:=kk) (kc:=kk) hN hok;have hrun':(execOp a.eval o).run P w=.ok (.value (.slice (some ⟨w.heap.size,0,none⟩) N.toNat N.toNat)) (w.alloc (.cells (madeCells z.cells (N.toNat*i.size)) e)):=by
      simp_all [execOp]
     unfold Oper.wp;rw [hrun',jw];have e0:=aK (ρ:=ρ) (n:=st.kinds.length) (lks:=[.slice,.row]) (us:=[.slice (some ⟨w.heap.size,0,none⟩) N.toNat N.toNat,.agg (madeCells z.cells (N.toNat*i.size))]) 0;refine hK _ _ k' _ _ (u2.put o.dst (v:=.one (.slr st.kinds.length)) (.inr ?_)) (T.den_up (hT (some ⟨w.heap.size,0,none⟩) N.toNat N.toNat _ rfl (by rfl) (oy _)) u1)
     simp_all [Nat.add_zero,SV.den,SC.den]
    simp_all
   trivial
  trivial
 ·rename_i t parts ho;split at hT
  ·rename_i e i z hel;split at hT
   ·rename_i hp;obtain⟨q1,q2,q3,q4,q5,q6⟩:=dG hel;have e1:parts=#[]:=ji hp;subst e1;unfold T.den at hT;split at hT
    ·rename_i vs hvs;simp only [aC]at hvs;injection hvs with hvs;subst hvs;have hle:=h.ext_le [.slice,.row] [.slice (some ⟨w.heap.size,0,none⟩) 0 0,.agg #[]];obtain⟨k',u1,u2⟩:=h.fresh (rows0:=st.rows) (fun r hr=>hr) (xs:=#[]) (cells:=#[]) (n:=0) (c:=0) (s:=i.size) (ty:=e) w.drawn q5 (by simp) (oy _) (by simp) (fun _ _ h=>h) (by simp) (fun u hu=>by cases hu) hle;have hrun':(execOp a.eval o).run P w=.ok (.value (.slice (some ⟨w.heap.size,0,none⟩) 0 0)) { w with heap:=w.heap.push (.cells #[] e) }:=by
      simp [execOp,ho,Instr.buildSlice,aB ((jY _ _).trans q1),sizeOf,cI ((iD _ _).trans q2),Instr.fill,newRow] <;> grind
     unfold Oper.wp;rw [hrun',jw];have e0:=aK (ρ:=ρ) (n:=st.kinds.length) (lks:=[.slice,.row]) (us:=[.slice (some ⟨w.heap.size,0,none⟩) 0 0,.agg #[]]) 0;refine hK _ _ k' _ _ (u2.put o.dst (v:=.one (.slr st.kinds.length)) (.inr ?_)) (T.den_up (hT (some ⟨w.heap.size,0,none⟩) 0 0 _ rfl rfl (oy _)) u1)
     simp_all [Nat.add_zero,SV.den,SC.den]
    simp_all
   trivial
  trivial
 ·rename_i args argTypes ho;split at hT
  ·rename_i x y t t' hargs htypes;split at hT
   ·rename_i e i z hel;split at hT
    ·rename_i htt;subst htt;obtain⟨q1,q2,q3,q4,q5,q6⟩:=dG hel;have hxt:opnd st.tm x≠.top:=fun e=>by rw [e]at hT;assumption
     obtain⟨st1,ρ1,r,b1,b2,b3,b4,b5,b6,hT⟩:=zD q5 h (hop h x hxt) hT;have hyt:opnd st1.tm y≠.top:=fun e=>by rw [e]at hT;assumption
     obtain⟨st2,ρ2,B,m',c2,new,m,n1,n2,n3,n4,n5,hT⟩:=aDb q5 b1 (hop b1 y hyt) hT;unfold T.den at hT;split at hT
     ·rename_i A n c xs us kk M e1 e2 e3 e4;have e1:ρ2.val r.v=some (.slice A n c):=e1;have e2:ρ2.val r.x=some (.agg xs):=e2;obtain⟨hl,h0,hok,hT⟩:=hT;obtain⟨hM,hB,hcell,hsc⟩:=n5 us kk M e3 e4 hl h0;rw [hM]at hl hok hT;have hr2:r∈st2.rows:=by simp_all
      have hxsc:RowC xs:=by
       obtain⟨_,_,_,_,_,g2,_,g4,_⟩:=n1.rows.ok r hr2;obtain⟨cs',e,hc⟩:=n1.env _ _ _ g4 e2 <;> simp_all
      subst b4;rw [←b5]at q4 q5;obtain⟨A',c',w',k',r1,rc,r2,r3⟩:=n1.app (t:=t) (ty:=o.type) hr2 q1 q2 q3 b5.symm q4 (fun u hu=>(q6 u hu).2) e1 e2 (by simp_all) hB hcell hsc hok hxsc;have hx1:=n2.val _ _ b6;rw [e1]at hx1;injection hx1 with hx1;have ea:args=#[x,y]:=by grind
      have et:argTypes=#[t,t]:=by grind
      have hrun':(execOp a.eval o).run P w=.ok (.value (.slice A' (n+m') c')) w':=by
       unfold execOp;simp only [ho,ea,et,resolve,invoke,builtin,qw,jd,xb,vm,zr,xg,←hx1,n4];rw [r1];rfl
      unfold Oper.wp;rw [hrun',jw];have hle:=n1.ext_le [.slice,.row] [.slice A' (n+m') c',.agg (xs++us.toArray)];have e0:=aK (ρ:=ρ2) (n:=st2.kinds.length) (lks:=[.slice,.row]) (us:=[.slice A' (n+m') c',.agg (xs++us.toArray)]) 0;rw [b5]at r3;refine hK _ _ k' _ _ ((r3 hle).put o.dst (v:=.one (.slr st2.kinds.length)) (.inr ?_)) (T.den_up (hT A' (n+m') c' _ rfl rfl rc) r2);have:=e0.1;rw [jh]at this;simp only [SV.den,SC.den,this];rfl
     ·exact hT.elim
    ·exact hT.elim
   ·exact hT.elim
  ·exact hT.elim
 ·rename_i t x y ho;split at hT
  ·rename_i v i s j hx;split at hT
   ·rename_i r new m hr hnew hm;obtain⟨hr1,hr2⟩:=aN hr;split at hT
    ·rename_i hc;simp only [qf,decide_eq_true_eq]at hc;obtain⟨⟨⟨c1,c2⟩,c3⟩,c4⟩:=hc;subst c1;have hp:=hop h x (by rw [hx];simp);rw [hx]at hp;have hne:opnd st.tm y≠.top:=fun e=>by rw [e]at hnew;cases hnew
     have hv:=hop h y hne;have h3:=cells?_spec hnew hv;have hlen:=cQ h.env h3;have hsz:(a.eval y).cells.size=m:=by rw [←c2,←hlen];simp
     have hkd:st.kd=ρ.kd:=funext fun i=>(h.kinds i).symm;have hnw:=bO h.env (by rw [←hkd];exact c4) h3;have hsc:=cD h.env h3;unfold T.den at hT;split at hT
     ·rename_i A n c xs kk I us e1 e2 e3 e4;have e1:ρ.val r.v=some (.slice A n c):=e1;have e2:ρ.val r.x=some (.agg xs):=e2;have e4:=aJ (Env.bare_le ρ) e4;rw [h3]at e4;injection e4 with e4;subst e4;have e3:=SC.den_le (Env.bare_le ρ) e3;obtain⟨⟨h0,h1⟩,hT⟩:=hT;have hxsc:RowC xs:=by
       obtain⟨_,_,_,_,_,_,_,g4,_⟩:=h.rows.ok r hr1;obtain⟨cs',e,hc⟩:=h.env _ _ _ g4 e2;injection e with e;subst e;exact hc
      obtain⟨g,w',rfl,s1,s2⟩:=h.setRow (t:=t) (I:=I.toNat) (j:=j) (v:=a.eval y) hr1 e1 e2 hxsc oq hm hsz c3 fun u hu=>⟨hsc u hu,hnw u hu⟩;simp only [SV.den,SC.den]at hp;rw [←hr2,e1]at hp;simp only [e3,kG,h0,h1,and_self,if_true]at hp;injection hp with hp;have hrun':(execOp a.eval o).run P w=.ok .skip w':=by
       have e5:(0:Nat)+I.toNat*r.s+j=I.toNat*r.s+j:=oq
       simp [execOp,ho,←hp,Instr.storeAt,Instr.sureAddr,s1]
      unfold Oper.wp;rw [hrun',Oper.upon_skip];exact hK _ _ _ _ _ (s2.put o.dst (.inr rfl)) (hT _ rfl)
     ·exact hT.elim
    ·exact hT.elim
   ·exact hT.elim
  ·exact fH h hT hK
 ·rename_i s d x ho;split at hT
  ·rename_i k1 k2 c hs hd hx;split at hT
   ·have h1:=hop h x (by rw [hx];simp);rw [hx]at h1;have h1:c.den ρ=some (a.eval x):=h1;unfold T.den at hT;split at hT
    ·rename_i k0' n e1;have e1:=SC.den_le (Env.bare_le ρ) e1;rw [h1]at e1;injection e1 with e1;obtain⟨m,w',hrun,hm,hse,hbe⟩:=aQd (P:=P) (w:=w) (k:=k0') (k':=k2) (n:=n) h.sees;have hrun':(execOp a.eval o).run P w=.ok (.value (.float k2 m)) w':=by
      simp [execOp,ho,e1,convert,aB hs,aB hd,hrun,Result.andThen]
     unfold Oper.wp;rw [hrun',jw];have e0:=aK (ρ:=ρ) (n:=st.kinds.length) (lks:=[.flt k2]) (us:=[.float k2 m]) 0;refine hK _ _ _ _ _ ((h.vars (lks:=[.flt k2]) (us:=[.float k2 m]) ⟨⟨m,rfl⟩,trivial⟩ hse (Below.refl _ _) hbe).put o.dst (v:=.one (.var st.kinds.length)) (.inr ?_)) (hT m hm);have:=e0.1;rw [jh]at this;simp only [SV.den,SC.den,this];rfl
    ·exact hT.elim
   ·exact fH h hT hK
  ·exact fH h hT hK
 ·rename_i t m x ho;split at hT
  ·rename_i kt e mc kc hu hm hk;have h1:=hop h m (by rw [hm];simp);have h2:=hop h x (by rw [hk];simp);rw [hm]at h1;rw [hk]at h2;have h1:mc.den ρ=some (a.eval m):=h1;have h2:kc.den ρ=some (a.eval x):=h2;generalize (cV P cfg.opq e st.kinds.length).2=lks at hT;generalize (cV P cfg.opq e st.kinds.length).1=res at hT;unfold T.den at hT;split at hT
   ·rename_i b kv e1 e2;have e1:=SC.den_le (Env.bare_le ρ) e1;have e2:=SC.den_le (Env.bare_le ρ) e2;rw [h1]at e1;injection e1 with e1;rw [h2]at e2;injection e2 with e2;obtain⟨us,hf,hh⟩:=aR hT;split at hh
    ·rename_i y hy;have hrun:=hh.1.run h.sees;have hrun':(execOp a.eval o).run P w=.ok (.value y) w:=by
      simp [execOp,ho,e1,e2,hrun]
     unfold Oper.wp;rw [hrun',jw];exact hK _ _ _ _ _ ((h.named hf).put o.dst (.inr (aQ hy))) hh.2
    ·exact hh.elim
   ·exact hT.elim
  ·exact hT.elim
 ·rename_i c _ ho;split at hT
  ·rename_i y hcal;split at hT
   ·rename_i f b b' hy;split at hT
    ·rename_i blk blk' hb hb';split at hT
     ·exact hT.elim
     ·rename_i hcond;simp only [not_or,Bool.not_eq_true]at hcond;obtain⟨hne,hp,hp',hbd⟩:=hcond;have hbd:xF P f=true:=by simpa using hbd
      obtain⟨n,us,q1,q2,q3,q4,_⟩:=h.heap b blk hb;obtain⟨m,us',q1',q2',q3',q4',_⟩:=h.heap b' blk' hb';obtain⟨hbase,hdead⟩:=q4 hp;obtain⟨hbase',hdead'⟩:=q4' hp';have hnm:n≠m:=fun e=>hne (h.inj b b' n hbase q1 (by rw [e];exact q1'));have hf:=hop h y (by rw [hy];simp);rw [hy]at hf;simp only [SV.den,SC.den,q1,q1']at hf;injection hf with hf;unfold T.den at hT;split at hT
      ·rename_i vs xs xs' e1 e2 e3;have e1:=aX (Env.bare_le ρ) e1;have e2:=aJ (Env.bare_le ρ) e2;have e3:=aJ (Env.bare_le ρ) e3;rw [q2]at e2;injection e2 with e2;subst e2;rw [q2']at e3;injection e3 with e3;subst e3;have hvs:=jL (a:=a) (fun x hx t e=>h.tmps t) e1;subst hvs;unfold xF at hbd;have hrun:(execOp a.eval o).run P w=.ok (.enter f (c.args.toList.map a.eval++[Value.pointer (some ⟨n,0,none⟩),Value.pointer (some ⟨m,0,none⟩)]).toArray) w:=by
        split at hbd
        ·rename_i fn hfn;rw [jN]at hfn;simp only [qf,bne_iff_ne,ne_eq,Option.isSome_iff_ne_none]at hbd;have hbn:fn.body.isNone=false:=by
          cases hbb:fn.body with
          | none=>exact absurd hbb hbd.2
          | some c=>rfl
         have hnmg : (fn.name == "runtime.NumGoroutine") = false := by simpa using hbd.1
         simp only [execOp,ho,hcal,resolve,Deferred.ofValue,←hf,qw,jd,Result.andThen,invoke,callFunc,run_program,hfn,hnmg,hbn,xu,if_false]
         congr 2
         apply zk;simp
        ·cases hbd
       unfold Oper.wp;rw [hrun,xt];refine (hT k (Up.refl k) w n m h.sees hnm hdead hdead' q3 q3').mono ?_;rintro e' w' ⟨ds,ds',k',rfl,t1,t2,t3,t4,t5,t6,t7,t8⟩;have l1:=cQ h.env q2;have l2:=cQ h.env q2';rw [wz,l1]at t6;rw [wz,l2]at t7;have hrel:=(h.rewr hb hb' hne hp hp' q1 q1' hdead hdead' hnm q3 q3' t1 t2 t3 t4 t5 t6 t7).put o.dst (v:=.top) (x:=.tuple #[]) (.inl rfl);exact hK _ _ _ _ _ hrel.at t8
      ·exact hT.elim
    ·exact hT.elim
   ·obtain⟨st',ρ',k',p1,p2⟩:=cZ h hT;exact fH p1 p2 hK
  ·exact fH h hT hK
 ·exact fH h hT hK
theorem kE {ops:Array Oper}{j:Nat}{t:Tmp}{b:Bool}(hj:(ops[j]?).bind (·.dst)=some t) (hb:a.tmps.getD t undef=.bool b):yielded ops a.tmps j=some b:=by
 unfold yielded;rw [jv]at hb;cases h:a.tmps[t]? with
 | none=>rw [h]at hb;cases hb
 | some v=>simp_all
theorem fR {ops:Array Oper}{K:St→T}{Q:Exit→Act→World→Prop}(hK:∀st' ρ' k' a' w',Rel st' ρ' k0 w0 k' a' w'→(K st').den P R ρ'.bare k'→Q .normal a' w') :
 ∀(l:List Nat) {st:St}{ρ:Env}{k:World}{a:Act}{w:World},Rel st ρ k0 w0 k a w→(fQ P cfg ops l st K).den P R ρ.bare k→wpOps P ops Q l a w
 | [],st,ρ,k,a,w,h,hT=>hK _ _ _ _ _ h hT
 | i :: l,st,ρ,k,a,w,h,hT=>by
  unfold fQ at hT;unfold wpOps;have hskip:∀ {st:St}{o:Oper},Rel st ρ k0 w0 k a w→(fQ P cfg ops l (st.put o.dst bL) K).den P R ρ.bare k→wpOps P ops Q l (a.put o.dst undef) w:=
   fun h hT=>fR hK l (h.put _ (.inr rfl)) hT
  cases ho:ops[i]? with
  | none=>
   simp only [ho]at hT ⊢;exact fR hK l h hT
  | some o=>
   simp only [ho]at hT ⊢;have hstep:∀ {st:St},Rel st ρ k0 w0 k a w→(uI P cfg o st fun st=>fQ P cfg ops l st K).den P R ρ.bare k→o.wp P a w (wpOps P ops Q l) Q:=
    fun h hT=>aBs h hT fun st' ρ' k' a' w' h' hT'=>fR hK l h' hT'
   cases hg:o.guard with
   | none=>
    simp only [hg]at hT;rw [og (by simp [Region.wanted,hg])] <;> grind
   | some g=>
    obtain⟨j,want⟩:=g;simp only [hg]at hT;cases hj:(ops[j]?).bind (·.dst) with
    | none=>simp only [hj]at hT;trivial
    | some t=>
     simp only [hj]at hT;have htm:=h.tmps t;split at hT
     ·rename_i b hb;have hbv:a.tmps.getD t undef=.bool b:=by
       rcases htm with e|e <;> simp_all [SV.den,SC.den]
      have hy:=kE hj hbv;have hw:Region.wanted o (yielded ops a.tmps)=(b == want):=by grind [Region.wanted]
      grind
     ·rename_i v hnb hb;have hy:yielded ops a.tmps j=none:=by
       unfold yielded;rw [hj];simp only [zz];split
       ·rename_i b hb';exfalso;rcases htm with hok|hok <;> simp_all [SV.den,SC.den,Array.getD_eq_getD_getElem?]
       ·rfl
      have hw:Region.wanted o (yielded ops a.tmps)=false:=by grind [Region.wanted]
      grind
     ·rename_i c hne hne2 hc;unfold T.den at hT;split at hT
      ·rename_i b hb;have hbv:a.tmps.getD t undef=.bool b:=by
        rcases htm with e|e <;> grind [SV.den,SC.den_le,Env.bare_le]
       have hy:=kE hj hbv;have hw:Region.wanted o (yielded ops a.tmps)=(b == want):=by grind [Region.wanted]
       have hput:∀b',a.tmps.getD t undef=.bool b'→Rel (st.put (some t) (.one (.lit (.bool b')))) ρ k0 w0 k a w:=fun b' hb'=>by
        have:=h.put (some t) (v:=.one (.lit (.bool b'))) (x:=.bool b') (.inr rfl);have e:a.put (some t) (.bool b')=a:=by
         unfold Act.put;have:a.tmps.setIfInBounds t (.bool b')=a.tmps:=by
          apply jc;intro i
          by_cases e:t=i
          ·by_cases hl:t<a.tmps.size <;> simp_all
          simp_all
         simp_all
        simp_all
       grind
      simp_all
     trivial
end
