/- A symbolic executor of the model's code: the executor. -/
import Derived.Test.YtjgnlflbgmnfaaaGreatBsSy2
namespace Go.Proofs.YtjgnlflbgmnfaaaGreat.Sy
open Go.RowKit
def aAd {α:Type}:List α→Nat→Option α
 | [],_=>none
 | x :: _,0=>some x
 | _ :: l,n+1=>aAd l n
theorem sV {α:Type}:∀(l:List α) (n:Nat),aAd l n=l[n]?
 | [],_=>rfl
 | _ :: _,0=>rfl
 | _ :: l,n+1=>by rw [aAd,sV l n,List.getElem?_cons_succ]
def mN (P:Program) (t:TypeId):Option TypeInfo:=
 match aAd P.types.toList t with
 | some i=>some i
 | none=>P.info? t
theorem kW (P:Program) (t:TypeId):mN P t=P.info? t:=by
 unfold mN;rw [sV];cases h:P.types.toList[t]? with
 | none=>rfl
 | some i=>
  have h':P.types[t]?=some i:=by rw [←ve];exact h
  have hlt:t<P.types.size:=by
   rcases zw t P.types.size with h1|h1
   ·exact h1
   ·rw [jt h1]at h';cases h'
  simp only [Tables.info?,og hlt,h']
def gH (P:Program) (t:TypeId):Option TypeDesc:=
 match mN P t with
 | some { desc:=.named _ u,.. }=>(mN P u).map (·.desc)
 | some i=>some i.desc
 | none=>none
theorem rU (P:Program) (t:TypeId):gH P t=P.underlying t:=by
 unfold gH Program.underlying;simp only [kW];cases P.info? t with
 | none=>rfl
 | some i=>cases i with
  | mk desc _ _ _ _ _ _ _ _ _=>cases desc <;> rfl
def aLb (P:Program) (f:FuncId):Option Func:=aAd P.funcs.toList f
theorem xI (P:Program) (f:FuncId):aLb P f=P.funcs[f]?:=by
 unfold aLb;rw [sV,ve]
def cQ (cl:Nat) (op:BinOp):SC→SC→SC
 | .lit a,.lit b=>match gA cl op a b with
  | some v=>.lit v
  | none=>.bin cl op (.lit a) (.lit b)
 | a,b=>.bin cl op a b
def aFh:SC→SC
 | .lit a=>match aHz a with
  | some v=>.lit v
  | none=>.not (.lit a)
 | .not a=>.not (.not a)
 | a=>.not a
def aFg:SC→SC
 | .lit a=>match aHv a with
  | some v=>.lit v
  | none=>.neg (.lit a)
 | a=>.neg a
def xR (k:IntKind):SC→SC
 | .lit a=>match vE k a with
  | some v=>.lit v
  | none=>.conv k (.lit a)
 | a=>.conv k a
def kY:SC→SC
 | .lit a=>match nZ a with
  | some v=>.lit v
  | none=>.len (.lit a)
 | a=>.len a
def oC:SC→SC→SC
 | .lit a,.lit b=>match uO a b with
  | some v=>.lit v
  | none=>.idx (.lit a) (.lit b)
 | a,b=>.idx a b
def aCk:SC→Bool
 | .lit (.int .u8 _)=>true
 | _=>false
def mK:SC→SC→SC
 | .lit a,.lit b=>match leD a b with
  | some v=>.lit v
  | none=>.le (.lit a) (.lit b)
 | a,b=>.le a b
def aRf:SC→SC
 | .lit a=>match nzD a with
  | some v=>.lit v
  | none=>.nz (.lit a)
 | a=>.nz a
def gE:SC→SC→SC→SC
 | .lit (.bool c),a,b=>if c then a else b
 | c,a,b=>.pick c a b
def vU (a lo hi:SC) (s:Nat):SC:=
 match a,lo,hi with
 | .sl b off n c,.lit (.int kl l),.lit (.int kh h)=>if 0≤l∧l≤h∧h≤c∧c≠l.toNat then .sl b (off+l.toNat*s) (h.toNat-l.toNat) (c-l.toNat) else .slc (.sl b off n c) (.lit (.int kl l)) (.lit (.int kh h)) s
 | a,lo,hi=>.slc a lo hi s
theorem aHr (ρ:Env) (a lo hi:SC) (s:Nat):(vU a lo hi s).den ρ=(SC.slc a lo hi s).den ρ:=by
 unfold vU;split
 ·rename_i b off n c kl l kh h;split
  ·rename_i hc;cases hb:ρ.blk b with
   | none=>simp [SC.den,hb]
   | some m=>simp [SC.den,hb,slcD,hc,Addr.add]
  ·rfl
 ·rfl
theorem aX (ρ:Env) (cl:Nat) (op:BinOp) (a b:SC):(cQ cl op a b).den ρ=(SC.bin cl op a b).den ρ:=by
 unfold cQ;split
 ·rename_i x y;cases h:gA cl op x y <;> simp [SC.den,h]
 ·rfl
theorem aHp (ρ:Env) (a:SC):(aFh a).den ρ=(SC.not a).den ρ:=by
 unfold aFh;split
 ·rename_i x;cases h:aHz x <;> simp [SC.den,h]
 ·rfl
 ·rfl
theorem aHo (ρ:Env) (a:SC):(aFg a).den ρ=(SC.neg a).den ρ:=by
 unfold aFg;split
 ·rename_i x;cases h:aHv x <;> simp [SC.den,h]
 ·rfl
theorem aCo (ρ:Env) (k:IntKind) (a:SC):(xR k a).den ρ=(SC.conv k a).den ρ:=by
 unfold xR;split
 ·rename_i x;cases h:vE k x <;> simp [SC.den,h]
 ·rfl
theorem gR (ρ:Env) (a:SC):(kY a).den ρ=(SC.len a).den ρ:=by
 unfold kY;split
 ·rename_i x;cases h:nZ x <;> simp [SC.den,h]
 ·rfl
theorem lS (ρ:Env) (a b:SC):(oC a b).den ρ=(SC.idx a b).den ρ:=by
 unfold oC;split
 ·rename_i x y;cases h:uO x y <;> simp [SC.den,h]
 ·rfl
theorem oD (ρ:Env) (a b:SC):(mK a b).den ρ=(SC.le a b).den ρ:=by
 unfold mK;split
 ·rename_i x y;cases h:leD x y <;> simp [SC.den,h]
 ·rfl
theorem aLu (ρ:Env) (a:SC):(aRf a).den ρ=(SC.nz a).den ρ:=by
 unfold aRf;split
 ·rename_i x;cases h:nzD x <;> simp [SC.den,h]
 ·rfl
def aQg:SC→Nat→Option (SC×SC)
 | .seg x N,a=>some (.part x N (.lit (.int .i64 0)) 0 0 a,.part x N (.lit (.int .i64 0)) 0 a (N-a))
 | .part x N i s j m,a=>some (.part x N i s j a,.part x N i s (j+a) (m-a))
 | _,_=>none
def kI:Nat→List SC→Option (List SC×List SC)
 | 0,cs=>some ([],cs)
 | _+1,[]=>none
 | o+1,c :: cs=>
  if c.width=0 then none else
  if c.width≤o+1 then
   match kI (o+1-c.width) cs with
   | some (l,r)=>some (c :: l,r)
   | none=>none
  else match aQg c (o+1) with
   | some (c1,c2)=>some ([c1],c2 :: cs)
   | none=>none
def cutW (o m:Nat) (cs:List SC):Option (List SC):=
 match kI o cs with
 | some (_,r)=>match kI m r with
  | some (l,_)=>some l
  | none=>none
 | none=>none
def aFm (o:Nat) (new cs:List SC):Option (List SC):=
 match kI o cs with
 | some (l,r)=>match kI (widths new) r with
  | some (_,r')=>some (l++new++r')
  | none=>none
 | none=>none
def SV.cells?:SV→Option (List SC)
 | .one c=>if c.scalar then some [c] else none
 | .agg cs=>some cs
 | _=>none
def rO:Value→SV
 | .agg cs=>if cs.all Value.scalar then .agg (cs.toList.map .lit) else .top
 | .tuple vs=>if vs.size=0 then .tup [] else .top
 | v=>.one (.lit v)
structure SB where
 ty:TypeId
 cells:List SC
 pub:Bool
 pv:Nat:=0
 deriving Inhabited
inductive Eff where
 | pure (v:SV) (needs:List SC)
 | load (v:SV) (b:Nat)
 | alloc (ty:TypeId) (cells:List SC) (sl:Option Nat)
 | store (b:Nat) (cells:List SC)
 | call (f:FuncId) (args:List SV)
 | getw (v:Nat) (i:SC) (s j:Nat) (t:TypeId)
 | read (a i:SC) (s j:Nat) (t:TypeId)
 | fail (why:String)
 deriving Inhabited
def opnd (tm:Tmp→SV):Operand→SV
 | .tmp t=>tm t
 | .const v=>rO v
 | .func f=>.one (.fn f [])
 | .global _=>.top
def gD (P:Program) (t:TypeId):Option Bool:=
 match gH P t with
 | some (.struct _)=>some true
 | some (.array _ _)=>some true
 | some _=>some false
 | none=>none
def cM (P:Program) (t:TypeId):Option Nat:=(mN P t).map (·.size)
def oH (P:Program) (t:TypeId) (cs:List SC) (off:Nat):Option SV:=
 match gD P t,cM P t with
 | some true,some m=>(cutW off m cs).map .agg
 | some false,some _=>match cutW off 1 cs with
  | some [c]=>if c.scalar then some (.one c) else none
  | _=>none
 | _,_=>none
def vK (place:Nat→Option (Nat×Nat)) (cells:List SC):List (Nat×SV)→Option (List SC)
 | []=>some cells
 | (i,v) :: rest=>match place i,v.cells? with
  | some (off,size),some new=>
   if widths new=size then
    match aFm off new cells with
    | some cells=>vK place cells rest
    | none=>none
   else none
  | _,_=>none
def iB (v:Value):Option (List SC):=
 match v with
 | .agg cs=>if cs.toList.all Value.scalar then some (cs.toList.map .lit) else none
 | .tuple _=>none
 | v=>some [.lit v]
def lC (P:Program):List Field→Option (List (Nat×Nat))
 | []=>some []
 | f :: fs=>match cM P f.type,lC P fs with
  | some s,some l=>some ((f.offset,s) :: l)
  | _,_=>none
def xY (P:Program) (t:TypeId):Option (Nat→Option (Nat×Nat)):=
 match gH P t with
 | some (.struct fields)=>match lC P fields.toList with
  | some l=>some fun i=>l[i]?
  | none=>none
 | some (.array _ e)=>(cM P e).map fun s=>fun i=>some (i*s,s)
 | _=>none
def oY (tm:Tmp→SV) (hp:Nat→Option SB):List Operand→Option (List Nat)
 | []=>some []
 | x :: xs=>match opnd tm x with
  | .one (.ptr b 0)=>match hp b with
   | some blk=>if blk.pub then (oY tm hp xs).map (blk.pv :: ·) else none
   | none=>none
  | _=>none
def tP (sl:Option Nat) (b:Nat):SV:=match sl with
 | none=>.one (.ptr b 0)
 | some n=>.one (.sl b 0 n n)
def uR (sl:Option Nat) (m:Nat):Value:=match sl with
 | none=>.pointer (some ⟨m,0,none⟩)
 | some n=>.slice (some ⟨m,0,none⟩) n n
theorem tQ {ρ:Env}{sl:Option Nat}{b m:Nat}(h:ρ.blk b=some m):(tP sl b).den ρ=some (uR sl m):=by
 cases sl <;> simp only [tP,uR,SV.den,SC.den,h]
def zC (P:Program) (g:FuncId) (args:List SV):Eff:=
 match aLb P g with
 | some fn => if fn.name != "runtime.NumGoroutine" && fn.body.isSome then .call g args else .fail ("call " ++ fn.name)
 | none => .fail "call"
def aKx (name:String) (a:SC):Option SC:=
 if name = "math.Float64bits" then some (cQ 10 .add a (.lit (.int .u64 0)))
 else if name = "math.Float64frombits" then some (cQ 11 .add a (.lit (.float .f64 0)))
 else if name = "math.Float32bits" then some (cQ 10 .add a (.lit (.int .u32 0)))
 else if name = "math.Float32frombits" then some (cQ 11 .add a (.lit (.float .f32 0)))
 else none
def aUz (P:Program) (g:FuncId) (caps:List Nat) (args:List SV):Option SC:=
 match aLb P g,caps,args with
 | some fn, [], [.one a] => if fn.body.isNone && fn.origin == "" then aKx fn.name a else none
 | _,_,_=>none
def aZ (P:Program) (tm:Tmp→SV) (hp:Nat→Option SB) (o:Oper):Eff:=
 let ρ:=opnd tm
 match o.op with
 | .move x | .assign x=>.pure (ρ x) []
 | .pick c a b=>match ρ c,ρ a,ρ b with
  | .one c,.one a,.one b=>.pure (.one (gE c a b)) []
  | _, _, _ => .fail "pick"
 | .alloc elem=>match mN P elem with
  | some i=>match i.zero with
   | some z=>match iB z with
    | some cs=>.alloc elem cs none
    | none => .fail "alloc: zero"
   | none => .fail "alloc"
  | none => .fail "alloc"
 | .box elem x=>match (ρ x).cells? with
  | some cs=>.alloc elem cs none
  | none => .fail "box"
 | .build t parts=>match mN P t,xY P t with
  | some i,some place=>match i.zero with
   | some (.agg z)=>match iB (.agg z) with
    | some cs=>match vK place cs (parts.toList.map fun p=>(p.1,ρ p.2)) with
     | some cs=>.pure (.agg cs) []
     | none => .fail "build"
    | none => .fail "build"
   | _ => .fail "build"
  | _, _ => .fail "build"
 | .load t a=>match ρ a with
  | .one (.ptr b off)=>match hp b with
   | some blk=>match oH P t blk.cells off with
    | some v=>.load v b
    | none => .fail "load: part"
   | none => .fail "load: no block"
  | .one (.elem (.sl _ _ _ _) _ _ _) => .fail "load"
  | .one (.elem (.slr v) i s j)=>.getw v i s j t
  | .one (.elem a i s j)=>.read a i s j t
  | _ => .fail "load: no pointer of ours"
 | .store t a x=>match ρ a,(ρ x).cells?,cM P t with
  | .one (.ptr b off),some new,some m=>match hp b with
   | some blk=>if widths new=m && !blk.pub then
    match aFm off new blk.cells with
    | some cs=>.store b cs
    | none => .fail "store: part"
    else .fail "store: size"
   | none => .fail "store: no block"
  | .one (.elem (.sl _ _ _ _) _ _ _), some _, some _ => .fail "store"
  | _, _, _ => .fail "store"
 | .nilCheck x=>match ρ x with
  | .one (.ptr b off)=>.pure (.one (.ptr b off)) []
  | .one (.fn f caps)=>.pure (.one (.fn f caps)) []
  | _ => .fail "nilCheck"
 | .binOp op t x y _=>match ρ x,ρ y with
  | .one a,.one b=>
   match gH P t with
   | some (.int _)=>.pure (.one (cQ 0 op a b)) (match op with
    | .quo | .rem=>[aRf b]
    | .shl | .shr=>[mK (.lit (.int .i64 0)) b]
    | _=>[])
   | some .bool=>.pure (.one (cQ 1 op a b)) []
   | some .string=>.pure (.one (cQ 2 op a b)) (match op with
    | .add=>[.fit a b]
    | _=>[])
   | some (.float _)=>.pure (.one (cQ 3 op a b)) (match op with
    | .add | .sub | .mul | .quo=>[cQ 4 op a b]
    | _=>[])
   | _ => .fail "binOp: type"
  | _, _ => .fail "binOp"
 | .unOp op _ x=>match op,ρ x with
  | .not,.one a=>.pure (.one (aFh a)) []
  | .neg,.one a=>.pure (.one (aFg a)) []
  | _, _ => .fail "unOp"
 | .convert src dst x=>match gH P src,gH P dst,ρ x with
  | some (.int _),some (.float k),.one a=>.pure (.one (cQ 5 .add a (.lit (.float k 0)))) []
  | some (.float _),some (.float k),.one a=>.pure (.one (cQ 6 .add a (.lit (.float k 0)))) [cQ 7 .add a (.lit (.float k 0))]
  | some (.float _),some (.int k),.one a=>.pure (.one (cQ 8 .add a (.lit (.int k 0)))) [cQ 9 .add a (.lit (.int k 0))]
  | some _,some (.int k),.one a=>.pure (.one (xR k a)) []
  | _, _, _ => .fail "convert"
 | .makeFunc fn first captured=>match fn,first.size with
  | .func f,0=>match oY tm hp captured.toList with
   | some ids=>.pure (.one (.fn f ids)) []
   | none => .fail "makeFunc"
  | _, _ => .fail "makeFunc"
 | .fieldAddr s x f=>match ρ x,gH P s with
  | .one (.ptr b off),some (.struct fields)=>match fields[f]? with
   | some fd=>match cM P fd.type with
    | some (_+1)=>.pure (.one (.ptr b (off+fd.offset))) []
    | _ => .fail "fieldAddr: size"
   | none => .fail "fieldAddr"
  | .one (.elem a i s j),some (.struct fields)=>match fields[f]? with
   | some fd=>match cM P fd.type with
    | some (_+1)=>.pure (.one (.elem a i s (j+fd.offset))) []
    | _ => .fail "fieldAddr: size"
   | none => .fail "fieldAddr"
  | _, _ => .fail "fieldAddr"
 | .field t x f=>match ρ x,gH P t with
  | .agg cs,some (.struct fields)=>match fields[f]? with
   | some fd=>match oH P fd.type cs fd.offset with
    | some v=>.pure v []
    | none => .fail "field"
   | none => .fail "field"
  | _, _ => .fail "field"
 | .buildSlice t len parts=>match gH P t with
  | some (.slice e)=>match mN P e,cM P e with
   | some i,some size=>match i.zero with
    | some z=>match iB z with
     | some zc=>
      if len*size≤16777216∧len*size≠0∧zc.length≠0 then
       match vK (fun i=>some (i*size,size)) ((List.range (len*size)).map fun i=>(zc[i % zc.length]?).getD (.lit (.bool false))) (parts.toList.map fun p=>(p.1,ρ p.2)) with
       | some cs=>.alloc e cs (some len)
       | none => .fail "buildSlice"
      else .fail "buildSlice: size"
     | none => .fail "buildSlice"
    | none => .fail "buildSlice"
   | _, _ => .fail "buildSlice"
  | _ => .fail "buildSlice"
 | .indexAddr t x ix=>match ρ x,ρ ix,gH P t with
  | .one (.sl b off len _),.one (.lit (.int _ i)),some (.slice e)=>match cM P e with
   | some s => if 0 ≤ i ∧ i < len then .pure (.one (.ptr b (off + i.toNat * s))) [] else .fail "indexAddr: range"
   | none => .fail "indexAddr"
  | .one (.ptr b off),.one (.lit (.int _ i)),some (.array n e)=>match cM P e with
   | some s => if 0 ≤ i ∧ i < n then .pure (.one (.ptr b (off + i.toNat * s))) [] else .fail "indexAddr: range"
   | none => .fail "indexAddr"
  | .one (.ptr b off),.one i,some (.array n e)=>match cM P e with
   | some s=>.pure (.one (.elem (.sl b off n n) i s 0)) [oC i (.lit (.int .i64 n))]
   | none => .fail "indexAddr"
  | .one (.sl b off len c),.one i,some (.slice e)=>match cM P e with
   | some s=>.pure (.one (.elem (.sl b off len c) i s 0)) [oC i (.lit (.int .i64 len))]
   | none => .fail "indexAddr"
  | .one (.slc (.sl b off len c) (.lit (.int .u8 z)) h _),.one i,some (.slice e)=>match cM P e with
   | some s => if z = 0 then .pure (.one (.elem (.sl b off len c) i s 0)) [oC i h, mK h (.lit (.int .i64 len))] else .fail "indexAddr: part"
   | none => .fail "indexAddr"
  | .one a,.one i,some (.slice e)=>match cM P e with
   | some s=>.pure (.one (.elem a i s 0)) []
   | none => .fail "indexAddr"
  | _, _, _ => .fail "indexAddr"
 | .index t x ix=>match ρ x,ρ ix,gH P t with
  | .agg cs,.one (.lit (.int _ i)),some (.array n e)=>match cM P e with
   | some s=>if 0≤i∧i<n then
    match oH P e cs (i.toNat*s) with
    | some v=>.pure v []
    | none => .fail "index: part"
    else .fail "index: range"
   | none => .fail "index"
  | .one s,.one i,some .string=>.pure (.one (.byte s i)) [oC i (kY s)]
  | _, _, _ => .fail "index"
 | .slice t x lo hi mx=>match ρ x,gH P t,mx with
  | .one s,some .string,none=>
   let l:=match lo with
    | some l=>ρ l
    | none=>.one (.lit (.int .i64 0))
   let h:=match hi with
    | some h=>ρ h
    | none=>.one (kY s)
   match l,h with
   | .one l,.one h=>.pure (.one (.sub s l h)) [mK (.lit (.int .i64 0)) l,mK l h,mK h (kY s)]
   | _, _ => .fail "slice"
  | .one (.ptr b off),some (.array n e),none=>match lo,hi,cM P e with
   | some l,none,some s=>match ρ l with
    | .one (.lit (.int _ i)) => if 0 ≤ i ∧ i < n then .pure (.one (.sl b (off + i.toNat * s) (n - i.toNat) (n - i.toNat))) [] else .fail "slice: range"
    | _ => .fail "slice"
   | none,some h,some s=>match ρ h with
    | .one h=>.pure (.one (.slc (.sl b off n n) (.lit (.int .u8 0)) h s)) [mK (.lit (.int .i64 0)) h,mK h (.lit (.int .i64 n))]
    | _ => .fail "slice"
   | _, _, _ => .fail "slice"
  | .one a,some (.slice e),none=>
   let l:=match lo with
    | some l=>ρ l
    | none=>.one (.lit (.int .i64 0))
   let h:=match hi with
    | some h=>ρ h
    | none=>.one (kY a)
   match l,h,cM P e with
   | .one l, .one h, some s => if aCk l = true then .fail "slice" else .pure (.one (vU a l h s)) []
   | _, _, _ => .fail "slice"
  | _, _, _ => .fail "slice"
 | .extract x i=>match ρ x with
  | .tup vs=>match vs[i]? with
   | some (true,cs)=>.pure (.agg cs) []
   | some (false,[c])=>.pure (.one c) []
   | _ => .fail "extract"
  | _ => .fail "extract"
 | .call c=>match c.callee with
  | .builtin .len=>match c.args.toList,c.argTypes.toList with
   | [x],[t]=>match ρ x,gH P t with
    | .one (.sl _ _ n _),some (.slice _)=>.pure (.one (.lit (.int .i64 n))) []
    | .one (.slc (.sl _ _ _ _) (.lit (.int .u8 z)) h _), some (.slice _) => if z = 0 then .pure (.one h) [cQ 0 .leq (.lit (.int .i64 0)) h] else .fail "len: part"
    | .one a,some .string=>.pure (.one (kY a)) [.isSl true a]
    | .one a,some (.slice _)=>.pure (.one (kY a)) [.isSl false a]
    | _, _ => .fail "len"
   | _, _ => .fail "len"
  | .builtin .max=>match c.args.toList with
   | [x,y]=>match ρ x,ρ y with
    | .one a,.one b=>.pure (.one (gE (cQ 0 .lss a b) b a)) []
    | _, _ => .fail "max"
   | _ => .fail "max"
  | .builtin .min=>match c.args.toList with
   | [x,y]=>match ρ x,ρ y with
    | .one a,.one b=>.pure (.one (gE (cQ 0 .lss b a) b a)) []
    | _, _ => .fail "min"
   | _ => .fail "min"
  | .value f=>match ρ f with
   | .one (.fn g caps)=>
    let args:=(c.args.toList.map ρ)++caps.map fun i=>.one (.var i)
    match aUz P g caps (c.args.toList.map ρ) with
    | some c=>.pure (.one c) []
    | none=>zC P g args
   | _ => .fail "call: value"
  | _ => .fail "call: builtin"
 | _ => .fail "op"
