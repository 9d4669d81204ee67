/- A symbolic executor of the model's code: the executor. -/
import Derived.Test.YtjgnlflbgmnfaaaGreatHsSy2
namespace Go.Proofs.YtjgnlflbgmnfaaaGreat.Sy
open Go.RowKit
def aBr {α:Type}:List α→Nat→Option α
 | [],_=>none
 | x :: _,0=>some x
 | _ :: l,n+1=>aBr l n
theorem tO {α:Type}:∀(l:List α) (n:Nat),aBr l n=l[n]?
 | [],_=>rfl
 | _ :: _,0=>rfl
 | _ :: l,n+1=>by rw [aBr,tO l n,List.getElem?_cons_succ]
def nB (P:Program) (t:TypeId):Option TypeInfo:=
 match aBr P.types.toList t with
 | some i=>some i
 | none=>P.info? t
theorem lG (P:Program) (t:TypeId):nB P t=P.info? t:=by
 unfold nB;rw [tO];cases h:P.types.toList[t]? with
 | none=>rfl
 | some i=>
  have h':P.types[t]?=some i:=by rw [←xy];exact h
  have hlt:t<P.types.size:=by
   rcases zv t P.types.size with h1|h1
   ·exact h1
   ·rw [jn h1]at h';cases h'
  simp only [Tables.info?,od hlt,h']
def fX (P:Program) (t:TypeId):Option TypeDesc:=
 match nB P t with
 | some { desc:=.named _ u,.. }=>(nB P u).map (·.desc)
 | some i=>some i.desc
 | none=>none
theorem sM (P:Program) (t:TypeId):fX P t=P.underlying t:=by
 unfold fX Program.underlying;simp only [lG];cases P.info? t with
 | none=>rfl
 | some i=>cases i with
  | mk desc _ _ _ _ _ _ _ _ _=>cases desc <;> rfl
def aOq (P:Program) (f:FuncId):Option Func:=aBr P.funcs.toList f
theorem yC (P:Program) (f:FuncId):aOq P f=P.funcs[f]?:=by
 unfold aOq;rw [tO,xy]
def bW (cl:Nat) (op:BinOp):SC→SC→SC
 | .lit a,.lit b=>match eK cl op a b with
  | some v=>.lit v
  | none=>.bin cl op (.lit a) (.lit b)
 | a,b=>.bin cl op a b
def aHi:SC→SC
 | .lit a=>match aKp a with
  | some v=>.lit v
  | none=>.not (.lit a)
 | .not a=>.not (.not a)
 | a=>.not a
def aHh:SC→SC
 | .lit a=>match aKn a with
  | some v=>.lit v
  | none=>.neg (.lit a)
 | a=>.neg a
def yK (k:IntKind):SC→SC
 | .lit a=>match vX k a with
  | some v=>.lit v
  | none=>.conv k (.lit a)
 | a=>.conv k a
def lI:SC→SC
 | .lit a=>match oM a with
  | some v=>.lit v
  | none=>.len (.lit a)
 | a=>.len a
def oP:SC→SC→SC
 | .lit a,.lit b=>match vG a b with
  | some v=>.lit v
  | none=>.idx (.lit a) (.lit b)
 | a,b=>.idx a b
def aEe:SC→Bool
 | .lit (.int .u8 _)=>true
 | _=>false
def mY:SC→SC→SC
 | .lit a,.lit b=>match leD a b with
  | some v=>.lit v
  | none=>.le (.lit a) (.lit b)
 | a,b=>.le a b
def aXs:SC→SC
 | .lit a=>match nzD a with
  | some v=>.lit v
  | none=>.nz (.lit a)
 | a=>.nz a
def gM:SC→SC→SC→SC
 | .lit (.bool c),a,b=>if c then a else b
 | c,a,b=>.pick c a b
def wM (a lo hi:SC) (s:Nat):SC:=
 match a,lo,hi with
 | .sl b off n c,.lit (.int kl l),.lit (.int kh h)=>if 0≤l∧l≤h∧h≤c∧c≠l.toNat then .sl b (off+l.toNat*s) (h.toNat-l.toNat) (c-l.toNat) else .slc (.sl b off n c) (.lit (.int kl l)) (.lit (.int kh h)) s
 | a,lo,hi=>.slc a lo hi s
theorem aKi (ρ:Env) (a lo hi:SC) (s:Nat):(wM a lo hi s).den ρ=(SC.slc a lo hi s).den ρ:=by
 unfold wM;split
 ·rename_i b off n c kl l kh h;split
  ·rename_i hc;cases hb:ρ.blk b with
   | none=>simp [SC.den,hb]
   | some m=>simp [SC.den,hb,slcD,hc,Addr.add]
  ·rfl
 ·rfl
theorem aN (ρ:Env) (cl:Nat) (op:BinOp) (a b:SC):(bW cl op a b).den ρ=(SC.bin cl op a b).den ρ:=by
 unfold bW;split
 ·rename_i x y;cases h:eK cl op x y <;> simp [SC.den,h]
 ·rfl
theorem aKg (ρ:Env) (a:SC):(aHi a).den ρ=(SC.not a).den ρ:=by
 unfold aHi;split
 ·rename_i x;cases h:aKp x <;> simp [SC.den,h]
 ·rfl
 ·rfl
theorem aKf (ρ:Env) (a:SC):(aHh a).den ρ=(SC.neg a).den ρ:=by
 unfold aHh;split
 ·rename_i x;cases h:aKn x <;> simp [SC.den,h]
 ·rfl
theorem aEm (ρ:Env) (k:IntKind) (a:SC):(yK k a).den ρ=(SC.conv k a).den ρ:=by
 unfold yK;split
 ·rename_i x;cases h:vX k x <;> simp [SC.den,h]
 ·rfl
theorem hC (ρ:Env) (a:SC):(lI a).den ρ=(SC.len a).den ρ:=by
 unfold lI;split
 ·rename_i x;cases h:oM x <;> simp [SC.den,h]
 ·rfl
theorem mH (ρ:Env) (a b:SC):(oP a b).den ρ=(SC.idx a b).den ρ:=by
 unfold oP;split
 ·rename_i x y;cases h:vG x y <;> simp [SC.den,h]
 ·rfl
theorem oQ (ρ:Env) (a b:SC):(mY a b).den ρ=(SC.le a b).den ρ:=by
 unfold mY;split
 ·rename_i x y;cases h:leD x y <;> simp [SC.den,h]
 ·rfl
theorem aPn (ρ:Env) (a:SC):(aXs a).den ρ=(SC.nz a).den ρ:=by
 unfold aXs;split
 ·rename_i x;cases h:nzD x <;> simp [SC.den,h]
 ·rfl
def aWq:SC→Nat→Option (SC×SC)
 | .seg x N,a=>some (.part x N (.lit (.int .i64 0)) 0 0 a,.part x N (.lit (.int .i64 0)) 0 a (N-a))
 | .part x N i s j m,a=>some (.part x N i s j a,.part x N i s (j+a) (m-a))
 | _,_=>none
def kU:Nat→List SC→Option (List SC×List SC)
 | 0,cs=>some ([],cs)
 | _+1,[]=>none
 | o+1,c :: cs=>
  if c.width=0 then none else
  if c.width≤o+1 then
   match kU (o+1-c.width) cs with
   | some (l,r)=>some (c :: l,r)
   | none=>none
  else match aWq c (o+1) with
   | some (c1,c2)=>some ([c1],c2 :: cs)
   | none=>none
def aJc (o m:Nat) (cs:List SC):Option (List SC):=
 match kU o cs with
 | some (_,r)=>match kU m r with
  | some (l,_)=>some l
  | none=>none
 | none=>none
def aHq (o:Nat) (new cs:List SC):Option (List SC):=
 match kU o cs with
 | some (l,r)=>match kU (widths new) r with
  | some (_,r')=>some (l++new++r')
  | none=>none
 | none=>none
def SV.cells?:SV→Option (List SC)
 | .one c=>if c.scalar then some [c] else none
 | .agg cs=>some cs
 | _=>none
def sH:Value→SV
 | .agg cs=>if cs.all Value.scalar then .agg (cs.toList.map .lit) else .top
 | .tuple vs=>if vs.size=0 then .tup [] else .top
 | v=>.one (.lit v)
structure SB where
 ty:TypeId
 cells:List SC
 pub:Bool
 pv:Nat:=0
 deriving Inhabited
inductive Eff where
 | pure (v:SV) (needs:List SC)
 | load (v:SV) (b:Nat)
 | alloc (ty:TypeId) (cells:List SC) (sl:Option Nat)
 | store (b:Nat) (cells:List SC)
 | call (f:FuncId) (args:List SV)
 | getw (v:Nat) (i:SC) (s j:Nat) (t:TypeId)
 | read (a i:SC) (s j:Nat) (t:TypeId)
 | fail (why:String)
 deriving Inhabited
def opnd (tm:Tmp→SV):Operand→SV
 | .tmp t=>tm t
 | .const v=>sH v
 | .func f=>.one (.fn f [])
 | .global _=>.top
def gK (P:Program) (t:TypeId):Option Bool:=
 match fX P t with
 | some (.struct _)=>some true
 | some (.array _ _)=>some true
 | some _=>some false
 | none=>none
def cR (P:Program) (t:TypeId):Option Nat:=(nB P t).map (·.size)
def oW (P:Program) (t:TypeId) (cs:List SC) (off:Nat):Option SV:=
 match gK P t,cR P t with
 | some true,some m=>(aJc off m cs).map .agg
 | some false,some _=>match aJc off 1 cs with
  | some [c]=>if c.scalar then some (.one c) else none
  | _=>none
 | _,_=>none
def wC (place:Nat→Option (Nat×Nat)) (cells:List SC):List (Nat×SV)→Option (List SC)
 | []=>some cells
 | (i,v) :: rest=>match place i,v.cells? with
  | some (off,size),some new=>
   if widths new=size then
    match aHq off new cells with
    | some cells=>wC place cells rest
    | none=>none
   else none
  | _,_=>none
def iI (v:Value):Option (List SC):=
 match v with
 | .agg cs=>if cs.toList.all Value.scalar then some (cs.toList.map .lit) else none
 | .tuple _=>none
 | v=>some [.lit v]
def lO (P:Program):List Field→Option (List (Nat×Nat))
 | []=>some []
 | f :: fs=>match cR P f.type,lO P fs with
  | some s,some l=>some ((f.offset,s) :: l)
  | _,_=>none
def yQ (P:Program) (t:TypeId):Option (Nat→Option (Nat×Nat)):=
 match fX P t with
 | some (.struct fields)=>match lO P fields.toList with
  | some l=>some fun i=>l[i]?
  | none=>none
 | some (.array _ e)=>(cR P e).map fun s=>fun i=>some (i*s,s)
 | _=>none
def pP (tm:Tmp→SV) (hp:Nat→Option SB):List Operand→Option (List Nat)
 | []=>some []
 | x :: xs=>match opnd tm x with
  | .one (.ptr b 0)=>match hp b with
   | some blk=>if blk.pub then (pP tm hp xs).map (blk.pv :: ·) else none
   | none=>none
  | _=>none
def uI (sl:Option Nat) (b:Nat):SV:=match sl with
 | none=>.one (.ptr b 0)
 | some n=>.one (.sl b 0 n n)
def vI (sl:Option Nat) (m:Nat):Value:=match sl with
 | none=>.pointer (some ⟨m,0,none⟩)
 | some n=>.slice (some ⟨m,0,none⟩) n n
theorem uJ {ρ:Env}{sl:Option Nat}{b m:Nat}(h:ρ.blk b=some m):(uI sl b).den ρ=some (vI sl m):=by
 cases sl <;> simp only [uI,vI,SV.den,SC.den,h]
def aAu (P:Program) (g:FuncId) (args:List SV):Eff:=
 match aOq P g with
 | some fn => if fn.name != "runtime.NumGoroutine" && fn.body.isSome then .call g args else .fail ("call " ++ fn.name)
 | none => .fail "call"
def aOi (name:String) (a:SC):Option SC:=
 if name = "math.Float64bits" then some (bW 10 .add a (.lit (.int .u64 0)))
 else if name = "math.Float64frombits" then some (bW 11 .add a (.lit (.float .f64 0)))
 else if name = "math.Float32bits" then some (bW 10 .add a (.lit (.int .u32 0)))
 else if name = "math.Float32frombits" then some (bW 11 .add a (.lit (.float .f32 0)))
 else none
def bCi (P:Program) (g:FuncId) (caps:List Nat) (args:List SV):Option SC:=
 match aOq P g,caps,args with
 | some fn, [], [.one a] => if fn.body.isNone && fn.origin == "" then aOi fn.name a else none
 | _,_,_=>none
def bF (P:Program) (tm:Tmp→SV) (hp:Nat→Option SB) (o:Oper):Eff:=
 let ρ:=opnd tm
 match o.op with
 | .move x | .assign x=>.pure (ρ x) []
 | .pick c a b=>match ρ c,ρ a,ρ b with
  | .one c,.one a,.one b=>.pure (.one (gM c a b)) []
  | _, _, _ => .fail "pick"
 | .alloc elem=>match nB P elem with
  | some i=>match i.zero with
   | some z=>match iI z with
    | some cs=>.alloc elem cs none
    | none => .fail "alloc: zero"
   | none => .fail "alloc"
  | none => .fail "alloc"
 | .box elem x=>match (ρ x).cells? with
  | some cs=>.alloc elem cs none
  | none => .fail "box"
 | .build t parts=>match nB P t,yQ P t with
  | some i,some place=>match i.zero with
   | some (.agg z)=>match iI (.agg z) with
    | some cs=>match wC place cs (parts.toList.map fun p=>(p.1,ρ p.2)) with
     | some cs=>.pure (.agg cs) []
     | none => .fail "build"
    | none => .fail "build"
   | _ => .fail "build"
  | _, _ => .fail "build"
 | .load t a=>match ρ a with
  | .one (.ptr b off)=>match hp b with
   | some blk=>match oW P t blk.cells off with
    | some v=>.load v b
    | none => .fail "load: part"
   | none => .fail "load: no block"
  | .one (.elem (.sl _ _ _ _) _ _ _) => .fail "load"
  | .one (.elem (.slr v) i s j)=>.getw v i s j t
  | .one (.elem a i s j)=>.read a i s j t
  | _ => .fail "load: no pointer of ours"
 | .store t a x=>match ρ a,(ρ x).cells?,cR P t with
  | .one (.ptr b off),some new,some m=>match hp b with
   | some blk=>if widths new=m && !blk.pub then
    match aHq off new blk.cells with
    | some cs=>.store b cs
    | none => .fail "store: part"
    else .fail "store: size"
   | none => .fail "store: no block"
  | .one (.elem (.sl _ _ _ _) _ _ _), some _, some _ => .fail "store"
  | _, _, _ => .fail "store"
 | .nilCheck x=>match ρ x with
  | .one (.ptr b off)=>.pure (.one (.ptr b off)) []
  | .one (.fn f caps)=>.pure (.one (.fn f caps)) []
  | _ => .fail "nilCheck"
 | .binOp op t x y _=>match ρ x,ρ y with
  | .one a,.one b=>
   match fX P t with
   | some (.int _)=>.pure (.one (bW 0 op a b)) (match op with
    | .quo | .rem=>[aXs b]
    | .shl | .shr=>[mY (.lit (.int .i64 0)) b]
    | _=>[])
   | some .bool=>.pure (.one (bW 1 op a b)) []
   | some .string=>.pure (.one (bW 2 op a b)) (match op with
    | .add=>[.fit a b]
    | _=>[])
   | some (.float _)=>.pure (.one (bW 3 op a b)) (match op with
    | .add | .sub | .mul | .quo=>[bW 4 op a b]
    | _=>[])
   | some (.complex _)=>.pure (.one (bW 17 op a b)) []
   | _ => .fail "binOp: type"
  | _, _ => .fail "binOp"
 | .unOp op _ x=>match op,ρ x with
  | .not,.one a=>.pure (.one (aHi a)) []
  | .neg,.one a=>.pure (.one (aHh a)) []
  | _, _ => .fail "unOp"
 | .convert src dst x=>match fX P src,fX P dst,ρ x with
  | some (.int _),some (.float k),.one a=>.pure (.one (bW 5 .add a (.lit (.float k 0)))) []
  | some (.float _),some (.float k),.one a=>.pure (.one (bW 6 .add a (.lit (.float k 0)))) [bW 7 .add a (.lit (.float k 0))]
  | some (.float _),some (.int k),.one a=>.pure (.one (bW 8 .add a (.lit (.int k 0)))) [bW 9 .add a (.lit (.int k 0))]
  | some _,some (.int k),.one a=>.pure (.one (yK k a)) []
  | some (.complex _),some (.complex k),.one a=>.pure (.one (bW 15 .add a (.lit (.complex k 0 0)))) [bW 16 .add a (.lit (.complex k 0 0))]
  | _, _, _ => .fail "convert"
 | .makeFunc fn first captured=>match fn,first.size with
  | .func f,0=>match pP tm hp captured.toList with
   | some ids=>.pure (.one (.fn f ids)) []
   | none => .fail "makeFunc"
  | _, _ => .fail "makeFunc"
 | .fieldAddr s x f=>match ρ x,fX P s with
  | .one (.ptr b off),some (.struct fields)=>match fields[f]? with
   | some fd=>match cR P fd.type with
    | some (_+1)=>.pure (.one (.ptr b (off+fd.offset))) []
    | _ => .fail "fieldAddr: size"
   | none => .fail "fieldAddr"
  | .one (.elem a i s j),some (.struct fields)=>match fields[f]? with
   | some fd=>match cR P fd.type with
    | some (_+1)=>.pure (.one (.elem a i s (j+fd.offset))) []
    | _ => .fail "fieldAddr: size"
   | none => .fail "fieldAddr"
  | _, _ => .fail "fieldAddr"
 | .field t x f=>match ρ x,fX P t with
  | .agg cs,some (.struct fields)=>match fields[f]? with
   | some fd=>match oW P fd.type cs fd.offset with
    | some v=>.pure v []
    | none => .fail "field"
   | none => .fail "field"
  | _, _ => .fail "field"
 | .buildSlice t len parts=>match fX P t with
  | some (.slice e)=>match nB P e,cR P e with
   | some i,some size=>match i.zero with
    | some z=>match iI z with
     | some zc=>
      if len*size≤16777216∧len*size≠0∧zc.length≠0 then
       match wC (fun i=>some (i*size,size)) ((List.range (len*size)).map fun i=>(zc[i % zc.length]?).getD (.lit (.bool false))) (parts.toList.map fun p=>(p.1,ρ p.2)) with
       | some cs=>.alloc e cs (some len)
       | none => .fail "buildSlice"
      else .fail "buildSlice: size"
     | none => .fail "buildSlice"
    | none => .fail "buildSlice"
   | _, _ => .fail "buildSlice"
  | _ => .fail "buildSlice"
 | .indexAddr t x ix=>match ρ x,ρ ix,fX P t with
  | .one (.sl b off len _),.one (.lit (.int _ i)),some (.slice e)=>match cR P e with
   | some s => if 0 ≤ i ∧ i < len then .pure (.one (.ptr b (off + i.toNat * s))) [] else .fail "indexAddr: range"
   | none => .fail "indexAddr"
  | .one (.ptr b off),.one (.lit (.int _ i)),some (.array n e)=>match cR P e with
   | some s => if 0 ≤ i ∧ i < n then .pure (.one (.ptr b (off + i.toNat * s))) [] else .fail "indexAddr: range"
   | none => .fail "indexAddr"
  | .one (.ptr b off),.one i,some (.array n e)=>match cR P e with
   | some s=>.pure (.one (.elem (.sl b off n n) i s 0)) [oP i (.lit (.int .i64 n))]
   | none => .fail "indexAddr"
  | .one (.sl b off len c),.one i,some (.slice e)=>match cR P e with
   | some s=>.pure (.one (.elem (.sl b off len c) i s 0)) [oP i (.lit (.int .i64 len))]
   | none => .fail "indexAddr"
  | .one (.slc (.sl b off len c) (.lit (.int .u8 z)) h _),.one i,some (.slice e)=>match cR P e with
   | some s => if z = 0 then .pure (.one (.elem (.sl b off len c) i s 0)) [oP i h, mY h (.lit (.int .i64 len))] else .fail "indexAddr: part"
   | none => .fail "indexAddr"
  | .one a,.one i,some (.slice e)=>match cR P e with
   | some s=>.pure (.one (.elem a i s 0)) []
   | none => .fail "indexAddr"
  | _, _, _ => .fail "indexAddr"
 | .index t x ix=>match ρ x,ρ ix,fX P t with
  | .agg cs,.one (.lit (.int _ i)),some (.array n e)=>match cR P e with
   | some s=>if 0≤i∧i<n then
    match oW P e cs (i.toNat*s) with
    | some v=>.pure v []
    | none => .fail "index: part"
    else .fail "index: range"
   | none => .fail "index"
  | .one s,.one i,some .string=>.pure (.one (.byte s i)) [oP i (lI s)]
  | _, _, _ => .fail "index"
 | .slice t x lo hi mx=>match ρ x,fX P t,mx with
  | .one s,some .string,none=>
   let l:=match lo with
    | some l=>ρ l
    | none=>.one (.lit (.int .i64 0))
   let h:=match hi with
    | some h=>ρ h
    | none=>.one (lI s)
   match l,h with
   | .one l,.one h=>.pure (.one (.sub s l h)) [mY (.lit (.int .i64 0)) l,mY l h,mY h (lI s)]
   | _, _ => .fail "slice"
  | .one (.ptr b off),some (.array n e),none=>match lo,hi,cR P e with
   | some l,none,some s=>match ρ l with
    | .one (.lit (.int _ i)) => if 0 ≤ i ∧ i < n then .pure (.one (.sl b (off + i.toNat * s) (n - i.toNat) (n - i.toNat))) [] else .fail "slice: range"
    | _ => .fail "slice"
   | none,some h,some s=>match ρ h with
    | .one h=>.pure (.one (.slc (.sl b off n n) (.lit (.int .u8 0)) h s)) [mY (.lit (.int .i64 0)) h,mY h (.lit (.int .i64 n))]
    | _ => .fail "slice"
   | _, _, _ => .fail "slice"
  | .one a,some (.slice e),none=>
   let l:=match lo with
    | some l=>ρ l
    | none=>.one (.lit (.int .i64 0))
   let h:=match hi with
    | some h=>ρ h
    | none=>.one (lI a)
   match l,h,cR P e with
   | .one l, .one h, some s => if aEe l = true then .fail "slice" else .pure (.one (wM a l h s)) []
   | _, _, _ => .fail "slice"
  | _, _, _ => .fail "slice"
 | .extract x i=>match ρ x with
  | .tup vs=>match vs[i]? with
   | some (true,cs)=>.pure (.agg cs) []
   | some (false,[c])=>.pure (.one c) []
   | _ => .fail "extract"
  | _ => .fail "extract"
 | .call c=>match c.callee with
  | .builtin .len=>match c.args.toList,c.argTypes.toList with
   | [x],[t]=>match ρ x,fX P t with
    | .one (.sl _ _ n _),some (.slice _)=>.pure (.one (.lit (.int .i64 n))) []
    | .one (.slc (.sl _ _ _ _) (.lit (.int .u8 z)) h _), some (.slice _) => if z = 0 then .pure (.one h) [bW 0 .leq (.lit (.int .i64 0)) h] else .fail "len: part"
    | .one a,some .string=>.pure (.one (lI a)) [.isSl true a]
    | .one a,some (.slice _)=>.pure (.one (lI a)) [.isSl false a]
    | _, _ => .fail "len"
   | _, _ => .fail "len"
  | .builtin .max=>match c.args.toList with
   | [x,y]=>match ρ x,ρ y with
    | .one a,.one b=>.pure (.one (gM (bW 0 .lss a b) b a)) []
    | _, _ => .fail "max"
   | _ => .fail "max"
  | .builtin .min=>match c.args.toList with
   | [x,y]=>match ρ x,ρ y with
    | .one a,.one b=>.pure (.one (gM (bW 0 .lss b a) b a)) []
    | _, _ => .fail "min"
   | _ => .fail "min"
  | .builtin .complex=>match c.args.toList with
   | [x,y]=>match ρ x,ρ y with
    | .one a,.one b=>.pure (.one (bW 12 .add a b)) []
    | _, _ => .fail "complex"
   | _ => .fail "complex"
  | .builtin .real=>match c.args.toList with
   | [x]=>match ρ x with
    | .one a=>.pure (.one (bW 13 .add a (.lit (.bool false)))) []
    | _ => .fail "real"
   | _ => .fail "real"
  | .builtin .imag=>match c.args.toList with
   | [x]=>match ρ x with
    | .one a=>.pure (.one (bW 14 .add a (.lit (.bool false)))) []
    | _ => .fail "imag"
   | _ => .fail "imag"
  | .value f=>match ρ f with
   | .one (.fn g caps)=>
    let args:=(c.args.toList.map ρ)++caps.map fun i=>.one (.var i)
    match bCi P g caps (c.args.toList.map ρ) with
    | some c=>.pure (.one c) []
    | none=>aAu P g args
   | _ => .fail "call: value"
  | _ => .fail "call: builtin"
 | _ => .fail "op"
