/- A symbolic executor of the model's code: the executor. -/
import Derived.Test.YtifcjpacobpdmaaGreatReSy2
namespace Go.Proofs.YtifcjpacobpdmaaGreat.Sy
open Go.RowKit
def aBf {α:Type}:List α→Nat→Option α
 | [],_=>none
 | x :: _,0=>some x
 | _ :: l,n+1=>aBf l n
theorem tU {α:Type}:∀(l:List α) (n:Nat),aBf l n=l[n]?
 | [],_=>rfl
 | _ :: _,0=>rfl
 | _ :: l,n+1=>by rw [aBf,tU l n,List.getElem?_cons_succ]
def mO (P:Program) (t:TypeId):Option TypeInfo:=
 match aBf P.types.toList t with
 | some i=>some i
 | none=>P.info? t
theorem jD (P:Program) (t:TypeId):mO P t=P.info? t:=by
 unfold mO;rw [tU];cases h:P.types.toList[t]? with
 | none=>rfl
 | some i=>
  have h':P.types[t]?=some i:=by rw [←jh];exact h
  have hlt:t<P.types.size:=by
   rcases zz t P.types.size with h1|h1
   ·exact h1
   ·rw [jf h1]at h';cases h'
  simp only [Tables.info?,od hlt,h']
def dU (P:Program) (t:TypeId):Option TypeDesc:=
 match mO P t with
 | some { desc:=.named _ u,.. }=>(mO P u).map (·.desc)
 | some i=>some i.desc
 | none=>none
theorem mG (P:Program) (t:TypeId):dU P t=P.underlying t:=by
 unfold dU Program.underlying;simp only [jD];cases P.info? t with
 | none=>rfl
 | some i=>cases i with
  | mk desc _ _ _ _ _ _ _ _ _=>cases desc <;> rfl
def aNu (P:Program) (f:FuncId):Option Func:=aBf P.funcs.toList f
theorem yA (P:Program) (f:FuncId):aNu P f=P.funcs[f]?:=by
 unfold aNu;rw [tU,jh]
def bP (cl:Nat) (op:BinOp):SC→SC→SC
 | .lit a,.lit b=>match dY cl op a b with
  | some v=>.lit v
  | none=>.bin cl op (.lit a) (.lit b)
 | a,b=>.bin cl op a b
def eC:List SC→List SC→Option SC
 | [],[]=>some (.lit (.bool true))
 | a :: as,b :: bs=>if a.scalar && b.scalar then (eC as bs).map fun r=>.pick (bP 0 .eql a b) r (.lit (.bool false)) else none
 | _,_=>none
def tW:SC→SC
 | .lit a=>match aBp a with
  | some v=>.lit v
  | none=>.not (.lit a)
 | .not a=>.not (.not a)
 | a=>.not a
def aHn:SC→SC
 | .lit a=>match aKd a with
  | some v=>.lit v
  | none=>.neg (.lit a)
 | a=>.neg a
def yJ (k:IntKind):SC→SC
 | .lit a=>match vY k a with
  | some v=>.lit v
  | none=>.conv k (.lit a)
 | a=>.conv k a
def kP:SC→SC
 | .lit a=>match oJ a with
  | some v=>.lit v
  | none=>.len (.lit a)
 | a=>.len a
def kO:SC→SC→SC
 | .lit a,.lit b=>match rZ a b with
  | some v=>.lit v
  | none=>.idx (.lit a) (.lit b)
 | a,b=>.idx a b
def aEg:SC→Bool
 | .lit (.int .u8 _)=>true
 | _=>false
def mJ:SC→SC→SC
 | .lit a,.lit b=>match leD a b with
  | some v=>.lit v
  | none=>.le (.lit a) (.lit b)
 | a,b=>.le a b
def aUw:SC→SC
 | .lit a=>match nzD a with
  | some v=>.lit v
  | none=>.nz (.lit a)
 | a=>.nz a
def gH:SC→SC→SC→SC
 | .lit (.bool c),a,b=>if c then a else b
 | c,a,b=>.pick c a b
def wN (a lo hi:SC) (s:Nat):SC:=
 match a,lo,hi with
 | .sl b off n c,.lit (.int kl l),.lit (.int kh h)=>if 0≤l∧l≤h∧h≤c∧c≠l.toNat then .sl b (off+l.toNat*s) (h.toNat-l.toNat) (c-l.toNat) else .slc (.sl b off n c) (.lit (.int kl l)) (.lit (.int kh h)) s
 | a,lo,hi=>.slc a lo hi s
theorem aJz (ρ:Env) (a lo hi:SC) (s:Nat):(wN a lo hi s).den ρ=(SC.slc a lo hi s).den ρ:=by
 unfold wN;split
 ·rename_i b off n c kl l kh h;split
  ·rename_i hc;cases hb:ρ.blk b with
   | none=>simp [SC.den,hb]
   | some m=>simp [SC.den,hb,slcD,hc,Addr.add]
  ·rfl
 ·rfl
theorem aL (ρ:Env) (cl:Nat) (op:BinOp) (a b:SC):(bP cl op a b).den ρ=(SC.bin cl op a b).den ρ:=by
 unfold bP;split
 ·rename_i x y;cases h:dY cl op x y <;> simp [SC.den,h]
 ·rfl
theorem wM (ρ:Env) (a:SC):(tW a).den ρ=(SC.not a).den ρ:=by
 unfold tW;split
 ·rename_i x;cases h:aBp x <;> simp [SC.den,h]
 ·rfl
 ·rfl
theorem aJx (ρ:Env) (a:SC):(aHn a).den ρ=(SC.neg a).den ρ:=by
 unfold aHn;split
 ·rename_i x;cases h:aKd x <;> simp [SC.den,h]
 ·rfl
theorem aEk (ρ:Env) (k:IntKind) (a:SC):(yJ k a).den ρ=(SC.conv k a).den ρ:=by
 unfold yJ;split
 ·rename_i x;cases h:vY k x <;> simp [SC.den,h]
 ·rfl
theorem gX (ρ:Env) (a:SC):(kP a).den ρ=(SC.len a).den ρ:=by
 unfold kP;split
 ·rename_i x;cases h:oJ x <;> simp [SC.den,h]
 ·rfl
theorem gW (ρ:Env) (a b:SC):(kO a b).den ρ=(SC.idx a b).den ρ:=by
 unfold kO;split
 ·rename_i x y;cases h:rZ x y <;> simp [SC.den,h]
 ·rfl
theorem oM (ρ:Env) (a b:SC):(mJ a b).den ρ=(SC.le a b).den ρ:=by
 unfold mJ;split
 ·rename_i x y;cases h:leD x y <;> simp [SC.den,h]
 ·rfl
theorem aOu (ρ:Env) (a:SC):(aUw a).den ρ=(SC.nz a).den ρ:=by
 unfold aUw;split
 ·rename_i x;cases h:nzD x <;> simp [SC.den,h]
 ·rfl
def aTz:SC→Nat→Option (SC×SC)
 | .seg x N,a=>some (.part x N (.lit (.int .i64 0)) 0 0 a,.part x N (.lit (.int .i64 0)) 0 a (N-a))
 | .part x N i s j m,a=>some (.part x N i s j a,.part x N i s (j+a) (m-a))
 | _,_=>none
def kC:Nat→List SC→Option (List SC×List SC)
 | 0,cs=>some ([],cs)
 | _+1,[]=>none
 | o+1,c :: cs=>
  if c.width=0 then none else
  if c.width≤o+1 then
   match kC (o+1-c.width) cs with
   | some (l,r)=>some (c :: l,r)
   | none=>none
  else match aTz c (o+1) with
   | some (c1,c2)=>some ([c1],c2 :: cs)
   | none=>none
def cutW (o m:Nat) (cs:List SC):Option (List SC):=
 match kC o cs with
 | some (_,r)=>match kC m r with
  | some (l,_)=>some l
  | none=>none
 | none=>none
def uF (o:Nat) (new cs:List SC):Option (List SC):=
 match kC o cs with
 | some (l,r)=>match kC (widths new) r with
  | some (_,r')=>some (l++new++r')
  | none=>none
 | none=>none
def SV.cells?:SV→Option (List SC)
 | .one c=>if c.scalar then some [c] else none
 | .agg cs=>some cs
 | _=>none
def sK:Value→SV
 | .agg cs=>if cs.all Value.scalar then .agg (cs.toList.map .lit) else .top
 | .tuple vs=>if vs.size=0 then .tup [] else .top
 | v=>.one (.lit v)
structure SB where
 ty:TypeId
 cells:List SC
 pub:Bool
 pv:Nat:=0
 deriving Inhabited
inductive Eff where
 | pure (v:SV) (needs:List SC)
 | load (v:SV) (b:Nat)
 | alloc (ty:TypeId) (cells:List SC) (sl:Option Nat)
 | store (b:Nat) (cells:List SC)
 | call (f:FuncId) (args:List SV)
 | getw (v:Nat) (i:SC) (s j:Nat) (t:TypeId)
 | read (a i:SC) (s j:Nat) (t:TypeId)
 | fail (why:String)
 deriving Inhabited
def opnd (tm:Tmp→SV):Operand→SV
 | .tmp t=>tm t
 | .const v=>sK v
 | .func f=>.one (.fn f [])
 | .global _=>.top
def dI (P:Program) (t:TypeId):Option Bool:=
 match dU P t with
 | some (.struct _)=>some true
 | some (.array _ _)=>some true
 | some _=>some false
 | none=>none
def bK (P:Program) (t:TypeId):Option Nat:=(mO P t).map (·.size)
def oU (P:Program) (t:TypeId) (cs:List SC) (off:Nat):Option SV:=
 match dI P t,bK P t with
 | some true,some m=>(cutW off m cs).map .agg
 | some false,some _=>match cutW off 1 cs with
  | some [c]=>if c.scalar then some (.one c) else none
  | _=>none
 | _,_=>none
def wD (place:Nat→Option (Nat×Nat)) (cells:List SC):List (Nat×SV)→Option (List SC)
 | []=>some cells
 | (i,v) :: rest=>match place i,v.cells? with
  | some (off,size),some new=>
   if widths new=size then
    match uF off new cells with
    | some cells=>wD place cells rest
    | none=>none
   else none
  | _,_=>none
def iB (v:Value):Option (List SC):=
 match v with
 | .agg cs=>if cs.toList.all Value.scalar then some (cs.toList.map .lit) else none
 | .tuple _=>none
 | v=>some [.lit v]
def kX (P:Program):List Field→Option (List (Nat×Nat))
 | []=>some []
 | f :: fs=>match bK P f.type,kX P fs with
  | some s,some l=>some ((f.offset,s) :: l)
  | _,_=>none
def yS (P:Program) (t:TypeId):Option (Nat→Option (Nat×Nat)):=
 match dU P t with
 | some (.struct fields)=>match kX P fields.toList with
  | some l=>some fun i=>l[i]?
  | none=>none
 | some (.array _ e)=>(bK P e).map fun s=>fun i=>some (i*s,s)
 | _=>none
def pM (tm:Tmp→SV) (hp:Nat→Option SB):List Operand→Option (List Nat)
 | []=>some []
 | x :: xs=>match opnd tm x with
  | .one (.ptr b 0)=>match hp b with
   | some blk=>if blk.pub then (pM tm hp xs).map (blk.pv :: ·) else none
   | none=>none
  | _=>none
def uN (sl:Option Nat) (b:Nat):SV:=match sl with
 | none=>.one (.ptr b 0)
 | some n=>.one (.sl b 0 n n)
def vM (sl:Option Nat) (m:Nat):Value:=match sl with
 | none=>.pointer (some ⟨m,0,none⟩)
 | some n=>.slice (some ⟨m,0,none⟩) n n
theorem uO {ρ:Env}{sl:Option Nat}{b m:Nat}(h:ρ.blk b=some m):(uN sl b).den ρ=some (vM sl m):=by
 cases sl <;> simp only [uN,vM,SV.den,SC.den,h]
def aAh (P:Program) (g:FuncId) (args:List SV):Eff:=
 match aNu P g with
 | some fn => if fn.name != "runtime.NumGoroutine" && fn.body.isSome then .call g args else .fail ("call " ++ fn.name)
 | none => .fail "call"
def aNr (name:String) (a:SC):Option SC:=
 if name = "math.Float64bits" then some (bP 10 .add a (.lit (.int .u64 0)))
 else if name = "math.Float64frombits" then some (bP 11 .add a (.lit (.float .f64 0)))
 else if name = "math.Float32bits" then some (bP 10 .add a (.lit (.int .u32 0)))
 else if name = "math.Float32frombits" then some (bP 11 .add a (.lit (.float .f32 0)))
 else none
def aYx (P:Program) (g:FuncId) (caps:List Nat) (args:List SV):Option SC:=
 match aNu P g,caps,args with
 | some fn, [], [.one a] => if fn.body.isNone && fn.origin == "" then aNr fn.name a else none
 | _,_,_=>none
def uI (P:Program) (t:TypeId) (cs:List SC) (off n s:Nat) (i:SC) (j:Nat):Option (List SC):=
 match cutW off (n*s) cs,dI P t,bK P t with
 | some [.seg x N],some true,some m=>if N=n*s∧j+m≤s then some [.part x N i s j m] else none
 | some [.part x N (.lit (.int _ z)) _ j0 m0],some true,some m=>if z=0∧m0=n*s∧j+m≤s then some [.part x N i s (j0+j) m] else none
 | _,_,_=>none
def aGs (P:Program) (t:TypeId) (cs:List SC) (n s:Nat) (i:SC):Option SC:=
 match cs,dU P t,dI P t with
 | [.seg x N],some (.slice _),some false=>if N=n*s∧0<s then some (.cel x i s .slice) else none
 | [.seg x N],some (.complex k),some false=>if N=n*s∧0<s then some (.cel x i s (.cpx k)) else none
 | _,_,_=>none
def rX (y:SC):List SC→SC
 | []=>y
 | z :: l=>.cat y (rX z l)
def aDd (cs:List SC) (off n s:Nat) (i:SC) (j m:Nat) (new:List SC):Option (List SC):=
 match cutW off (n*s) cs,new with
 | some [.seg x N],y :: ys=>if N=n*s∧j+m≤s∧(rX y ys).width=m then uF off [.upd x N i s j (rX y ys)] cs else none
 | _,_=>none
def aU (P:Program) (tm:Tmp→SV) (hp:Nat→Option SB) (o:Oper):Eff:=
 let ρ:=opnd tm
 match o.op with
 | .move x | .assign x=>.pure (ρ x) []
 | .pick c a b=>match ρ c,ρ a,ρ b with
  | .one c,.one a,.one b=>.pure (.one (gH c a b)) []
  | _, _, _ => .fail "pick"
 | .alloc elem=>match mO P elem with
  | some i=>match i.zero with
   | some z=>match iB z with
    | some cs=>.alloc elem cs none
    | none => .fail "alloc: zero"
   | none => .fail "alloc"
  | none => .fail "alloc"
 | .box elem x=>match (ρ x).cells? with
  | some cs=>.alloc elem cs none
  | none => .fail "box"
 | .build t parts=>match mO P t,yS P t with
  | some i,some place=>match i.zero with
   | some (.agg z)=>match iB (.agg z) with
    | some cs=>match wD place cs (parts.toList.map fun p=>(p.1,ρ p.2)) with
     | some cs=>.pure (.agg cs) []
     | none => .fail "build"
    | none => .fail "build"
   | _ => .fail "build"
  | _, _ => .fail "build"
 | .load t a=>match ρ a with
  | .one (.ptr b off)=>match hp b with
   | some blk=>match oU P t blk.cells off with
    | some v=>.load v b
    | none => .fail "load: part"
   | none => .fail "load: no block"
  | .one (.elem (.sl b off n _) i s j)=>match hp b with
   | some blk=>match uI P t blk.cells off n s i j with
    | some cs=>.load (.agg cs) b
    | none=>match (cutW off (n*s) blk.cells).bind fun cs=>aGs P t cs n s i with
     | some c => if j = 0 then .load (.one c) b else .fail "load: part by index"
     | none => .fail "load: part by index"
   | none => .fail "load: no block"
  | .one (.elem (.slr v) i s j)=>.getw v i s j t
  | .one (.elem a i s j)=>.read a i s j t
  | _ => .fail "load: no pointer of ours"
 | .store t a x=>match ρ a,(ρ x).cells?,bK P t with
  | .one (.ptr b off),some new,some m=>match hp b with
   | some blk=>if widths new=m && !blk.pub then
    match uF off new blk.cells with
    | some cs=>.store b cs
    | none => .fail "store: part"
    else .fail "store: size"
   | none => .fail "store: no block"
  | .one (.elem (.sl b off n _) i s j),some new,some m=>match hp b with
   | some blk=>if widths new=m && !blk.pub then
    match aDd blk.cells off n s i j m new with
    | some cs=>.store b cs
    | none => .fail "store: part by index"
    else .fail "store: size"
   | none => .fail "store: no block"
  | _, _, _ => .fail "store"
 | .nilCheck x=>match ρ x with
  | .one (.ptr b off)=>.pure (.one (.ptr b off)) []
  | .one (.fn f caps)=>.pure (.one (.fn f caps)) []
  | _ => .fail "nilCheck"
 | .binOp op t x y _=>match ρ x,ρ y with
  | .one a,.one b=>
   match dU P t with
   | some (.int _)=>.pure (.one (bP 0 op a b)) (match op with
    | .quo | .rem=>[aUw b]
    | .shl | .shr=>[mJ (.lit (.int .i64 0)) b]
    | _=>[])
   | some .bool=>.pure (.one (bP 1 op a b)) []
   | some .string=>.pure (.one (bP 2 op a b)) (match op with
    | .add=>[.fit a b]
    | _=>[])
   | some (.float _)=>.pure (.one (bP 3 op a b)) (match op with
    | .add | .sub | .mul | .quo=>[bP 4 op a b]
    | _=>[])
   | some (.complex _)=>.pure (.one (bP 17 op a b)) []
   | _ => .fail "binOp: type"
  | .agg as,.agg bs=>
   match dU P t with
   | some (.array n e)=>
    match dU P e,bK P e with
    | some (.int _),some 1=>if as.length=n then (match eC as bs,op with
     | some r,.eql=>.pure (.one r) []
     | some r,.neq=>.pure (.one (tW r)) []
     | _, _ => .fail "binOp: cells") else .fail "binOp: array"
    | _, _ => .fail "binOp: elements"
   | _ => .fail "binOp: aggregates"
  | _, _ => .fail "binOp"
 | .unOp op _ x=>match op,ρ x with
  | .not,.one a=>.pure (.one (tW a)) []
  | .neg,.one a=>.pure (.one (aHn a)) []
  | _, _ => .fail "unOp"
 | .convert src dst x=>match dU P src,dU P dst,ρ x with
  | some (.int _),some (.float k),.one a=>.pure (.one (bP 5 .add a (.lit (.float k 0)))) []
  | some (.float _),some (.float k),.one a=>.pure (.one (bP 6 .add a (.lit (.float k 0)))) [bP 7 .add a (.lit (.float k 0))]
  | some (.float _),some (.int k),.one a=>.pure (.one (bP 8 .add a (.lit (.int k 0)))) [bP 9 .add a (.lit (.int k 0))]
  | some _,some (.int k),.one a=>.pure (.one (yJ k a)) []
  | some (.complex _),some (.complex k),.one a=>.pure (.one (bP 15 .add a (.lit (.complex k 0 0)))) [bP 16 .add a (.lit (.complex k 0 0))]
  | _, _, _ => .fail "convert"
 | .makeFunc fn first captured=>match fn,first.size with
  | .func f,0=>match pM tm hp captured.toList with
   | some ids=>.pure (.one (.fn f ids)) []
   | none => .fail "makeFunc"
  | _, _ => .fail "makeFunc"
 | .fieldAddr s x f=>match ρ x,dU P s with
  | .one (.ptr b off),some (.struct fields)=>match fields[f]? with
   | some fd=>match bK P fd.type with
    | some (_+1)=>.pure (.one (.ptr b (off+fd.offset))) []
    | _ => .fail "fieldAddr: size"
   | none => .fail "fieldAddr"
  | .one (.elem a i s j),some (.struct fields)=>match fields[f]? with
   | some fd=>match bK P fd.type with
    | some (_+1)=>.pure (.one (.elem a i s (j+fd.offset))) []
    | _ => .fail "fieldAddr: size"
   | none => .fail "fieldAddr"
  | _, _ => .fail "fieldAddr"
 | .field t x f=>match ρ x,dU P t with
  | .agg cs,some (.struct fields)=>match fields[f]? with
   | some fd=>match oU P fd.type cs fd.offset with
    | some v=>.pure v []
    | none => .fail "field"
   | none => .fail "field"
  | _, _ => .fail "field"
 | .buildSlice t len parts=>match dU P t with
  | some (.slice e)=>match mO P e,bK P e with
   | some i,some size=>match i.zero with
    | some z=>match iB z with
     | some zc=>
      if len*size≤16777216∧len*size≠0∧zc.length≠0 then
       match wD (fun i=>some (i*size,size)) ((List.range (len*size)).map fun i=>(zc[i % zc.length]?).getD (.lit (.bool false))) (parts.toList.map fun p=>(p.1,ρ p.2)) with
       | some cs=>.alloc e cs (some len)
       | none => .fail "buildSlice"
      else .fail "buildSlice: size"
     | none => .fail "buildSlice"
    | none => .fail "buildSlice"
   | _, _ => .fail "buildSlice"
  | _ => .fail "buildSlice"
 | .indexAddr t x ix=>match ρ x,ρ ix,dU P t with
  | .one (.sl b off len _),.one (.lit (.int _ i)),some (.slice e)=>match bK P e with
   | some s => if 0 ≤ i ∧ i < len then .pure (.one (.ptr b (off + i.toNat * s))) [] else .fail "indexAddr: range"
   | none => .fail "indexAddr"
  | .one (.ptr b off),.one (.lit (.int _ i)),some (.array n e)=>match bK P e with
   | some s => if 0 ≤ i ∧ i < n then .pure (.one (.ptr b (off + i.toNat * s))) [] else .fail "indexAddr: range"
   | none => .fail "indexAddr"
  | .one (.ptr b off),.one i,some (.array n e)=>match bK P e with
   | some s=>.pure (.one (.elem (.sl b off n n) i s 0)) [kO i (.lit (.int .i64 n))]
   | none => .fail "indexAddr"
  | .one (.sl b off len c),.one i,some (.slice e)=>match bK P e with
   | some s=>.pure (.one (.elem (.sl b off len c) i s 0)) [kO i (.lit (.int .i64 len))]
   | none => .fail "indexAddr"
  | .one (.slc (.sl b off len c) (.lit (.int .u8 z)) h _),.one i,some (.slice e)=>match bK P e with
   | some s => if z = 0 then .pure (.one (.elem (.sl b off len c) i s 0)) [kO i h, mJ h (.lit (.int .i64 len))] else .fail "indexAddr: part"
   | none => .fail "indexAddr"
  | .one a,.one i,some (.slice e)=>match bK P e with
   | some s=>.pure (.one (.elem a i s 0)) []
   | none => .fail "indexAddr"
  | .one (.elem a i s j),.one (.lit (.int _ z)),some (.array n e)=>match bK P e with
   | some s' => if 0 ≤ z ∧ z < n then .pure (.one (.elem a i s (j + z.toNat * s'))) [] else .fail "indexAddr: range"
   | none => .fail "indexAddr"
  | _, _, _ => .fail "indexAddr"
 | .index t x ix=>match ρ x,ρ ix,dU P t with
  | .agg cs,.one (.lit (.int _ i)),some (.array n e)=>match bK P e with
   | some s=>if 0≤i∧i<n then
    match oU P e cs (i.toNat*s) with
    | some v=>.pure v []
    | none => .fail "index: part"
    else .fail "index: range"
   | none => .fail "index"
  | .one s,.one i,some .string=>.pure (.one (.byte s i)) [kO i (kP s)]
  | .agg cs,.one i,some (.array n e)=>match bK P e with
   | some s=>match uI P e cs 0 n s i 0 with
    | some cs=>.pure (.agg cs) [kO i (.lit (.int .i64 n))]
    | none=>match aGs P e cs n s i with
     | some c=>.pure (.one c) [kO i (.lit (.int .i64 n))]
     | none => .fail "index: part by index"
   | none => .fail "index"
  | _, _, _ => .fail "index"
 | .slice t x lo hi mx=>match ρ x,dU P t,mx with
  | .one s,some .string,none=>
   let l:=match lo with
    | some l=>ρ l
    | none=>.one (.lit (.int .i64 0))
   let h:=match hi with
    | some h=>ρ h
    | none=>.one (kP s)
   match l,h with
   | .one l,.one h=>.pure (.one (.sub s l h)) [mJ (.lit (.int .i64 0)) l,mJ l h,mJ h (kP s)]
   | _, _ => .fail "slice"
  | .one (.ptr b off),some (.array n e),none=>match lo,hi,bK P e with
   | some l,none,some s=>match ρ l with
    | .one (.lit (.int _ i)) => if 0 ≤ i ∧ i < n then .pure (.one (.sl b (off + i.toNat * s) (n - i.toNat) (n - i.toNat))) [] else .fail "slice: range"
    | _ => .fail "slice"
   | none,some h,some s=>match ρ h with
    | .one h=>.pure (.one (.slc (.sl b off n n) (.lit (.int .u8 0)) h s)) [mJ (.lit (.int .i64 0)) h,mJ h (.lit (.int .i64 n))]
    | _ => .fail "slice"
   | _, _, _ => .fail "slice"
  | .one a,some (.slice e),none=>
   let l:=match lo with
    | some l=>ρ l
    | none=>.one (.lit (.int .i64 0))
   let h:=match hi with
    | some h=>ρ h
    | none=>.one (kP a)
   match l,h,bK P e with
   | .one l, .one h, some s => if aEg l = true then .fail "slice" else .pure (.one (wN a l h s)) []
   | _, _, _ => .fail "slice"
  | _, _, _ => .fail "slice"
 | .extract x i=>match ρ x with
  | .tup vs=>match vs[i]? with
   | some (true,cs)=>.pure (.agg cs) []
   | some (false,[c])=>.pure (.one c) []
   | _ => .fail "extract"
  | _ => .fail "extract"
 | .call c=>match c.callee with
  | .builtin .len=>match c.args.toList,c.argTypes.toList with
   | [x],[t]=>match ρ x,dU P t with
    | .one (.sl _ _ n _),some (.slice _)=>.pure (.one (.lit (.int .i64 n))) []
    | .one (.slc (.sl _ _ _ _) (.lit (.int .u8 z)) h _), some (.slice _) => if z = 0 then .pure (.one h) [bP 0 .leq (.lit (.int .i64 0)) h] else .fail "len: part"
    | .one a,some .string=>.pure (.one (kP a)) [.isSl true a]
    | .one a,some (.slice _)=>.pure (.one (kP a)) [.isSl false a]
    | _, _ => .fail "len"
   | _, _ => .fail "len"
  | .builtin .max=>match c.args.toList with
   | [x,y]=>match ρ x,ρ y with
    | .one a,.one b=>.pure (.one (gH (bP 0 .lss a b) b a)) []
    | _, _ => .fail "max"
   | _ => .fail "max"
  | .builtin .min=>match c.args.toList with
   | [x,y]=>match ρ x,ρ y with
    | .one a,.one b=>.pure (.one (gH (bP 0 .lss b a) b a)) []
    | _, _ => .fail "min"
   | _ => .fail "min"
  | .builtin .complex=>match c.args.toList with
   | [x,y]=>match ρ x,ρ y with
    | .one a,.one b=>.pure (.one (bP 12 .add a b)) []
    | _, _ => .fail "complex"
   | _ => .fail "complex"
  | .builtin .real=>match c.args.toList with
   | [x]=>match ρ x with
    | .one a=>.pure (.one (bP 13 .add a (.lit (.bool false)))) []
    | _ => .fail "real"
   | _ => .fail "real"
  | .builtin .imag=>match c.args.toList with
   | [x]=>match ρ x with
    | .one a=>.pure (.one (bP 14 .add a (.lit (.bool false)))) []
    | _ => .fail "imag"
   | _ => .fail "imag"
  | .value f=>match ρ f with
   | .one (.fn g caps)=>
    let args:=(c.args.toList.map ρ)++caps.map fun i=>.one (.var i)
    match aYx P g caps (c.args.toList.map ρ) with
    | some c=>.pure (.one c) []
    | none=>aAh P g args
   | _ => .fail "call: value"
  | _ => .fail "call: builtin"
 | _ => .fail "op"
