/- A symbolic executor of the model's code: the executor. -/
import Derived.Test.YthiaclljcnincaaGreatApSy2
namespace Go.Proofs.YthiaclljcnincaaGreat.Sy
open Go.RowKit
def aAm {α:Type}:List α→Nat→Option α
 | [],_=>none
 | x :: _,0=>some x
 | _ :: l,n+1=>aAm l n
theorem tK {α:Type}:∀(l:List α) (n:Nat),aAm l n=l[n]?
 | [],_=>rfl
 | _ :: _,0=>rfl
 | _ :: l,n+1=>by rw [aAm,tK l n,List.getElem?_cons_succ]
def kS (P:Program) (t:TypeId):Option TypeInfo:=
 match aAm P.types.toList t with
 | some i=>some i
 | none=>P.info? t
theorem iD (P:Program) (t:TypeId):kS P t=P.info? t:=by
 unfold kS;rw [tK];cases h:P.types.toList[t]? with
 | none=>rfl
 | some i=>
  have hlt:t<P.types.size:=by
   grind
  simp_all [Tables.info?]
def dB (P:Program) (t:TypeId):Option TypeDesc:=
 match kS P t with
 | some { desc:=.named _ u,.. }=>(kS P u).map (·.desc)
 | some i=>some i.desc
 | none=>none
theorem jY (P:Program) (t:TypeId):dB P t=P.underlying t:=by
 grind [dB,Program.underlying,iD]
def xC (P:Program) (f:FuncId):Option Func:=aAm P.funcs.toList f
theorem jN (P:Program) (f:FuncId):xC P f=P.funcs[f]?:=by
 unfold xC;rw [tK,jk]
def bY (cl:Nat) (op:BinOp):SC→SC→SC
 | .lit a,.lit b=>match eL cl op a b with
  | some v=>.lit v
  | none=>.bin cl op (.lit a) (.lit b)
 | a,b=>.bin cl op a b
def gA:List SC→List SC→Option SC
 | [],[]=>some (.lit (.bool true))
 | a :: as,b :: bs=>if a.scalar && b.scalar then (gA as bs).map fun r=>.pick (bY 0 .eql a b) r (.lit (.bool false)) else none
 | _,_=>none
def tL:SC→SC
 | .lit a=>match aDc a with
  | some v=>.lit v
  | none=>.not (.lit a)
 | .not a=>.not (.not a)
 | a=>.not a
def aFm:SC→SC
 | .lit a=>match aNj a with
  | some v=>.lit v
  | none=>.neg (.lit a)
 | a=>.neg a
def xL (k:IntKind):SC→SC
 | .lit a=>match zQ k a with
  | some v=>.lit v
  | none=>.conv k (.lit a)
 | a=>.conv k a
def kU:SC→SC
 | .lit a=>match oA a with
  | some v=>.lit v
  | none=>.len (.lit a)
 | a=>.len a
def kT:SC→SC→SC
 | .lit a,.lit b=>match tJ a b with
  | some v=>.lit v
  | none=>.idx (.lit a) (.lit b)
 | a,b=>.idx a b
def aCs:SC→Bool
 | .lit (.int .u8 _)=>true
 | _=>false
def lW:SC→SC→SC
 | .lit a,.lit b=>match leD a b with
  | some v=>.lit v
  | none=>.le (.lit a) (.lit b)
 | a,b=>.le a b
def aTv:SC→SC
 | .lit a=>match nzD a with
  | some v=>.lit v
  | none=>.nz (.lit a)
 | a=>.nz a
def gM:SC→SC→SC→SC
 | .lit (.bool c),a,b=>if c then a else b
 | c,a,b=>.pick c a b
def vU (a lo hi:SC) (s:Nat):SC:=
 match a,lo,hi with
 | .sl b off n c,.lit (.int kl l),.lit (.int kh h)=>if 0≤l∧l≤h∧h≤c∧c≠l.toNat then .sl b (off+l.toNat*s) (h.toNat-l.toNat) (c-l.toNat) else .slc (.sl b off n c) (.lit (.int kl l)) (.lit (.int kh h)) s
 | a,lo,hi=>.slc a lo hi s
theorem aIh (ρ:Env) (a lo hi:SC) (s:Nat):(vU a lo hi s).den ρ=(SC.slc a lo hi s).den ρ:=by
 unfold vU <;> grind [SC.den,slcD,Addr.add]
theorem aP (ρ:Env) (cl:Nat) (op:BinOp) (a b:SC):(bY cl op a b).den ρ=(SC.bin cl op a b).den ρ:=by
 unfold bY <;> grind [SC.den]
theorem vS (ρ:Env) (a:SC):(tL a).den ρ=(SC.not a).den ρ:=by
 unfold tL <;> grind [SC.den]
theorem aIf (ρ:Env) (a:SC):(aFm a).den ρ=(SC.neg a).den ρ:=by
 unfold aFm <;> grind [SC.den]
theorem aCx (ρ:Env) (k:IntKind) (a:SC):(xL k a).den ρ=(SC.conv k a).den ρ:=by
 unfold xL <;> grind [SC.den]
theorem hH (ρ:Env) (a:SC):(kU a).den ρ=(SC.len a).den ρ:=by
 unfold kU <;> grind [SC.den]
theorem hC (ρ:Env) (a b:SC):(kT a b).den ρ=(SC.idx a b).den ρ:=by
 unfold kT <;> grind [SC.den]
theorem oD (ρ:Env) (a b:SC):(lW a b).den ρ=(SC.le a b).den ρ:=by
 unfold lW <;> grind [SC.den]
theorem aNc (ρ:Env) (a:SC):(aTv a).den ρ=(SC.nz a).den ρ:=by
 unfold aTv <;> grind [SC.den]
def aTc:SC→Nat→Option (SC×SC)
 | .seg x N,a=>some (.part x N (.lit (.int .i64 0)) 0 0 a,.part x N (.lit (.int .i64 0)) 0 a (N-a))
 | .part x N i s j m,a=>some (.part x N i s j a,.part x N i s (j+a) (m-a))
 | _,_=>none
def jX:Nat→List SC→Option (List SC×List SC)
 | 0,cs=>some ([],cs)
 | _+1,[]=>none
 | o+1,c :: cs=>
  if c.width=0 then none else
  if c.width≤o+1 then
   match jX (o+1-c.width) cs with
   | some (l,r)=>some (c :: l,r)
   | none=>none
  else match aTc c (o+1) with
   | some (c1,c2)=>some ([c1],c2 :: cs)
   | none=>none
def cutW (o m:Nat) (cs:List SC):Option (List SC):=
 match jX o cs with
 | some (_,r)=>match jX m r with
  | some (l,_)=>some l
  | none=>none
 | none=>none
def tP (o:Nat) (new cs:List SC):Option (List SC):=
 match jX o cs with
 | some (l,r)=>match jX (widths new) r with
  | some (_,r')=>some (l++new++r')
  | none=>none
 | none=>none
def SV.cells?:SV→Option (List SC)
 | .one c=>if c.scalar then some [c] else none
 | .agg cs=>some cs
 | _=>none
def sA:Value→SV
 | .agg cs=>if cs.all Value.scalar then .agg (cs.toList.map .lit) else .top
 | .tuple vs=>if vs.size=0 then .tup [] else .top
 | v=>.one (.lit v)
structure SB where
 ty:TypeId
 cells:List SC
 pub:Bool
 pv:Nat:=0
 deriving Inhabited
inductive Eff where
 | pure (v:SV) (needs:List SC)
 | load (v:SV) (b:Nat)
 | alloc (ty:TypeId) (cells:List SC) (sl:Option Nat)
 | store (b:Nat) (cells:List SC)
 | call (f:FuncId) (args:List SV)
 | getw (v:Nat) (i:SC) (s j:Nat) (t:TypeId)
 | read (a i:SC) (s j:Nat) (t:TypeId)
 | fail (why:String)
 deriving Inhabited
def opnd (tm:Tmp→SV):Operand→SV
 | .tmp t=>tm t
 | .const v=>sA v
 | .func f=>.one (.fn f [])
 | .global _=>.top
def dD (P:Program) (t:TypeId):Option Bool:=
 match dB P t with
 | some (.struct _)=>some true
 | some (.array _ _)=>some true
 | some _=>some false
 | none=>none
def bT (P:Program) (t:TypeId):Option Nat:=(kS P t).map (·.size)
def oI (P:Program) (t:TypeId) (cs:List SC) (off:Nat):Option SV:=
 match dD P t,bT P t with
 | some true,some m=>(cutW off m cs).map .agg
 | some false,some _=>match cutW off 1 cs with
  | some [c]=>if c.scalar then some (.one c) else none
  | _=>none
 | _,_=>none
def aAa (place:Nat→Option (Nat×Nat)) (cells:List SC):List (Nat×SV)→Option (List SC)
 | []=>some cells
 | (i,v) :: rest=>match place i,v.cells? with
  | some (off,size),some new=>
   if widths new=size then
    match tP off new cells with
    | some cells=>aAa place cells rest
    | none=>none
   else none
  | _,_=>none
def iF (v:Value):Option (List SC):=
 match v with
 | .agg cs=>if cs.toList.all Value.scalar then some (cs.toList.map .lit) else none
 | .tuple _=>none
 | v=>some [.lit v]
def kY (P:Program):List Field→Option (List (Nat×Nat))
 | []=>some []
 | f :: fs=>match bT P f.type,kY P fs with
  | some s,some l=>some ((f.offset,s) :: l)
  | _,_=>none
def xV (P:Program) (t:TypeId):Option (Nat→Option (Nat×Nat)):=
 match dB P t with
 | some (.struct fields)=>match kY P fields.toList with
  | some l=>some fun i=>l[i]?
  | none=>none
 | some (.array _ e)=>(bT P e).map fun s=>fun i=>some (i*s,s)
 | _=>none
def bBn (_P:Program) (_op:BinOp) (_t:TypeId) (_a _b:SC):Bool:=true
def aLm:List SV→Bool
 | []=>true
 | .top :: _=>false
 | _ :: l=>aLm l
def sL (tm:Tmp→SV) (hp:Nat→Option SB):List Operand→Option (List Nat)
 | []=>some []
 | x :: xs=>match opnd tm x with
  | .one (.ptr b 0)=>match hp b with
   | some blk=>if blk.pub then (sL tm hp xs).map (blk.pv :: ·) else none
   | none=>none
  | _=>none
def tX (sl:Option Nat) (b:Nat):SV:=match sl with
 | none=>.one (.ptr b 0)
 | some n=>.one (.sl b 0 n n)
def yE (sl:Option Nat) (m:Nat):Value:=match sl with
 | none=>.pointer (some ⟨m,0,none⟩)
 | some n=>.slice (some ⟨m,0,none⟩) n n
theorem tY {ρ:Env}{sl:Option Nat}{b m:Nat}(h:ρ.blk b=some m):(tX sl b).den ρ=some (yE sl m):=by
 cases sl <;> simp only [tX,yE,SV.den,SC.den,h]
def rY (P:Program) (t:TypeId) (name:String):Option FuncId:=
 match kS P t,dB P t with
 | some _,some (.pointer _)=>none
 | some i,some _=>match i.methods.find? (·.name == name) with
  | some m=>if m.path.size=0 then match m.func with
   | some (f,false)=>some f
   | _=>none
   else none
  | none=>none
 | _,_=>none
def lX (P:Program) (g:FuncId) (args:List SV):Eff:=
 match xC P g with
 | some fn => if fn.name != "runtime.NumGoroutine" && fn.body.isSome then .call g args else .fail ("call " ++ fn.name)
 | none => .fail "call"
def aMh (name:String) (a:SC):Option SC:=
 if name = "math.Float64bits" then some (bY 10 .add a (.lit (.int .u64 0)))
 else if name = "math.Float64frombits" then some (bY 11 .add a (.lit (.float .f64 0)))
 else if name = "math.Float32bits" then some (bY 10 .add a (.lit (.int .u32 0)))
 else if name = "math.Float32frombits" then some (bY 11 .add a (.lit (.float .f32 0)))
 else none
def aYa (P:Program) (g:FuncId) (caps:List Nat) (args:List SV):Option SC:=
 match xC P g,caps,args with
 | some fn, [], [.one a] => if fn.body.isNone && fn.origin == "" then aMh fn.name a else none
 | _,_,_=>none
def tS (P:Program) (t:TypeId) (cs:List SC) (off n s:Nat) (i:SC) (j:Nat):Option (List SC):=
 match cutW off (n*s) cs,dD P t,bT P t with
 | some [.seg x N],some true,some m=>if N=n*s∧j+m≤s then some [.part x N i s j m] else none
 | some [.part x N (.lit (.int _ z)) _ j0 m0],some true,some m=>if z=0∧m0=n*s∧j+m≤s then some [.part x N i s (j0+j) m] else none
 | _,_,_=>none
def aEx (P:Program) (t:TypeId) (cs:List SC) (n s:Nat) (i:SC):Option SC:=
 match cs,dB P t,dD P t with
 | [.seg x N],some (.slice _),some false=>if N=n*s∧0<s then some (.cel x i s .slice) else none
 | [.seg x N],some (.complex k),some false=>if N=n*s∧0<s then some (.cel x i s (.cpx k)) else none
 | [.seg x N],some (.int k),some false=>if N=n*s∧0<s then some (.cel x i s (.int k)) else none
 | _,_,_=>none
def sP (y:SC):List SC→SC
 | []=>y
 | z :: l=>.cat y (sP z l)
def aBw (cs:List SC) (off n s:Nat) (i:SC) (j m:Nat) (new:List SC):Option (List SC):=
 match cutW off (n*s) cs,new with
 | some [.seg x N],y :: ys=>if N=n*s∧j+m≤s∧(sP y ys).width=m then tP off [.upd x N i s j (sP y ys)] cs else none
 | _,_=>none
def bD (P:Program) (tm:Tmp→SV) (hp:Nat→Option SB) (o:Oper):Eff:=
 let ρ:=opnd tm
 match o.op with
 | .move x | .assign x=>.pure (ρ x) []
 | .pick c a b=>match ρ c,ρ a,ρ b with
  | .one c,.one a,.one b=>.pure (.one (gM c a b)) []
  | _, _, _ => .fail "pick"
 | .alloc elem=>match kS P elem with
  | some i=>match i.zero with
   | some z=>match iF z with
    | some cs=>.alloc elem cs none
    | none => .fail "alloc: zero"
   | none => .fail "alloc"
  | none => .fail "alloc"
 | .box elem x=>match (ρ x).cells? with
  | some cs=>.alloc elem cs none
  | none => .fail "box"
 | .build t parts=>match kS P t,xV P t with
  | some i,some place=>match i.zero with
   | some (.agg z)=>match iF (.agg z) with
    | some cs=>match aAa place cs (parts.toList.map fun p=>(p.1,ρ p.2)) with
     | some cs=>.pure (.agg cs) []
     | none => .fail "build"
    | none => .fail "build"
   | _ => .fail "build"
  | _, _ => .fail "build"
 | .load t a=>match ρ a with
  | .one (.ptr b off)=>match hp b with
   | some blk=>match oI P t blk.cells off with
    | some v=>.load v b
    | none => .fail "load: part"
   | none => .fail "load: no block"
  | .one (.elem (.sl b off n _) i s j)=>match hp b with
   | some blk=>match tS P t blk.cells off n s i j with
    | some cs=>.load (.agg cs) b
    | none=>match (cutW off (n*s) blk.cells).bind fun cs=>aEx P t cs n s i with
     | some c => if j = 0 then .load (.one c) b else .fail "load: part by index"
     | none => .fail "load: part by index"
   | none => .fail "load: no block"
  | .one (.elem (.slr v) i s j)=>.getw v i s j t
  | .one (.elem a i s j)=>.read a i s j t
  | _ => .fail "load: no pointer of ours"
 | .store t a x=>match ρ a,(ρ x).cells?,bT P t with
  | .one (.ptr b off),some new,some m=>match hp b with
   | some blk=>if widths new=m && !blk.pub then
    match tP off new blk.cells with
    | some cs=>.store b cs
    | none => .fail "store: part"
    else .fail "store: size"
   | none => .fail "store: no block"
  | .one (.elem (.sl b off n _) i s j),some new,some m=>match hp b with
   | some blk=>if widths new=m && !blk.pub then
    match aBw blk.cells off n s i j m new with
    | some cs=>.store b cs
    | none => .fail "store: part by index"
    else .fail "store: size"
   | none => .fail "store: no block"
  | _, _, _ => .fail "store"
 | .nilCheck x=>match ρ x with
  | .one (.ptr b off)=>.pure (.one (.ptr b off)) []
  | .one (.fn f caps)=>.pure (.one (.fn f caps)) []
  | _ => .fail "nilCheck"
 | .binOp op t x y _=>match ρ x,ρ y with
  | .one a,.one b=>
   match dB P t with
   | some (.int _)=>.pure (.one (bY 0 op a b)) (match op with
    | .quo | .rem=>[aTv b]
    | .shl | .shr=>[lW (.lit (.int .i64 0)) b]
    | _=>[])
   | some .bool=>.pure (.one (bY 1 op a b)) []
   | some .string=>.pure (.one (bY 2 op a b)) (match op with
    | .add=>[.fit a b]
    | _=>[])
   | some (.float _)=>.pure (.one (bY 3 op a b)) (match op with
    | .add | .sub | .mul | .quo=>[bY 4 op a b]
    | _=>[])
   | some (.complex _)=>.pure (.one (bY 17 op a b)) []
   | some (.slice _)=>.pure (.one (bY 18 op a b)) []
   | _ => .fail "binOp: type"
  | .agg as,.agg bs=>
   match dB P t with
   | some (.array n e)=>
    match dB P e,bT P e with
    | some (.int _),some 1=>if as.length=n then (match gA as bs,op with
     | some r,.eql=>.pure (.one r) []
     | some r,.neq=>.pure (.one (tL r)) []
     | _, _ => .fail "binOp: cells") else .fail "binOp: array"
    | _, _ => .fail "binOp: elements"
   | _ => .fail "binOp: aggregates"
  | _, _ => .fail "binOp"
 | .unOp op _ x=>match op,ρ x with
  | .not,.one a=>.pure (.one (tL a)) []
  | .neg,.one a=>.pure (.one (aFm a)) []
  | _, _ => .fail "unOp"
 | .convert src dst x=>match dB P src,dB P dst,ρ x with
  | some (.int _),some (.float k),.one a=>.pure (.one (bY 5 .add a (.lit (.float k 0)))) []
  | some (.float _),some (.float k),.one a=>.pure (.one (bY 6 .add a (.lit (.float k 0)))) [bY 7 .add a (.lit (.float k 0))]
  | some (.float _),some (.int k),.one a=>.pure (.one (bY 8 .add a (.lit (.int k 0)))) [bY 9 .add a (.lit (.int k 0))]
  | some _,some (.int k),.one a=>.pure (.one (xL k a)) []
  | some (.complex _),some (.complex k),.one a=>.pure (.one (bY 15 .add a (.lit (.complex k 0 0)))) [bY 16 .add a (.lit (.complex k 0 0))]
  | _, _, _ => .fail "convert"
 | .makeFunc fn first captured=>match fn,first.size with
  | .func f,0=>match sL tm hp captured.toList with
   | some ids=>.pure (.one (.fn f ids)) []
   | none => .fail "makeFunc"
  | _, _ => .fail "makeFunc"
 | .fieldAddr s x f=>match ρ x,dB P s with
  | .one (.ptr b off),some (.struct fields)=>match fields[f]? with
   | some fd=>match bT P fd.type with
    | some (_+1)=>.pure (.one (.ptr b (off+fd.offset))) []
    | _ => .fail "fieldAddr: size"
   | none => .fail "fieldAddr"
  | .one (.elem a i s j),some (.struct fields)=>match fields[f]? with
   | some fd=>match bT P fd.type with
    | some (_+1)=>.pure (.one (.elem a i s (j+fd.offset))) []
    | _ => .fail "fieldAddr: size"
   | none => .fail "fieldAddr"
  | _, _ => .fail "fieldAddr"
 | .field t x f=>match ρ x,dB P t with
  | .agg cs,some (.struct fields)=>match fields[f]? with
   | some fd=>match oI P fd.type cs fd.offset with
    | some v=>.pure v []
    | none => .fail "field"
   | none => .fail "field"
  | _, _ => .fail "field"
 | .makeInterface t x=>match ρ x,dB P t with
  | _, some (.interface _) => .fail "makeInterface"
  | .one c,some _=>.pure (.ifc t false [c]) []
  | .agg cs,some _=>.pure (.ifc t true cs) []
  | _, _ => .fail "makeInterface"
 | .buildSlice t len parts=>match dB P t with
  | some (.slice e)=>match kS P e,bT P e with
   | some i,some size=>match i.zero with
    | some z=>match iF z with
     | some zc=>
      if len*size≤16777216∧len*size≠0∧zc.length≠0 then
       match aAa (fun i=>some (i*size,size)) ((List.range (len*size)).map fun i=>(zc[i % zc.length]?).getD (.lit (.bool false))) (parts.toList.map fun p=>(p.1,ρ p.2)) with
       | some cs=>.alloc e cs (some len)
       | none => .fail "buildSlice"
      else .fail "buildSlice: size"
     | none => .fail "buildSlice"
    | none => .fail "buildSlice"
   | _, _ => .fail "buildSlice"
  | _ => .fail "buildSlice"
 | .indexAddr t x ix=>match ρ x,ρ ix,dB P t with
  | .one (.sl b off len _),.one (.lit (.int _ i)),some (.slice e)=>match bT P e with
   | some s => if 0 ≤ i ∧ i < len then .pure (.one (.ptr b (off + i.toNat * s))) [] else .fail "indexAddr: range"
   | none => .fail "indexAddr"
  | .one (.ptr b off),.one (.lit (.int _ i)),some (.array n e)=>match bT P e with
   | some s => if 0 ≤ i ∧ i < n then .pure (.one (.ptr b (off + i.toNat * s))) [] else .fail "indexAddr: range"
   | none => .fail "indexAddr"
  | .one (.ptr b off),.one i,some (.array n e)=>match bT P e with
   | some s=>.pure (.one (.elem (.sl b off n n) i s 0)) [kT i (.lit (.int .i64 n))]
   | none => .fail "indexAddr"
  | .one (.sl b off len c),.one i,some (.slice e)=>match bT P e with
   | some s=>.pure (.one (.elem (.sl b off len c) i s 0)) [kT i (.lit (.int .i64 len))]
   | none => .fail "indexAddr"
  | .one (.slc (.sl b off len c) (.lit (.int .u8 z)) h _),.one i,some (.slice e)=>match bT P e with
   | some s => if z = 0 then .pure (.one (.elem (.sl b off len c) i s 0)) [kT i h, lW h (.lit (.int .i64 len))] else .fail "indexAddr: part"
   | none => .fail "indexAddr"
  | .one a,.one i,some (.slice e)=>match bT P e with
   | some s=>.pure (.one (.elem a i s 0)) []
   | none => .fail "indexAddr"
  | .one (.elem a i s j),.one (.lit (.int _ z)),some (.array n e)=>match bT P e with
   | some s' => if 0 ≤ z ∧ z < n then .pure (.one (.elem a i s (j + z.toNat * s'))) [] else .fail "indexAddr: range"
   | none => .fail "indexAddr"
  | _, _, _ => .fail "indexAddr"
 | .index t x ix=>match ρ x,ρ ix,dB P t with
  | .agg cs,.one (.lit (.int _ i)),some (.array n e)=>match bT P e with
   | some s=>if 0≤i∧i<n then
    match oI P e cs (i.toNat*s) with
    | some v=>.pure v []
    | none => .fail "index: part"
    else .fail "index: range"
   | none => .fail "index"
  | .one s,.one i,some .string=>.pure (.one (.byte s i)) [kT i (kU s)]
  | .agg cs,.one i,some (.array n e)=>match bT P e with
   | some s=>match tS P e cs 0 n s i 0 with
    | some cs=>.pure (.agg cs) [kT i (.lit (.int .i64 n))]
    | none=>match aEx P e cs n s i with
     | some c=>.pure (.one c) [kT i (.lit (.int .i64 n))]
     | none => .fail "index: part by index"
   | none => .fail "index"
  | _, _, _ => .fail "index"
 | .slice t x lo hi mx=>match ρ x,dB P t,mx with
  | .one s,some .string,none=>
   let l:=match lo with
    | some l=>ρ l
    | none=>.one (.lit (.int .i64 0))
   let h:=match hi with
    | some h=>ρ h
    | none=>.one (kU s)
   match l,h with
   | .one l,.one h=>.pure (.one (.sub s l h)) [lW (.lit (.int .i64 0)) l,lW l h,lW h (kU s)]
   | _, _ => .fail "slice"
  | .one (.ptr b off),some (.array n e),none=>match lo,hi,bT P e with
   | some l,none,some s=>match ρ l with
    | .one (.lit (.int _ i)) => if 0 ≤ i ∧ i < n then .pure (.one (.sl b (off + i.toNat * s) (n - i.toNat) (n - i.toNat))) [] else .fail "slice: range"
    | _ => .fail "slice"
   | none,some h,some s=>match ρ h with
    | .one h=>.pure (.one (.slc (.sl b off n n) (.lit (.int .u8 0)) h s)) [lW (.lit (.int .i64 0)) h,lW h (.lit (.int .i64 n))]
    | _ => .fail "slice"
   | _, _, _ => .fail "slice"
  | .one a,some (.slice e),none=>
   let l:=match lo with
    | some l=>ρ l
    | none=>.one (.lit (.int .i64 0))
   let h:=match hi with
    | some h=>ρ h
    | none=>.one (kU a)
   match l,h,bT P e with
   | .one l, .one h, some s => if aCs l = true then .fail "slice" else .pure (.one (vU a l h s)) []
   | _, _, _ => .fail "slice"
  | _, _, _ => .fail "slice"
 | .extract x i=>match ρ x with
  | .tup vs=>match vs[i]? with
   | some (true,cs)=>.pure (.agg cs) []
   | some (false,[c])=>.pure (.one c) []
   | _ => .fail "extract"
  | _ => .fail "extract"
 | .call c=>match c.callee with
  | .builtin .len=>match c.args.toList,c.argTypes.toList with
   | [x],[t]=>match ρ x,dB P t with
    | .one (.sl _ _ n _),some (.slice _)=>.pure (.one (.lit (.int .i64 n))) []
    | .one (.slc (.sl _ _ _ _) (.lit (.int .u8 z)) h _), some (.slice _) => if z = 0 then .pure (.one h) [bY 0 .leq (.lit (.int .i64 0)) h] else .fail "len: part"
    | .one a,some .string=>.pure (.one (kU a)) [.isSl true a]
    | .one a,some (.slice _)=>.pure (.one (kU a)) [.isSl false a]
    | _, _ => .fail "len"
   | _, _ => .fail "len"
  | .builtin .max=>match c.args.toList with
   | [x,y]=>match ρ x,ρ y with
    | .one a,.one b=>.pure (.one (gM (bY 0 .lss a b) b a)) []
    | _, _ => .fail "max"
   | _ => .fail "max"
  | .builtin .min=>match c.args.toList with
   | [x,y]=>match ρ x,ρ y with
    | .one a,.one b=>.pure (.one (gM (bY 0 .lss b a) b a)) []
    | _, _ => .fail "min"
   | _ => .fail "min"
  | .builtin .complex=>match c.args.toList with
   | [x,y]=>match ρ x,ρ y with
    | .one a,.one b=>.pure (.one (bY 12 .add a b)) []
    | _, _ => .fail "complex"
   | _ => .fail "complex"
  | .builtin .real=>match c.args.toList with
   | [x]=>match ρ x with
    | .one a=>.pure (.one (bY 13 .add a (.lit (.bool false)))) []
    | _ => .fail "real"
   | _ => .fail "real"
  | .builtin .imag=>match c.args.toList with
   | [x]=>match ρ x with
    | .one a=>.pure (.one (bY 14 .add a (.lit (.bool false)))) []
    | _ => .fail "imag"
   | _ => .fail "imag"
  | .invoke r name=>match ρ r with
   | .ifc t ag cs=>match rY P t name,ag,cs with
    | some g,true,cs=>lX P g (.agg cs :: c.args.toList.map ρ)
    | some g,false,[c']=>lX P g (.one c' :: c.args.toList.map ρ)
    | _, _, _ => .fail "invoke"
   | _ => .fail "invoke"
  | .value f=>match ρ f with
   | .one (.fn g caps)=>
    let args:=(c.args.toList.map ρ)++caps.map fun i=>.one (.var i)
    match aYa P g caps (c.args.toList.map ρ) with
    | some c=>.pure (.one c) []
    | none=>lX P g args
   | _ => .fail "call: value"
  | _ => .fail "call: builtin"
 | _ => .fail "op"
