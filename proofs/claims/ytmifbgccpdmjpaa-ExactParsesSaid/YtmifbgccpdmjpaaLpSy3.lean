/- A symbolic executor of the model's code: the executor. -/
import Derived.Test.YtmifbgccpdmjpaaLpSy2
namespace Go.Proofs.Ytmifbgccpdmjpaa.Sy
open Go.RowKit
def wI {α:Type}:List α→Nat→Option α
 | [],_=>none
 | x :: _,0=>some x
 | _ :: l,n+1=>wI l n
theorem qM {α:Type}:∀(l:List α) (n:Nat),wI l n=l[n]?
 | [],_=>rfl
 | _ :: _,0=>rfl
 | _ :: l,n+1=>by rw [wI,qM l n,kf]
def jH (P:Program) (t:TypeId):Option TypeInfo:=
 match wI P.types.toList t with
 | some i=>some i
 | none=>P.info? t
theorem gD (P:Program) (t:TypeId):jH P t=P.info? t:=by
 unfold jH;rw [qM];cases h:P.types.toList[t]? with
 | none=>rfl
 | some i=>
  have h':P.types[t]?=some i:=by rw [←zy];exact h
  have hlt:t<P.types.size:=by
   rcases zd t P.types.size with h1|h1
   ·exact h1
   ·rw [jf h1]at h';cases h'
  simp only [Tables.info?,og hlt,h']
def cQ (P:Program) (t:TypeId):Option TypeDesc:=
 match jH P t with
 | some { desc:=.named _ u,.. }=>(jH P u).map (·.desc)
 | some i=>some i.desc
 | none=>none
theorem iT (P:Program) (t:TypeId):cQ P t=P.underlying t:=by
 unfold cQ Program.underlying;simp only [gD];cases P.info? t with
 | none=>rfl
 | some i=>cases i with
  | mk desc _ _ _ _ _ _ _ _ _=>cases desc <;> rfl
def wC (P:Program) (f:FuncId):Option Func:=wI P.funcs.toList f
theorem mD (P:Program) (f:FuncId):wC P f=P.funcs[f]?:=by
 unfold wC;rw [qM,zy]
def bS (cl:Nat) (op:BinOp):SC→SC→SC
 | .lit a,.lit b=>match dQ cl op a b with
  | some v=>.lit v
  | none=>.bin cl op (.lit a) (.lit b)
 | a,b=>.bin cl op a b
def dS:List SC→List SC→Option SC
 | [],[]=>some (.lit (.bool true))
 | a :: as,b :: bs=>if a.scalar && b.scalar then (dS as bs).map fun r=>.pick (bS 0 .eql a b) r (.lit (.bool false)) else none
 | _,_=>none
def qO:SC→SC
 | .lit a=>match wO a with
  | some v=>.lit v
  | none=>.not (.lit a)
 | .not a=>.not (.not a)
 | a=>.not a
def aAr:SC→SC
 | .lit a=>match aCo a with
  | some v=>.lit v
  | none=>.neg (.lit a)
 | a=>.neg a
def uL (k:IntKind):SC→SC
 | .lit a=>match sL k a with
  | some v=>.lit v
  | none=>.conv k (.lit a)
 | a=>.conv k a
def jK:SC→SC
 | .lit a=>match lB a with
  | some v=>.lit v
  | none=>.len (.lit a)
 | a=>.len a
def jJ:SC→SC→SC
 | .lit a,.lit b=>match pE a b with
  | some v=>.lit v
  | none=>.idx (.lit a) (.lit b)
 | a,b=>.idx a b
def yF:SC→Bool
 | .lit (.int .u8 _)=>true
 | _=>false
def kM:SC→SC→SC
 | .lit a,.lit b=>match leD a b with
  | some v=>.lit v
  | none=>.le (.lit a) (.lit b)
 | a,b=>.le a b
def aJy:SC→SC
 | .lit a=>match nzD a with
  | some v=>.lit v
  | none=>.nz (.lit a)
 | a=>.nz a
def fK:SC→SC→SC→SC
 | .lit (.bool c),a,b=>if c then a else b
 | c,a,b=>.pick c a b
def tC (a lo hi:SC) (s:Nat):SC:=
 match a,lo,hi with
 | .sl b off n c,.lit (.int kl l),.lit (.int kh h)=>if 0≤l∧l≤h∧h≤c∧c≠l.toNat then .sl b (off+l.toNat*s) (h.toNat-l.toNat) (c-l.toNat) else .slc (.sl b off n c) (.lit (.int kl l)) (.lit (.int kh h)) s
 | a,lo,hi=>.slc a lo hi s
theorem aCl (ρ:Env) (a lo hi:SC) (s:Nat):(tC a lo hi s).den ρ=(SC.slc a lo hi s).den ρ:=by
 unfold tC;split
 ·rename_i b off n c kl l kh h;split
  ·rename_i hc;cases hb:ρ.blk b with
   | none=>simp [SC.den,hb]
   | some m=>simp [SC.den,hb,slcD,hc,Addr.add]
  ·rfl
 ·rfl
theorem aN (ρ:Env) (cl:Nat) (op:BinOp) (a b:SC):(bS cl op a b).den ρ=(SC.bin cl op a b).den ρ:=by
 unfold bS;split
 ·rename_i x y;cases h:dQ cl op x y <;> simp [SC.den,h]
 ·rfl
theorem tA (ρ:Env) (a:SC):(qO a).den ρ=(SC.not a).den ρ:=by
 unfold qO;split
 ·rename_i x;cases h:wO x <;> simp [SC.den,h]
 ·rfl
 ·rfl
theorem aCk (ρ:Env) (a:SC):(aAr a).den ρ=(SC.neg a).den ρ:=by
 unfold aAr;split
 ·rename_i x;cases h:aCo x <;> simp [SC.den,h]
 ·rfl
theorem yJ (ρ:Env) (k:IntKind) (a:SC):(uL k a).den ρ=(SC.conv k a).den ρ:=by
 unfold uL;split
 ·rename_i x;cases h:sL k x <;> simp [SC.den,h]
 ·rfl
theorem fW (ρ:Env) (a:SC):(jK a).den ρ=(SC.len a).den ρ:=by
 unfold jK;split
 ·rename_i x;cases h:lB x <;> simp [SC.den,h]
 ·rfl
theorem fV (ρ:Env) (a b:SC):(jJ a b).den ρ=(SC.idx a b).den ρ:=by
 unfold jJ;split
 ·rename_i x y;cases h:pE x y <;> simp [SC.den,h]
 ·rfl
theorem mI (ρ:Env) (a b:SC):(kM a b).den ρ=(SC.le a b).den ρ:=by
 unfold kM;split
 ·rename_i x y;cases h:leD x y <;> simp [SC.den,h]
 ·rfl
theorem aFy (ρ:Env) (a:SC):(aJy a).den ρ=(SC.nz a).den ρ:=by
 unfold aJy;split
 ·rename_i x;cases h:nzD x <;> simp [SC.den,h]
 ·rfl
def aJf:SC→Nat→Option (SC×SC)
 | .seg x N,a=>some (.part x N (.lit (.int .i64 0)) 0 0 a,.part x N (.lit (.int .i64 0)) 0 a (N-a))
 | .part x N i s j m,a=>some (.part x N i s j a,.part x N i s (j+a) (m-a))
 | _,_=>none
def iS:Nat→List SC→Option (List SC×List SC)
 | 0,cs=>some ([],cs)
 | _+1,[]=>none
 | o+1,c :: cs=>
  if c.width=0 then none else
  if c.width≤o+1 then
   match iS (o+1-c.width) cs with
   | some (l,r)=>some (c :: l,r)
   | none=>none
  else match aJf c (o+1) with
   | some (c1,c2)=>some ([c1],c2 :: cs)
   | none=>none
def rY (o m:Nat) (cs:List SC):Option (List SC):=
 match iS o cs with
 | some (_,r)=>match iS m r with
  | some (l,_)=>some l
  | none=>none
 | none=>none
def qW (o:Nat) (new cs:List SC):Option (List SC):=
 match iS o cs with
 | some (l,r)=>match iS (widths new) r with
  | some (_,r')=>some (l++new++r')
  | none=>none
 | none=>none
def SV.cells?:SV→Option (List SC)
 | .one c=>if c.scalar then some [c] else none
 | .agg cs=>some cs
 | _=>none
def pO:Value→SV
 | .agg cs=>if cs.all Value.scalar then .agg (cs.toList.map .lit) else .top
 | .tuple vs=>if vs.size=0 then .tup [] else .top
 | v=>.one (.lit v)
structure SB where
 ty:TypeId
 cells:List SC
 pub:Bool
 pv:Nat:=0
 deriving Inhabited
inductive Eff where
 | pure (v:SV) (needs:List SC)
 | load (v:SV) (b:Nat)
 | alloc (ty:TypeId) (cells:List SC) (sl:Option Nat)
 | store (b:Nat) (cells:List SC)
 | call (f:FuncId) (args:List SV)
 | getw (v:Nat) (i:SC) (s j:Nat) (t:TypeId)
 | read (a i:SC) (s j:Nat) (t:TypeId)
 | fail (why:String)
 deriving Inhabited
def opnd (tm:Tmp→SV):Operand→SV
 | .tmp t=>tm t
 | .const v=>pO v
 | .func f=>.one (.fn f [])
 | .global _=>.top
def cZ (P:Program) (t:TypeId):Option Bool:=
 match cQ P t with
 | some (.struct _)=>some true
 | some (.array _ _)=>some true
 | some _=>some false
 | none=>none
def bN (P:Program) (t:TypeId):Option Nat:=(jH P t).map (·.size)
def mM (P:Program) (t:TypeId) (cs:List SC) (off:Nat):Option SV:=
 match cZ P t,bN P t with
 | some true,some m=>(rY off m cs).map .agg
 | some false,some _=>match rY off 1 cs with
  | some [c]=>if c.scalar then some (.one c) else none
  | _=>none
 | _,_=>none
def sR (place:Nat→Option (Nat×Nat)) (cells:List SC):List (Nat×SV)→Option (List SC)
 | []=>some cells
 | (i,v) :: rest=>match place i,v.cells? with
  | some (off,size),some new=>
   if widths new=size then
    match qW off new cells with
    | some cells=>sR place cells rest
    | none=>none
   else none
  | _,_=>none
def gE (v:Value):Option (List SC):=
 match v with
 | .agg cs=>if cs.toList.all Value.scalar then some (cs.toList.map .lit) else none
 | .tuple _=>none
 | v=>some [.lit v]
def jN (P:Program):List Field→Option (List (Nat×Nat))
 | []=>some []
 | f :: fs=>match bN P f.type,jN P fs with
  | some s,some l=>some ((f.offset,s) :: l)
  | _,_=>none
def uQ (P:Program) (t:TypeId):Option (Nat→Option (Nat×Nat)):=
 match cQ P t with
 | some (.struct fields)=>match jN P fields.toList with
  | some l=>some fun i=>l[i]?
  | none=>none
 | some (.array _ e)=>(bN P e).map fun s=>fun i=>some (i*s,s)
 | _=>none
def aPr (_P:Program) (_op:BinOp) (_t:TypeId) (_a _b:SC):Bool:=true
def aEm:List SV→Bool
 | []=>true
 | .top :: _=>false
 | _ :: l=>aEm l
def nG (tm:Tmp→SV) (hp:Nat→Option SB):List Operand→Option (List Nat)
 | []=>some []
 | x :: xs=>match opnd tm x with
  | .one (.ptr b 0)=>match hp b with
   | some blk=>if blk.pub then (nG tm hp xs).map (blk.pv :: ·) else none
   | none=>none
  | _=>none
def rG (sl:Option Nat) (b:Nat):SV:=match sl with
 | none=>.one (.ptr b 0)
 | some n=>.one (.sl b 0 n n)
def sB (sl:Option Nat) (m:Nat):Value:=match sl with
 | none=>.pointer (some ⟨m,0,none⟩)
 | some n=>.slice (some ⟨m,0,none⟩) n n
theorem rH {ρ:Env}{sl:Option Nat}{b m:Nat}(h:ρ.blk b=some m):(rG sl b).den ρ=some (sB sl m):=by
 cases sl <;> simp only [rG,sB,SV.den,SC.den,h]
def pM (P:Program) (t:TypeId) (name:String):Option FuncId:=
 match jH P t,cQ P t with
 | some _,some (.pointer _)=>none
 | some i,some _=>match i.methods.find? (·.name == name) with
  | some m=>if m.path.size=0 then match m.func with
   | some (f,false)=>some f
   | _=>none
   else none
  | none=>none
 | _,_=>none
def kN (P:Program) (g:FuncId) (args:List SV):Eff:=
 match wC P g with
 | some fn => if fn.name != "runtime.NumGoroutine" && fn.body.isSome then .call g args else .fail ("call " ++ fn.name)
 | none => .fail "call"
def aFg (name:String) (a:SC):Option SC:=
 if name = "math.Float64bits" then some (bS 10 .add a (.lit (.int .u64 0)))
 else if name = "math.Float64frombits" then some (bS 11 .add a (.lit (.float .f64 0)))
 else if name = "math.Float32bits" then some (bS 10 .add a (.lit (.int .u32 0)))
 else if name = "math.Float32frombits" then some (bS 11 .add a (.lit (.float .f32 0)))
 else none
def aMx (P:Program) (g:FuncId) (caps:List Nat) (args:List SV):Option SC:=
 match wC P g,caps,args with
 | some fn, [], [.one a] => if fn.body.isNone && fn.origin == "" then aFg fn.name a else none
 | _,_,_=>none
def rA (P:Program) (t:TypeId) (cs:List SC) (off n s:Nat) (i:SC) (j:Nat):Option (List SC):=
 match rY off (n*s) cs,cZ P t,bN P t with
 | some [.seg x N],some true,some m=>if N=n*s∧j+m≤s then some [.part x N i s j m] else none
 | some [.part x N (.lit (.int _ z)) _ j0 m0],some true,some m=>if z=0∧m0=n*s∧j+m≤s then some [.part x N i s (j0+j) m] else none
 | _,_,_=>none
def aAd (P:Program) (t:TypeId) (cs:List SC) (n s:Nat) (i:SC):Option SC:=
 match cs,cQ P t,cZ P t with
 | [.seg x N],some (.slice _),some false=>if N=n*s∧0<s then some (.cel x i s .slice) else none
 | [.seg x N],some (.complex k),some false=>if N=n*s∧0<s then some (.cel x i s (.cpx k)) else none
 | [.seg x N],some (.int k),some false=>if N=n*s∧0<s then some (.cel x i s (.int k)) else none
 | _,_,_=>none
def pC (y:SC):List SC→SC
 | []=>y
 | z :: l=>.cat y (pC z l)
def xK (cs:List SC) (off n s:Nat) (i:SC) (j m:Nat) (new:List SC):Option (List SC):=
 match rY off (n*s) cs,new with
 | some [.seg x N],y :: ys=>if N=n*s∧j+m≤s∧(pC y ys).width=m then qW off [.upd x N i s j (pC y ys)] cs else none
 | _,_=>none
def aY (P:Program) (tm:Tmp→SV) (hp:Nat→Option SB) (o:Oper):Eff:=
 let ρ:=opnd tm
 match o.op with
 | .move x | .assign x=>.pure (ρ x) []
 | .pick c a b=>match ρ c,ρ a,ρ b with
  | .one c,.one a,.one b=>.pure (.one (fK c a b)) []
  | _, _, _ => .fail "pick"
 | .alloc elem=>match jH P elem with
  | some i=>match i.zero with
   | some z=>match gE z with
    | some cs=>.alloc elem cs none
    | none => .fail "alloc: zero"
   | none => .fail "alloc"
  | none => .fail "alloc"
 | .box elem x=>match (ρ x).cells? with
  | some cs=>.alloc elem cs none
  | none => .fail "box"
 | .build t parts=>match jH P t,uQ P t with
  | some i,some place=>match i.zero with
   | some (.agg z)=>match gE (.agg z) with
    | some cs=>match sR place cs (parts.toList.map fun p=>(p.1,ρ p.2)) with
     | some cs=>.pure (.agg cs) []
     | none => .fail "build"
    | none => .fail "build"
   | _ => .fail "build"
  | _, _ => .fail "build"
 | .load t a=>match ρ a with
  | .one (.ptr b off)=>match hp b with
   | some blk=>match mM P t blk.cells off with
    | some v=>.load v b
    | none => .fail "load: part"
   | none => .fail "load: no block"
  | .one (.elem (.sl b off n _) i s j)=>match hp b with
   | some blk=>match rA P t blk.cells off n s i j with
    | some cs=>.load (.agg cs) b
    | none=>match (rY off (n*s) blk.cells).bind fun cs=>aAd P t cs n s i with
     | some c => if j = 0 then .load (.one c) b else .fail "load: part by index"
     | none => .fail "load: part by index"
   | none => .fail "load: no block"
  | .one (.elem (.slr v) i s j)=>.getw v i s j t
  | .one (.elem a i s j)=>.read a i s j t
  | _ => .fail "load: no pointer of ours"
 | .store t a x=>match ρ a,(ρ x).cells?,bN P t with
  | .one (.ptr b off),some new,some m=>match hp b with
   | some blk=>if widths new=m && !blk.pub then
    match qW off new blk.cells with
    | some cs=>.store b cs
    | none => .fail "store: part"
    else .fail "store: size"
   | none => .fail "store: no block"
  | .one (.elem (.sl b off n _) i s j),some new,some m=>match hp b with
   | some blk=>if widths new=m && !blk.pub then
    match xK blk.cells off n s i j m new with
    | some cs=>.store b cs
    | none => .fail "store: part by index"
    else .fail "store: size"
   | none => .fail "store: no block"
  | _, _, _ => .fail "store"
 | .nilCheck x=>match ρ x with
  | .one (.ptr b off)=>.pure (.one (.ptr b off)) []
  | .one (.fn f caps)=>.pure (.one (.fn f caps)) []
  | _ => .fail "nilCheck"
 | .binOp op t x y _=>match ρ x,ρ y with
  | .one a,.one b=>
   match cQ P t with
   | some (.int _)=>.pure (.one (bS 0 op a b)) (match op with
    | .quo | .rem=>[aJy b]
    | .shl | .shr=>[kM (.lit (.int .i64 0)) b]
    | _=>[])
   | some .bool=>.pure (.one (bS 1 op a b)) []
   | some .string=>.pure (.one (bS 2 op a b)) (match op with
    | .add=>[.fit a b]
    | _=>[])
   | some (.float _)=>.pure (.one (bS 3 op a b)) (match op with
    | .add | .sub | .mul | .quo=>[bS 4 op a b]
    | _=>[])
   | some (.complex _)=>.pure (.one (bS 17 op a b)) []
   | _ => .fail "binOp: type"
  | .agg as,.agg bs=>
   match cQ P t with
   | some (.array n e)=>
    match cQ P e,bN P e with
    | some (.int _),some 1=>if as.length=n then (match dS as bs,op with
     | some r,.eql=>.pure (.one r) []
     | some r,.neq=>.pure (.one (qO r)) []
     | _, _ => .fail "binOp: cells") else .fail "binOp: array"
    | _, _ => .fail "binOp: elements"
   | _ => .fail "binOp: aggregates"
  | _, _ => .fail "binOp"
 | .unOp op _ x=>match op,ρ x with
  | .not,.one a=>.pure (.one (qO a)) []
  | .neg,.one a=>.pure (.one (aAr a)) []
  | _, _ => .fail "unOp"
 | .convert src dst x=>match cQ P src,cQ P dst,ρ x with
  | some (.int _),some (.float k),.one a=>.pure (.one (bS 5 .add a (.lit (.float k 0)))) []
  | some (.float _),some (.float k),.one a=>.pure (.one (bS 6 .add a (.lit (.float k 0)))) [bS 7 .add a (.lit (.float k 0))]
  | some (.float _),some (.int k),.one a=>.pure (.one (bS 8 .add a (.lit (.int k 0)))) [bS 9 .add a (.lit (.int k 0))]
  | some _,some (.int k),.one a=>.pure (.one (uL k a)) []
  | some (.complex _),some (.complex k),.one a=>.pure (.one (bS 15 .add a (.lit (.complex k 0 0)))) [bS 16 .add a (.lit (.complex k 0 0))]
  | _, _, _ => .fail "convert"
 | .makeFunc fn first captured=>match fn,first.size with
  | .func f,0=>match nG tm hp captured.toList with
   | some ids=>.pure (.one (.fn f ids)) []
   | none => .fail "makeFunc"
  | _, _ => .fail "makeFunc"
 | .fieldAddr s x f=>match ρ x,cQ P s with
  | .one (.ptr b off),some (.struct fields)=>match fields[f]? with
   | some fd=>match bN P fd.type with
    | some (_+1)=>.pure (.one (.ptr b (off+fd.offset))) []
    | _ => .fail "fieldAddr: size"
   | none => .fail "fieldAddr"
  | .one (.elem a i s j),some (.struct fields)=>match fields[f]? with
   | some fd=>match bN P fd.type with
    | some (_+1)=>.pure (.one (.elem a i s (j+fd.offset))) []
    | _ => .fail "fieldAddr: size"
   | none => .fail "fieldAddr"
  | _, _ => .fail "fieldAddr"
 | .field t x f=>match ρ x,cQ P t with
  | .agg cs,some (.struct fields)=>match fields[f]? with
   | some fd=>match mM P fd.type cs fd.offset with
    | some v=>.pure v []
    | none => .fail "field"
   | none => .fail "field"
  | _, _ => .fail "field"
 | .makeInterface t x=>match ρ x,cQ P t with
  | _, some (.interface _) => .fail "makeInterface"
  | .one c,some _=>.pure (.ifc t false [c]) []
  | .agg cs,some _=>.pure (.ifc t true cs) []
  | _, _ => .fail "makeInterface"
 | .buildSlice t len parts=>match cQ P t with
  | some (.slice e)=>match jH P e,bN P e with
   | some i,some size=>match i.zero with
    | some z=>match gE z with
     | some zc=>
      if len*size≤16777216∧len*size≠0∧zc.length≠0 then
       match sR (fun i=>some (i*size,size)) ((List.range (len*size)).map fun i=>(zc[i % zc.length]?).getD (.lit (.bool false))) (parts.toList.map fun p=>(p.1,ρ p.2)) with
       | some cs=>.alloc e cs (some len)
       | none => .fail "buildSlice"
      else .fail "buildSlice: size"
     | none => .fail "buildSlice"
    | none => .fail "buildSlice"
   | _, _ => .fail "buildSlice"
  | _ => .fail "buildSlice"
 | .indexAddr t x ix=>match ρ x,ρ ix,cQ P t with
  | .one (.sl b off len _),.one (.lit (.int _ i)),some (.slice e)=>match bN P e with
   | some s => if 0 ≤ i ∧ i < len then .pure (.one (.ptr b (off + i.toNat * s))) [] else .fail "indexAddr: range"
   | none => .fail "indexAddr"
  | .one (.ptr b off),.one (.lit (.int _ i)),some (.array n e)=>match bN P e with
   | some s => if 0 ≤ i ∧ i < n then .pure (.one (.ptr b (off + i.toNat * s))) [] else .fail "indexAddr: range"
   | none => .fail "indexAddr"
  | .one (.ptr b off),.one i,some (.array n e)=>match bN P e with
   | some s=>.pure (.one (.elem (.sl b off n n) i s 0)) [jJ i (.lit (.int .i64 n))]
   | none => .fail "indexAddr"
  | .one (.sl b off len c),.one i,some (.slice e)=>match bN P e with
   | some s=>.pure (.one (.elem (.sl b off len c) i s 0)) [jJ i (.lit (.int .i64 len))]
   | none => .fail "indexAddr"
  | .one (.slc (.sl b off len c) (.lit (.int .u8 z)) h _),.one i,some (.slice e)=>match bN P e with
   | some s => if z = 0 then .pure (.one (.elem (.sl b off len c) i s 0)) [jJ i h, kM h (.lit (.int .i64 len))] else .fail "indexAddr: part"
   | none => .fail "indexAddr"
  | .one a,.one i,some (.slice e)=>match bN P e with
   | some s=>.pure (.one (.elem a i s 0)) []
   | none => .fail "indexAddr"
  | .one (.elem a i s j),.one (.lit (.int _ z)),some (.array n e)=>match bN P e with
   | some s' => if 0 ≤ z ∧ z < n then .pure (.one (.elem a i s (j + z.toNat * s'))) [] else .fail "indexAddr: range"
   | none => .fail "indexAddr"
  | _, _, _ => .fail "indexAddr"
 | .index t x ix=>match ρ x,ρ ix,cQ P t with
  | .agg cs,.one (.lit (.int _ i)),some (.array n e)=>match bN P e with
   | some s=>if 0≤i∧i<n then
    match mM P e cs (i.toNat*s) with
    | some v=>.pure v []
    | none => .fail "index: part"
    else .fail "index: range"
   | none => .fail "index"
  | .one s,.one i,some .string=>.pure (.one (.byte s i)) [jJ i (jK s)]
  | .agg cs,.one i,some (.array n e)=>match bN P e with
   | some s=>match rA P e cs 0 n s i 0 with
    | some cs=>.pure (.agg cs) [jJ i (.lit (.int .i64 n))]
    | none=>match aAd P e cs n s i with
     | some c=>.pure (.one c) [jJ i (.lit (.int .i64 n))]
     | none => .fail "index: part by index"
   | none => .fail "index"
  | _, _, _ => .fail "index"
 | .slice t x lo hi mx=>match ρ x,cQ P t,mx with
  | .one s,some .string,none=>
   let l:=match lo with
    | some l=>ρ l
    | none=>.one (.lit (.int .i64 0))
   let h:=match hi with
    | some h=>ρ h
    | none=>.one (jK s)
   match l,h with
   | .one l,.one h=>.pure (.one (.sub s l h)) [kM (.lit (.int .i64 0)) l,kM l h,kM h (jK s)]
   | _, _ => .fail "slice"
  | .one (.ptr b off),some (.array n e),none=>match lo,hi,bN P e with
   | some l,none,some s=>match ρ l with
    | .one (.lit (.int _ i)) => if 0 ≤ i ∧ i < n then .pure (.one (.sl b (off + i.toNat * s) (n - i.toNat) (n - i.toNat))) [] else .fail "slice: range"
    | _ => .fail "slice"
   | none,some h,some s=>match ρ h with
    | .one h=>.pure (.one (.slc (.sl b off n n) (.lit (.int .u8 0)) h s)) [kM (.lit (.int .i64 0)) h,kM h (.lit (.int .i64 n))]
    | _ => .fail "slice"
   | _, _, _ => .fail "slice"
  | .one a,some (.slice e),none=>
   let l:=match lo with
    | some l=>ρ l
    | none=>.one (.lit (.int .i64 0))
   let h:=match hi with
    | some h=>ρ h
    | none=>.one (jK a)
   match l,h,bN P e with
   | .one l, .one h, some s => if yF l = true then .fail "slice" else .pure (.one (tC a l h s)) []
   | _, _, _ => .fail "slice"
  | _, _, _ => .fail "slice"
 | .extract x i=>match ρ x with
  | .tup vs=>match vs[i]? with
   | some (true,cs)=>.pure (.agg cs) []
   | some (false,[c])=>.pure (.one c) []
   | _ => .fail "extract"
  | _ => .fail "extract"
 | .call c=>match c.callee with
  | .builtin .len=>match c.args.toList,c.argTypes.toList with
   | [x],[t]=>match ρ x,cQ P t with
    | .one (.sl _ _ n _),some (.slice _)=>.pure (.one (.lit (.int .i64 n))) []
    | .one (.slc (.sl _ _ _ _) (.lit (.int .u8 z)) h _), some (.slice _) => if z = 0 then .pure (.one h) [bS 0 .leq (.lit (.int .i64 0)) h] else .fail "len: part"
    | .one a,some .string=>.pure (.one (jK a)) [.isSl true a]
    | .one a,some (.slice _)=>.pure (.one (jK a)) [.isSl false a]
    | _, _ => .fail "len"
   | _, _ => .fail "len"
  | .builtin .max=>match c.args.toList with
   | [x,y]=>match ρ x,ρ y with
    | .one a,.one b=>.pure (.one (fK (bS 0 .lss a b) b a)) []
    | _, _ => .fail "max"
   | _ => .fail "max"
  | .builtin .min=>match c.args.toList with
   | [x,y]=>match ρ x,ρ y with
    | .one a,.one b=>.pure (.one (fK (bS 0 .lss b a) b a)) []
    | _, _ => .fail "min"
   | _ => .fail "min"
  | .builtin .complex=>match c.args.toList with
   | [x,y]=>match ρ x,ρ y with
    | .one a,.one b=>.pure (.one (bS 12 .add a b)) []
    | _, _ => .fail "complex"
   | _ => .fail "complex"
  | .builtin .real=>match c.args.toList with
   | [x]=>match ρ x with
    | .one a=>.pure (.one (bS 13 .add a (.lit (.bool false)))) []
    | _ => .fail "real"
   | _ => .fail "real"
  | .builtin .imag=>match c.args.toList with
   | [x]=>match ρ x with
    | .one a=>.pure (.one (bS 14 .add a (.lit (.bool false)))) []
    | _ => .fail "imag"
   | _ => .fail "imag"
  | .invoke r name=>match ρ r with
   | .ifc t ag cs=>match pM P t name,ag,cs with
    | some g,true,cs=>kN P g (.agg cs :: c.args.toList.map ρ)
    | some g,false,[c']=>kN P g (.one c' :: c.args.toList.map ρ)
    | _, _, _ => .fail "invoke"
   | _ => .fail "invoke"
  | .value f=>match ρ f with
   | .one (.fn g caps)=>
    let args:=(c.args.toList.map ρ)++caps.map fun i=>.one (.var i)
    match aMx P g caps (c.args.toList.map ρ) with
    | some c=>.pure (.one c) []
    | none=>kN P g args
   | _ => .fail "call: value"
  | _ => .fail "call: builtin"
 | _ => .fail "op"
