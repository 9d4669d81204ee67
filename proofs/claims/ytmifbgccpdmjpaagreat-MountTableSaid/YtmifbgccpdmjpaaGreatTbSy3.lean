/- A symbolic executor of the model's code: the executor. -/
import Derived.Test.YtmifbgccpdmjpaaGreatTbSy2
namespace Go.Proofs.YtmifbgccpdmjpaaGreat.Sy
open Go.RowKit
def aAh {α:Type}:List α→Nat→Option α
 | [],_=>none
 | x :: _,0=>some x
 | _ :: l,n+1=>aAh l n
theorem sT {α:Type}:∀(l:List α) (n:Nat),aAh l n=l[n]?
 | [],_=>rfl
 | _ :: _,0=>rfl
 | _ :: l,n+1=>by rw [aAh,sT l n,xc]
def kM (P:Program) (t:TypeId):Option TypeInfo:=
 match aAh P.types.toList t with
 | some i=>some i
 | none=>P.info? t
theorem gV (P:Program) (t:TypeId):kM P t=P.info? t:=by
 unfold kM;rw [sT];cases h:P.types.toList[t]? with
 | none=>rfl
 | some i=>
  have h':P.types[t]?=some i:=by rw [←qc];exact h
  have hlt:t<P.types.size:=by
   rcases zr t P.types.size with h1|h1
   ·exact h1
   ·rw [jq h1]at h';cases h'
  simp only [Tables.info?,od hlt,h']
def dC (P:Program) (t:TypeId):Option TypeDesc:=
 match kM P t with
 | some { desc:=.named _ u,.. }=>(kM P u).map (·.desc)
 | some i=>some i.desc
 | none=>none
theorem jS (P:Program) (t:TypeId):dC P t=P.underlying t:=by
 unfold dC Program.underlying;simp only [gV];cases P.info? t with
 | none=>rfl
 | some i=>cases i with
  | mk desc _ _ _ _ _ _ _ _ _=>cases desc <;> rfl
def zY (P:Program) (f:FuncId):Option Func:=aAh P.funcs.toList f
theorem nR (P:Program) (f:FuncId):zY P f=P.funcs[f]?:=by
 unfold zY;rw [sT,qc]
def bZ (cl:Nat) (op:BinOp):SC→SC→SC
 | .lit a,.lit b=>match eH cl op a b with
  | some v=>.lit v
  | none=>.bin cl op (.lit a) (.lit b)
 | a,b=>.bin cl op a b
def eK:List SC→List SC→Option SC
 | [],[]=>some (.lit (.bool true))
 | a :: as,b :: bs=>if a.scalar && b.scalar then (eK as bs).map fun r=>.pick (bZ 0 .eql a b) r (.lit (.bool false)) else none
 | _,_=>none
def sV:SC→SC
 | .lit a=>match aAp a with
  | some v=>.lit v
  | none=>.not (.lit a)
 | .not a=>.not (.not a)
 | a=>.not a
def aFr:SC→SC
 | .lit a=>match aIj a with
  | some v=>.lit v
  | none=>.neg (.lit a)
 | a=>.neg a
def xA (k:IntKind):SC→SC
 | .lit a=>match uW k a with
  | some v=>.lit v
  | none=>.conv k (.lit a)
 | a=>.conv k a
def kQ:SC→SC
 | .lit a=>match mS a with
  | some v=>.lit v
  | none=>.len (.lit a)
 | a=>.len a
def kP:SC→SC→SC
 | .lit a,.lit b=>match rF a b with
  | some v=>.lit v
  | none=>.idx (.lit a) (.lit b)
 | a,b=>.idx a b
def aCq:SC→Bool
 | .lit (.int .u8 _)=>true
 | _=>false
def mA:SC→SC→SC
 | .lit a,.lit b=>match leD a b with
  | some v=>.lit v
  | none=>.le (.lit a) (.lit b)
 | a,b=>.le a b
def aUf:SC→SC
 | .lit a=>match nzD a with
  | some v=>.lit v
  | none=>.nz (.lit a)
 | a=>.nz a
def gE:SC→SC→SC→SC
 | .lit (.bool c),a,b=>if c then a else b
 | c,a,b=>.pick c a b
def vN (a lo hi:SC) (s:Nat):SC:=
 match a,lo,hi with
 | .sl b off n c,.lit (.int kl l),.lit (.int kh h)=>if 0≤l∧l≤h∧h≤c∧c≠l.toNat then .sl b (off+l.toNat*s) (h.toNat-l.toNat) (c-l.toNat) else .slc (.sl b off n c) (.lit (.int kl l)) (.lit (.int kh h)) s
 | a,lo,hi=>.slc a lo hi s
theorem aIg (ρ:Env) (a lo hi:SC) (s:Nat):(vN a lo hi s).den ρ=(SC.slc a lo hi s).den ρ:=by
 unfold vN;split
 ·rename_i b off n c kl l kh h;split
  ·rename_i hc;cases hb:ρ.blk b with
   | none=>simp [SC.den,hb]
   | some m=>simp [SC.den,hb,slcD,hc,Addr.add]
  ·rfl
 ·rfl
theorem aO (ρ:Env) (cl:Nat) (op:BinOp) (a b:SC):(bZ cl op a b).den ρ=(SC.bin cl op a b).den ρ:=by
 unfold bZ;split
 ·rename_i x y;cases h:eH cl op x y <;> simp [SC.den,h]
 ·rfl
theorem vL (ρ:Env) (a:SC):(sV a).den ρ=(SC.not a).den ρ:=by
 unfold sV;split
 ·rename_i x;cases h:aAp x <;> simp [SC.den,h]
 ·rfl
 ·rfl
theorem aIe (ρ:Env) (a:SC):(aFr a).den ρ=(SC.neg a).den ρ:=by
 unfold aFr;split
 ·rename_i x;cases h:aIj x <;> simp [SC.den,h]
 ·rfl
theorem aCu (ρ:Env) (k:IntKind) (a:SC):(xA k a).den ρ=(SC.conv k a).den ρ:=by
 unfold xA;split
 ·rename_i x;cases h:uW k x <;> simp [SC.den,h]
 ·rfl
theorem gO (ρ:Env) (a:SC):(kQ a).den ρ=(SC.len a).den ρ:=by
 unfold kQ;split
 ·rename_i x;cases h:mS x <;> simp [SC.den,h]
 ·rfl
theorem gN (ρ:Env) (a b:SC):(kP a b).den ρ=(SC.idx a b).den ρ:=by
 unfold kP;split
 ·rename_i x y;cases h:rF x y <;> simp [SC.den,h]
 ·rfl
theorem nX (ρ:Env) (a b:SC):(mA a b).den ρ=(SC.le a b).den ρ:=by
 unfold mA;split
 ·rename_i x y;cases h:leD x y <;> simp [SC.den,h]
 ·rfl
theorem aMz (ρ:Env) (a:SC):(aUf a).den ρ=(SC.nz a).den ρ:=by
 unfold aUf;split
 ·rename_i x;cases h:nzD x <;> simp [SC.den,h]
 ·rfl
def aTl:SC→Nat→Option (SC×SC)
 | .seg x N,a=>some (.part x N (.lit (.int .i64 0)) 0 0 a,.part x N (.lit (.int .i64 0)) 0 a (N-a))
 | .part x N i s j m,a=>some (.part x N i s j a,.part x N i s (j+a) (m-a))
 | _,_=>none
def jR:Nat→List SC→Option (List SC×List SC)
 | 0,cs=>some ([],cs)
 | _+1,[]=>none
 | o+1,c :: cs=>
  if c.width=0 then none else
  if c.width≤o+1 then
   match jR (o+1-c.width) cs with
   | some (l,r)=>some (c :: l,r)
   | none=>none
  else match aTl c (o+1) with
   | some (c1,c2)=>some ([c1],c2 :: cs)
   | none=>none
def uH (o m:Nat) (cs:List SC):Option (List SC):=
 match jR o cs with
 | some (_,r)=>match jR m r with
  | some (l,_)=>some l
  | none=>none
 | none=>none
def tC (o:Nat) (new cs:List SC):Option (List SC):=
 match jR o cs with
 | some (l,r)=>match jR (widths new) r with
  | some (_,r')=>some (l++new++r')
  | none=>none
 | none=>none
def SV.cells?:SV→Option (List SC)
 | .one c=>if c.scalar then some [c] else none
 | .agg cs=>some cs
 | _=>none
def rS:Value→SV
 | .agg cs=>if cs.all Value.scalar then .agg (cs.toList.map .lit) else .top
 | .tuple vs=>if vs.size=0 then .tup [] else .top
 | v=>.one (.lit v)
structure SB where
 ty:TypeId
 cells:List SC
 pub:Bool
 pv:Nat:=0
 deriving Inhabited
inductive Eff where
 | pure (v:SV) (needs:List SC)
 | load (v:SV) (b:Nat)
 | alloc (ty:TypeId) (cells:List SC) (sl:Option Nat)
 | store (b:Nat) (cells:List SC)
 | call (f:FuncId) (args:List SV)
 | getw (v:Nat) (i:SC) (s j:Nat) (t:TypeId)
 | read (a i:SC) (s j:Nat) (t:TypeId)
 | fail (why:String)
 deriving Inhabited
def opnd (tm:Tmp→SV):Operand→SV
 | .tmp t=>tm t
 | .const v=>rS v
 | .func f=>.one (.fn f [])
 | .global _=>.top
def dA (P:Program) (t:TypeId):Option Bool:=
 match dC P t with
 | some (.struct _)=>some true
 | some (.array _ _)=>some true
 | some _=>some false
 | none=>none
def bU (P:Program) (t:TypeId):Option Nat:=(kM P t).map (·.size)
def oB (P:Program) (t:TypeId) (cs:List SC) (off:Nat):Option SV:=
 match dA P t,bU P t with
 | some true,some m=>(uH off m cs).map .agg
 | some false,some _=>match uH off 1 cs with
  | some [c]=>if c.scalar then some (.one c) else none
  | _=>none
 | _,_=>none
def vB (place:Nat→Option (Nat×Nat)) (cells:List SC):List (Nat×SV)→Option (List SC)
 | []=>some cells
 | (i,v) :: rest=>match place i,v.cells? with
  | some (off,size),some new=>
   if widths new=size then
    match tC off new cells with
    | some cells=>vB place cells rest
    | none=>none
   else none
  | _,_=>none
def gX (v:Value):Option (List SC):=
 match v with
 | .agg cs=>if cs.toList.all Value.scalar then some (cs.toList.map .lit) else none
 | .tuple _=>none
 | v=>some [.lit v]
def kW (P:Program):List Field→Option (List (Nat×Nat))
 | []=>some []
 | f :: fs=>match bU P f.type,kW P fs with
  | some s,some l=>some ((f.offset,s) :: l)
  | _,_=>none
def xG (P:Program) (t:TypeId):Option (Nat→Option (Nat×Nat)):=
 match dC P t with
 | some (.struct fields)=>match kW P fields.toList with
  | some l=>some fun i=>l[i]?
  | none=>none
 | some (.array _ e)=>(bU P e).map fun s=>fun i=>some (i*s,s)
 | _=>none
def bDo (_P:Program) (_op:BinOp) (_t:TypeId) (_a _b:SC):Bool:=true
def aLf:List SV→Bool
 | []=>true
 | .top :: _=>false
 | _ :: l=>aLf l
def oW (tm:Tmp→SV) (hp:Nat→Option SB):List Operand→Option (List Nat)
 | []=>some []
 | x :: xs=>match opnd tm x with
  | .one (.ptr b 0)=>match hp b with
   | some blk=>if blk.pub then (oW tm hp xs).map (blk.pv :: ·) else none
   | none=>none
  | _=>none
def tL (sl:Option Nat) (b:Nat):SV:=match sl with
 | none=>.one (.ptr b 0)
 | some n=>.one (.sl b 0 n n)
def uM (sl:Option Nat) (m:Nat):Value:=match sl with
 | none=>.pointer (some ⟨m,0,none⟩)
 | some n=>.slice (some ⟨m,0,none⟩) n n
theorem tM {ρ:Env}{sl:Option Nat}{b m:Nat}(h:ρ.blk b=some m):(tL sl b).den ρ=some (uM sl m):=by
 cases sl <;> simp only [tL,uM,SV.den,SC.den,h]
def rQ (P:Program) (t:TypeId) (name:String):Option FuncId:=
 match kM P t,dC P t with
 | some _,some (.pointer _)=>none
 | some i,some _=>match i.methods.find? (·.name == name) with
  | some m=>if m.path.size=0 then match m.func with
   | some (f,false)=>some f
   | _=>none
   else none
  | none=>none
 | _,_=>none
def mC (P:Program) (g:FuncId) (args:List SV):Eff:=
 match zY P g with
 | some fn => if fn.name != "runtime.NumGoroutine" && fn.body.isSome then .call g args else .fail ("call " ++ fn.name)
 | none => .fail "call"
def aLy (name:String) (a:SC):Option SC:=
 if name = "math.Float64bits" then some (bZ 10 .add a (.lit (.int .u64 0)))
 else if name = "math.Float64frombits" then some (bZ 11 .add a (.lit (.float .f64 0)))
 else if name = "math.Float32bits" then some (bZ 10 .add a (.lit (.int .u32 0)))
 else if name = "math.Float32frombits" then some (bZ 11 .add a (.lit (.float .f32 0)))
 else none
def aYr (P:Program) (g:FuncId) (caps:List Nat) (args:List SV):Option SC:=
 match zY P g,caps,args with
 | some fn, [], [.one a] => if fn.body.isNone && fn.origin == "" then aLy fn.name a else none
 | _,_,_=>none
def tE (P:Program) (t:TypeId) (cs:List SC) (off n s:Nat) (i:SC) (j:Nat):Option (List SC):=
 match uH off (n*s) cs,dA P t,bU P t with
 | some [.seg x N],some true,some m=>if N=n*s∧j+m≤s then some [.part x N i s j m] else none
 | some [.part x N (.lit (.int _ z)) _ j0 m0],some true,some m=>if z=0∧m0=n*s∧j+m≤s then some [.part x N i s (j0+j) m] else none
 | _,_,_=>none
def aEy (P:Program) (t:TypeId) (cs:List SC) (n s:Nat) (i:SC):Option SC:=
 match cs,dC P t,dA P t with
 | [.seg x N],some (.slice _),some false=>if N=n*s∧0<s then some (.cel x i s .slice) else none
 | [.seg x N],some (.complex k),some false=>if N=n*s∧0<s then some (.cel x i s (.cpx k)) else none
 | [.seg x N],some (.int k),some false=>if N=n*s∧0<s then some (.cel x i s (.int k)) else none
 | _,_,_=>none
def rD (y:SC):List SC→SC
 | []=>y
 | z :: l=>.cat y (rD z l)
def aBt (cs:List SC) (off n s:Nat) (i:SC) (j m:Nat) (new:List SC):Option (List SC):=
 match uH off (n*s) cs,new with
 | some [.seg x N],y :: ys=>if N=n*s∧j+m≤s∧(rD y ys).width=m then tC off [.upd x N i s j (rD y ys)] cs else none
 | _,_=>none
def bF (P:Program) (tm:Tmp→SV) (hp:Nat→Option SB) (o:Oper):Eff:=
 let ρ:=opnd tm
 match o.op with
 | .move x | .assign x=>.pure (ρ x) []
 | .pick c a b=>match ρ c,ρ a,ρ b with
  | .one c,.one a,.one b=>.pure (.one (gE c a b)) []
  | _, _, _ => .fail "pick"
 | .alloc elem=>match kM P elem with
  | some i=>match i.zero with
   | some z=>match gX z with
    | some cs=>.alloc elem cs none
    | none => .fail "alloc: zero"
   | none => .fail "alloc"
  | none => .fail "alloc"
 | .box elem x=>match (ρ x).cells? with
  | some cs=>.alloc elem cs none
  | none => .fail "box"
 | .build t parts=>match kM P t,xG P t with
  | some i,some place=>match i.zero with
   | some (.agg z)=>match gX (.agg z) with
    | some cs=>match vB place cs (parts.toList.map fun p=>(p.1,ρ p.2)) with
     | some cs=>.pure (.agg cs) []
     | none => .fail "build"
    | none => .fail "build"
   | _ => .fail "build"
  | _, _ => .fail "build"
 | .load t a=>match ρ a with
  | .one (.ptr b off)=>match hp b with
   | some blk=>match oB P t blk.cells off with
    | some v=>.load v b
    | none => .fail "load: part"
   | none => .fail "load: no block"
  | .one (.elem (.sl b off n _) i s j)=>match hp b with
   | some blk=>match tE P t blk.cells off n s i j with
    | some cs=>.load (.agg cs) b
    | none=>match (uH off (n*s) blk.cells).bind fun cs=>aEy P t cs n s i with
     | some c => if j = 0 then .load (.one c) b else .fail "load: part by index"
     | none => .fail "load: part by index"
   | none => .fail "load: no block"
  | .one (.elem (.slr v) i s j)=>.getw v i s j t
  | .one (.elem a i s j)=>.read a i s j t
  | _ => .fail "load: no pointer of ours"
 | .store t a x=>match ρ a,(ρ x).cells?,bU P t with
  | .one (.ptr b off),some new,some m=>match hp b with
   | some blk=>if widths new=m && !blk.pub then
    match tC off new blk.cells with
    | some cs=>.store b cs
    | none => .fail "store: part"
    else .fail "store: size"
   | none => .fail "store: no block"
  | .one (.elem (.sl b off n _) i s j),some new,some m=>match hp b with
   | some blk=>if widths new=m && !blk.pub then
    match aBt blk.cells off n s i j m new with
    | some cs=>.store b cs
    | none => .fail "store: part by index"
    else .fail "store: size"
   | none => .fail "store: no block"
  | _, _, _ => .fail "store"
 | .nilCheck x=>match ρ x with
  | .one (.ptr b off)=>.pure (.one (.ptr b off)) []
  | .one (.fn f caps)=>.pure (.one (.fn f caps)) []
  | _ => .fail "nilCheck"
 | .binOp op t x y _=>match ρ x,ρ y with
  | .one a,.one b=>
   match dC P t with
   | some (.int _)=>.pure (.one (bZ 0 op a b)) (match op with
    | .quo | .rem=>[aUf b]
    | .shl | .shr=>[mA (.lit (.int .i64 0)) b]
    | _=>[])
   | some .bool=>.pure (.one (bZ 1 op a b)) []
   | some .string=>.pure (.one (bZ 2 op a b)) (match op with
    | .add=>[.fit a b]
    | _=>[])
   | some (.float _)=>.pure (.one (bZ 3 op a b)) (match op with
    | .add | .sub | .mul | .quo=>[bZ 4 op a b]
    | _=>[])
   | some (.complex _)=>.pure (.one (bZ 17 op a b)) []
   | _ => .fail "binOp: type"
  | .agg as,.agg bs=>
   match dC P t with
   | some (.array n e)=>
    match dC P e,bU P e with
    | some (.int _),some 1=>if as.length=n then (match eK as bs,op with
     | some r,.eql=>.pure (.one r) []
     | some r,.neq=>.pure (.one (sV r)) []
     | _, _ => .fail "binOp: cells") else .fail "binOp: array"
    | _, _ => .fail "binOp: elements"
   | _ => .fail "binOp: aggregates"
  | _, _ => .fail "binOp"
 | .unOp op _ x=>match op,ρ x with
  | .not,.one a=>.pure (.one (sV a)) []
  | .neg,.one a=>.pure (.one (aFr a)) []
  | _, _ => .fail "unOp"
 | .convert src dst x=>match dC P src,dC P dst,ρ x with
  | some (.int _),some (.float k),.one a=>.pure (.one (bZ 5 .add a (.lit (.float k 0)))) []
  | some (.float _),some (.float k),.one a=>.pure (.one (bZ 6 .add a (.lit (.float k 0)))) [bZ 7 .add a (.lit (.float k 0))]
  | some (.float _),some (.int k),.one a=>.pure (.one (bZ 8 .add a (.lit (.int k 0)))) [bZ 9 .add a (.lit (.int k 0))]
  | some _,some (.int k),.one a=>.pure (.one (xA k a)) []
  | some (.complex _),some (.complex k),.one a=>.pure (.one (bZ 15 .add a (.lit (.complex k 0 0)))) [bZ 16 .add a (.lit (.complex k 0 0))]
  | _, _, _ => .fail "convert"
 | .makeFunc fn first captured=>match fn,first.size with
  | .func f,0=>match oW tm hp captured.toList with
   | some ids=>.pure (.one (.fn f ids)) []
   | none => .fail "makeFunc"
  | _, _ => .fail "makeFunc"
 | .fieldAddr s x f=>match ρ x,dC P s with
  | .one (.ptr b off),some (.struct fields)=>match fields[f]? with
   | some fd=>match bU P fd.type with
    | some (_+1)=>.pure (.one (.ptr b (off+fd.offset))) []
    | _ => .fail "fieldAddr: size"
   | none => .fail "fieldAddr"
  | .one (.elem a i s j),some (.struct fields)=>match fields[f]? with
   | some fd=>match bU P fd.type with
    | some (_+1)=>.pure (.one (.elem a i s (j+fd.offset))) []
    | _ => .fail "fieldAddr: size"
   | none => .fail "fieldAddr"
  | _, _ => .fail "fieldAddr"
 | .field t x f=>match ρ x,dC P t with
  | .agg cs,some (.struct fields)=>match fields[f]? with
   | some fd=>match oB P fd.type cs fd.offset with
    | some v=>.pure v []
    | none => .fail "field"
   | none => .fail "field"
  | _, _ => .fail "field"
 | .makeInterface t x=>match ρ x,dC P t with
  | _, some (.interface _) => .fail "makeInterface"
  | .one c,some _=>.pure (.ifc t false [c]) []
  | .agg cs,some _=>.pure (.ifc t true cs) []
  | _, _ => .fail "makeInterface"
 | .buildSlice t len parts=>match dC P t with
  | some (.slice e)=>match kM P e,bU P e with
   | some i,some size=>match i.zero with
    | some z=>match gX z with
     | some zc=>
      if len*size≤16777216∧len*size≠0∧zc.length≠0 then
       match vB (fun i=>some (i*size,size)) ((List.range (len*size)).map fun i=>(zc[i % zc.length]?).getD (.lit (.bool false))) (parts.toList.map fun p=>(p.1,ρ p.2)) with
       | some cs=>.alloc e cs (some len)
       | none => .fail "buildSlice"
      else .fail "buildSlice: size"
     | none => .fail "buildSlice"
    | none => .fail "buildSlice"
   | _, _ => .fail "buildSlice"
  | _ => .fail "buildSlice"
 | .indexAddr t x ix=>match ρ x,ρ ix,dC P t with
  | .one (.sl b off len _),.one (.lit (.int _ i)),some (.slice e)=>match bU P e with
   | some s => if 0 ≤ i ∧ i < len then .pure (.one (.ptr b (off + i.toNat * s))) [] else .fail "indexAddr: range"
   | none => .fail "indexAddr"
  | .one (.ptr b off),.one (.lit (.int _ i)),some (.array n e)=>match bU P e with
   | some s => if 0 ≤ i ∧ i < n then .pure (.one (.ptr b (off + i.toNat * s))) [] else .fail "indexAddr: range"
   | none => .fail "indexAddr"
  | .one (.ptr b off),.one i,some (.array n e)=>match bU P e with
   | some s=>.pure (.one (.elem (.sl b off n n) i s 0)) [kP i (.lit (.int .i64 n))]
   | none => .fail "indexAddr"
  | .one (.sl b off len c),.one i,some (.slice e)=>match bU P e with
   | some s=>.pure (.one (.elem (.sl b off len c) i s 0)) [kP i (.lit (.int .i64 len))]
   | none => .fail "indexAddr"
  | .one (.slc (.sl b off len c) (.lit (.int .u8 z)) h _),.one i,some (.slice e)=>match bU P e with
   | some s => if z = 0 then .pure (.one (.elem (.sl b off len c) i s 0)) [kP i h, mA h (.lit (.int .i64 len))] else .fail "indexAddr: part"
   | none => .fail "indexAddr"
  | .one a,.one i,some (.slice e)=>match bU P e with
   | some s=>.pure (.one (.elem a i s 0)) []
   | none => .fail "indexAddr"
  | .one (.elem a i s j),.one (.lit (.int _ z)),some (.array n e)=>match bU P e with
   | some s' => if 0 ≤ z ∧ z < n then .pure (.one (.elem a i s (j + z.toNat * s'))) [] else .fail "indexAddr: range"
   | none => .fail "indexAddr"
  | _, _, _ => .fail "indexAddr"
 | .index t x ix=>match ρ x,ρ ix,dC P t with
  | .agg cs,.one (.lit (.int _ i)),some (.array n e)=>match bU P e with
   | some s=>if 0≤i∧i<n then
    match oB P e cs (i.toNat*s) with
    | some v=>.pure v []
    | none => .fail "index: part"
    else .fail "index: range"
   | none => .fail "index"
  | .one s,.one i,some .string=>.pure (.one (.byte s i)) [kP i (kQ s)]
  | .agg cs,.one i,some (.array n e)=>match bU P e with
   | some s=>match tE P e cs 0 n s i 0 with
    | some cs=>.pure (.agg cs) [kP i (.lit (.int .i64 n))]
    | none=>match aEy P e cs n s i with
     | some c=>.pure (.one c) [kP i (.lit (.int .i64 n))]
     | none => .fail "index: part by index"
   | none => .fail "index"
  | _, _, _ => .fail "index"
 | .slice t x lo hi mx=>match ρ x,dC P t,mx with
  | .one s,some .string,none=>
   let l:=match lo with
    | some l=>ρ l
    | none=>.one (.lit (.int .i64 0))
   let h:=match hi with
    | some h=>ρ h
    | none=>.one (kQ s)
   match l,h with
   | .one l,.one h=>.pure (.one (.sub s l h)) [mA (.lit (.int .i64 0)) l,mA l h,mA h (kQ s)]
   | _, _ => .fail "slice"
  | .one (.ptr b off),some (.array n e),none=>match lo,hi,bU P e with
   | some l,none,some s=>match ρ l with
    | .one (.lit (.int _ i)) => if 0 ≤ i ∧ i < n then .pure (.one (.sl b (off + i.toNat * s) (n - i.toNat) (n - i.toNat))) [] else .fail "slice: range"
    | _ => .fail "slice"
   | none,some h,some s=>match ρ h with
    | .one h=>.pure (.one (.slc (.sl b off n n) (.lit (.int .u8 0)) h s)) [mA (.lit (.int .i64 0)) h,mA h (.lit (.int .i64 n))]
    | _ => .fail "slice"
   | _, _, _ => .fail "slice"
  | .one a,some (.slice e),none=>
   let l:=match lo with
    | some l=>ρ l
    | none=>.one (.lit (.int .i64 0))
   let h:=match hi with
    | some h=>ρ h
    | none=>.one (kQ a)
   match l,h,bU P e with
   | .one l, .one h, some s => if aCq l = true then .fail "slice" else .pure (.one (vN a l h s)) []
   | _, _, _ => .fail "slice"
  | _, _, _ => .fail "slice"
 | .extract x i=>match ρ x with
  | .tup vs=>match vs[i]? with
   | some (true,cs)=>.pure (.agg cs) []
   | some (false,[c])=>.pure (.one c) []
   | _ => .fail "extract"
  | _ => .fail "extract"
 | .call c=>match c.callee with
  | .builtin .len=>match c.args.toList,c.argTypes.toList with
   | [x],[t]=>match ρ x,dC P t with
    | .one (.sl _ _ n _),some (.slice _)=>.pure (.one (.lit (.int .i64 n))) []
    | .one (.slc (.sl _ _ _ _) (.lit (.int .u8 z)) h _), some (.slice _) => if z = 0 then .pure (.one h) [bZ 0 .leq (.lit (.int .i64 0)) h] else .fail "len: part"
    | .one a,some .string=>.pure (.one (kQ a)) [.isSl true a]
    | .one a,some (.slice _)=>.pure (.one (kQ a)) [.isSl false a]
    | _, _ => .fail "len"
   | _, _ => .fail "len"
  | .builtin .max=>match c.args.toList with
   | [x,y]=>match ρ x,ρ y with
    | .one a,.one b=>.pure (.one (gE (bZ 0 .lss a b) b a)) []
    | _, _ => .fail "max"
   | _ => .fail "max"
  | .builtin .min=>match c.args.toList with
   | [x,y]=>match ρ x,ρ y with
    | .one a,.one b=>.pure (.one (gE (bZ 0 .lss b a) b a)) []
    | _, _ => .fail "min"
   | _ => .fail "min"
  | .builtin .complex=>match c.args.toList with
   | [x,y]=>match ρ x,ρ y with
    | .one a,.one b=>.pure (.one (bZ 12 .add a b)) []
    | _, _ => .fail "complex"
   | _ => .fail "complex"
  | .builtin .real=>match c.args.toList with
   | [x]=>match ρ x with
    | .one a=>.pure (.one (bZ 13 .add a (.lit (.bool false)))) []
    | _ => .fail "real"
   | _ => .fail "real"
  | .builtin .imag=>match c.args.toList with
   | [x]=>match ρ x with
    | .one a=>.pure (.one (bZ 14 .add a (.lit (.bool false)))) []
    | _ => .fail "imag"
   | _ => .fail "imag"
  | .invoke r name=>match ρ r with
   | .ifc t ag cs=>match rQ P t name,ag,cs with
    | some g,true,cs=>mC P g (.agg cs :: c.args.toList.map ρ)
    | some g,false,[c']=>mC P g (.one c' :: c.args.toList.map ρ)
    | _, _, _ => .fail "invoke"
   | _ => .fail "invoke"
  | .value f=>match ρ f with
   | .one (.fn g caps)=>
    let args:=(c.args.toList.map ρ)++caps.map fun i=>.one (.var i)
    match aYr P g caps (c.args.toList.map ρ) with
    | some c=>.pure (.one c) []
    | none=>mC P g args
   | _ => .fail "call: value"
  | _ => .fail "call: builtin"
 | _ => .fail "op"
