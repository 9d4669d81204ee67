/- A symbolic executor of the model's code: the executor. -/
import Derived.Test.YtebaclefnpipfaaGreatTlSy2
namespace Go.Proofs.YtebaclefnpipfaaGreat.Sy
open Go.RowKit
def aAr {α:Type}:List α→Nat→Option α
 | [],_=>none
 | x :: _,0=>some x
 | _ :: l,n+1=>aAr l n
theorem sY {α:Type}:∀(l:List α) (n:Nat),aAr l n=l[n]?
 | [],_=>rfl
 | _ :: _,0=>rfl
 | _ :: l,n+1=>by rw [aAr,sY l n,xm]
def kJ (P:Program) (t:TypeId):Option TypeInfo:=
 match aAr P.types.toList t with
 | some i=>some i
 | none=>P.info? t
theorem iX (P:Program) (t:TypeId):kJ P t=P.info? t:=by
 unfold kJ;rw [sY];cases h:P.types.toList[t]? with
 | none=>rfl
 | some i=>
  have h':P.types[t]?=some i:=by rw [←jz];exact h
  have hlt:t<P.types.size:=by
   rcases zi t P.types.size with h1|h1
   ·exact h1
   ·rw [qe h1]at h';cases h'
  simp only [Tables.info?,og hlt,h']
def eW (P:Program) (t:TypeId):Option TypeDesc:=
 match kJ P t with
 | some { desc:=.named _ u,.. }=>(kJ P u).map (·.desc)
 | some i=>some i.desc
 | none=>none
theorem lR (P:Program) (t:TypeId):eW P t=P.underlying t:=by
 unfold eW Program.underlying;simp only [iX];cases P.info? t with
 | none=>rfl
 | some i=>cases i with
  | mk desc _ _ _ _ _ _ _ _ _=>cases desc <;> rfl
def aDi (P:Program) (f:FuncId):Option Func:=aAr P.funcs.toList f
theorem rH (P:Program) (f:FuncId):aDi P f=P.funcs[f]?:=by
 unfold aDi;rw [sY,jz]
def eZ (cl:Nat) (op:BinOp):SC→SC→SC
 | .lit a,.lit b=>match jZ cl op a b with
  | some v=>.lit v
  | none=>.bin cl op (.lit a) (.lit b)
 | a,b=>.bin cl op a b
def dQ:List SC→List SC→Option SC
 | [],[]=>some (.lit (.bool true))
 | a :: as,b :: bs=>if a.scalar && b.scalar then (dQ as bs).map fun r=>.pick (eZ 0 .eql a b) r (.lit (.bool false)) else none
 | _,_=>none
def tC:SC→SC
 | .lit a=>match aAu a with
  | some v=>.lit v
  | none=>.not (.lit a)
 | .not a=>.not (.not a)
 | a=>.not a
def aFz:SC→SC
 | .lit a=>match aIy a with
  | some v=>.lit v
  | none=>.neg (.lit a)
 | a=>.neg a
def yB (k:IntKind):SC→SC
 | .lit a=>match vL k a with
  | some v=>.lit v
  | none=>.conv k (.lit a)
 | a=>.conv k a
def kO:SC→SC
 | .lit a=>match nQ a with
  | some v=>.lit v
  | none=>.len (.lit a)
 | a=>.len a
def lW:SC→SC→SC
 | .lit a,.lit b=>match sU a b with
  | some v=>.lit v
  | none=>.idx (.lit a) (.lit b)
 | a,b=>.idx a b
def aDk:SC→Bool
 | .lit (.int .u8 _)=>true
 | _=>false
def lS:SC→SC→SC
 | .lit a,.lit b=>match leD a b with
  | some v=>.lit v
  | none=>.le (.lit a) (.lit b)
 | a,b=>.le a b
def aRl:SC→SC
 | .lit a=>match nzD a with
  | some v=>.lit v
  | none=>.nz (.lit a)
 | a=>.nz a
def fV:SC→SC→SC→SC
 | .lit (.bool c),a,b=>if c then a else b
 | c,a,b=>.pick c a b
def wG (a lo hi:SC) (s:Nat):SC:=
 match a,lo,hi with
 | .sl b off n c,.lit (.int kl l),.lit (.int kh h)=>if 0≤l∧l≤h∧h≤c∧c≠l.toNat then .sl b (off+l.toNat*s) (h.toNat-l.toNat) (c-l.toNat) else .slc (.sl b off n c) (.lit (.int kl l)) (.lit (.int kh h)) s
 | a,lo,hi=>.slc a lo hi s
theorem aIu (ρ:Env) (a lo hi:SC) (s:Nat):(wG a lo hi s).den ρ=(SC.slc a lo hi s).den ρ:=by
 unfold wG;split
 ·rename_i b off n c kl l kh h;split
  ·rename_i hc;cases hb:ρ.blk b with
   | none=>simp [SC.den,hb]
   | some m=>simp [SC.den,hb,slcD,hc,Addr.add]
  ·rfl
 ·rfl
theorem dW (ρ:Env) (cl:Nat) (op:BinOp) (a b:SC):(eZ cl op a b).den ρ=(SC.bin cl op a b).den ρ:=by
 unfold eZ;split
 ·rename_i x y;cases h:jZ cl op x y <;> simp [SC.den,h]
 ·rfl
theorem wF (ρ:Env) (a:SC):(tC a).den ρ=(SC.not a).den ρ:=by
 unfold tC;split
 ·rename_i x;cases h:aAu x <;> simp [SC.den,h]
 ·rfl
 ·rfl
theorem aIr (ρ:Env) (a:SC):(aFz a).den ρ=(SC.neg a).den ρ:=by
 unfold aFz;split
 ·rename_i x;cases h:aIy x <;> simp [SC.den,h]
 ·rfl
theorem aDq (ρ:Env) (k:IntKind) (a:SC):(yB k a).den ρ=(SC.conv k a).den ρ:=by
 unfold yB;split
 ·rename_i x;cases h:vL k x <;> simp [SC.den,h]
 ·rfl
theorem gJ (ρ:Env) (a:SC):(kO a).den ρ=(SC.len a).den ρ:=by
 unfold kO;split
 ·rename_i x;cases h:nQ x <;> simp [SC.den,h]
 ·rfl
theorem jB (ρ:Env) (a b:SC):(lW a b).den ρ=(SC.idx a b).den ρ:=by
 unfold lW;split
 ·rename_i x y;cases h:sU x y <;> simp [SC.den,h]
 ·rfl
theorem nU (ρ:Env) (a b:SC):(lS a b).den ρ=(SC.le a b).den ρ:=by
 unfold lS;split
 ·rename_i x y;cases h:leD x y <;> simp [SC.den,h]
 ·rfl
theorem aNi (ρ:Env) (a:SC):(aRl a).den ρ=(SC.nz a).den ρ:=by
 unfold aRl;split
 ·rename_i x;cases h:nzD x <;> simp [SC.den,h]
 ·rfl
def aQt:SC→Nat→Option (SC×SC)
 | .seg x N,a=>some (.part x N (.lit (.int .i64 0)) 0 0 a,.part x N (.lit (.int .i64 0)) 0 a (N-a))
 | .part x N i s j m,a=>some (.part x N i s j a,.part x N i s (j+a) (m-a))
 | _,_=>none
def jW:Nat→List SC→Option (List SC×List SC)
 | 0,cs=>some ([],cs)
 | _+1,[]=>none
 | o+1,c :: cs=>
  if c.width=0 then none else
  if c.width≤o+1 then
   match jW (o+1-c.width) cs with
   | some (l,r)=>some (c :: l,r)
   | none=>none
  else match aQt c (o+1) with
   | some (c1,c2)=>some ([c1],c2 :: cs)
   | none=>none
def xQ (o m:Nat) (cs:List SC):Option (List SC):=
 match jW o cs with
 | some (_,r)=>match jW m r with
  | some (l,_)=>some l
  | none=>none
 | none=>none
def aAy (o:Nat) (new cs:List SC):Option (List SC):=
 match jW o cs with
 | some (l,r)=>match jW (widths new) r with
  | some (_,r')=>some (l++new++r')
  | none=>none
 | none=>none
def SV.cells?:SV→Option (List SC)
 | .one c=>if c.scalar then some [c] else none
 | .agg cs=>some cs
 | _=>none
def rL:Value→SV
 | .agg cs=>if cs.all Value.scalar then .agg (cs.toList.map .lit) else .top
 | .tuple vs=>if vs.size=0 then .tup [] else .top
 | v=>.one (.lit v)
structure SB where
 ty:TypeId
 cells:List SC
 pub:Bool
 pv:Nat:=0
 deriving Inhabited
inductive Eff where
 | pure (v:SV) (needs:List SC)
 | load (v:SV) (b:Nat)
 | alloc (ty:TypeId) (cells:List SC) (sl:Option Nat)
 | store (b:Nat) (cells:List SC)
 | call (f:FuncId) (args:List SV)
 | getw (v:Nat) (i:SC) (s j:Nat) (t:TypeId)
 | read (a i:SC) (s j:Nat) (t:TypeId)
 | fail (why:String)
 deriving Inhabited
def opnd (tm:Tmp→SV):Operand→SV
 | .tmp t=>tm t
 | .const v=>rL v
 | .func f=>.one (.fn f [])
 | .global _=>.top
def dK (P:Program) (t:TypeId):Option Bool:=
 match eW P t with
 | some (.struct _)=>some true
 | some (.array _ _)=>some true
 | some _=>some false
 | none=>none
def bO (P:Program) (t:TypeId):Option Nat:=(kJ P t).map (·.size)
def nW (P:Program) (t:TypeId) (cs:List SC) (off:Nat):Option SV:=
 match dK P t,bO P t with
 | some true,some m=>(xQ off m cs).map .agg
 | some false,some _=>match xQ off 1 cs with
  | some [c]=>if c.scalar then some (.one c) else none
  | _=>none
 | _,_=>none
def vT (place:Nat→Option (Nat×Nat)) (cells:List SC):List (Nat×SV)→Option (List SC)
 | []=>some cells
 | (i,v) :: rest=>match place i,v.cells? with
  | some (off,size),some new=>
   if widths new=size then
    match aAy off new cells with
    | some cells=>vT place cells rest
    | none=>none
   else none
  | _,_=>none
def gR (v:Value):Option (List SC):=
 match v with
 | .agg cs=>if cs.toList.all Value.scalar then some (cs.toList.map .lit) else none
 | .tuple _=>none
 | v=>some [.lit v]
def kQ (P:Program):List Field→Option (List (Nat×Nat))
 | []=>some []
 | f :: fs=>match bO P f.type,kQ P fs with
  | some s,some l=>some ((f.offset,s) :: l)
  | _,_=>none
def yI (P:Program) (t:TypeId):Option (Nat→Option (Nat×Nat)):=
 match eW P t with
 | some (.struct fields)=>match kQ P fields.toList with
  | some l=>some fun i=>l[i]?
  | none=>none
 | some (.array _ e)=>(bO P e).map fun s=>fun i=>some (i*s,s)
 | _=>none
def aXc (_P:Program) (_op:BinOp) (_t:TypeId) (_a _b:SC):Bool:=true
def aKx:List SV→Bool
 | []=>true
 | .top :: _=>false
 | _ :: l=>aKx l
def oO (tm:Tmp→SV) (hp:Nat→Option SB):List Operand→Option (List Nat)
 | []=>some []
 | x :: xs=>match opnd tm x with
  | .one (.ptr b 0)=>match hp b with
   | some blk=>if blk.pub then (oO tm hp xs).map (blk.pv :: ·) else none
   | none=>none
  | _=>none
def tT (sl:Option Nat) (b:Nat):SV:=match sl with
 | none=>.one (.ptr b 0)
 | some n=>.one (.sl b 0 n n)
def uT (sl:Option Nat) (m:Nat):Value:=match sl with
 | none=>.pointer (some ⟨m,0,none⟩)
 | some n=>.slice (some ⟨m,0,none⟩) n n
theorem tU {ρ:Env}{sl:Option Nat}{b m:Nat}(h:ρ.blk b=some m):(tT sl b).den ρ=some (uT sl m):=by
 cases sl <;> simp only [tT,uT,SV.den,SC.den,h]
def rJ (P:Program) (t:TypeId) (name:String):Option FuncId:=
 match kJ P t,eW P t with
 | some _,some (.pointer _)=>none
 | some i,some _=>match i.methods.find? (·.name == name) with
  | some m=>if m.path.size=0 then match m.func with
   | some (f,false)=>some f
   | _=>none
   else none
  | none=>none
 | _,_=>none
def lT (P:Program) (g:FuncId) (args:List SV):Eff:=
 match aDi P g with
 | some fn => if fn.name != "runtime.NumGoroutine" && fn.body.isSome then .call g args else .fail ("call " ++ fn.name)
 | none => .fail "call"
def tK (P:Program) (t:TypeId) (cs:List SC) (off n s:Nat) (i:SC) (j:Nat):Option (List SC):=
 match xQ off (n*s) cs,dK P t,bO P t with
 | some [.seg x N],some true,some m=>if N=n*s∧j+m≤s then some [.part x N i s j m] else none
 | some [.part x N (.lit (.int _ z)) _ j0 m0],some true,some m=>if z=0∧m0=n*s∧j+m≤s then some [.part x N i s (j0+j) m] else none
 | _,_,_=>none
def aPo (cs:List SC) (off n s:Nat) (i:SC) (j m:Nat) (new:List SC):Option (List SC):=
 match xQ off (n*s) cs,new with
 | some [.seg x N],[y]=>if N=n*s∧j+m≤s∧y.width=m∧y.scalar=false then aAy off [.upd x N i s j y] cs else none
 | _,_=>none
def aY (P:Program) (tm:Tmp→SV) (hp:Nat→Option SB) (o:Oper):Eff:=
 let ρ:=opnd tm
 match o.op with
 | .move x | .assign x=>.pure (ρ x) []
 | .pick c a b=>match ρ c,ρ a,ρ b with
  | .one c,.one a,.one b=>.pure (.one (fV c a b)) []
  | _, _, _ => .fail "pick"
 | .alloc elem=>match kJ P elem with
  | some i=>match i.zero with
   | some z=>match gR z with
    | some cs=>.alloc elem cs none
    | none => .fail "alloc: zero"
   | none => .fail "alloc"
  | none => .fail "alloc"
 | .box elem x=>match (ρ x).cells? with
  | some cs=>.alloc elem cs none
  | none => .fail "box"
 | .build t parts=>match kJ P t,yI P t with
  | some i,some place=>match i.zero with
   | some (.agg z)=>match gR (.agg z) with
    | some cs=>match vT place cs (parts.toList.map fun p=>(p.1,ρ p.2)) with
     | some cs=>.pure (.agg cs) []
     | none => .fail "build"
    | none => .fail "build"
   | _ => .fail "build"
  | _, _ => .fail "build"
 | .load t a=>match ρ a with
  | .one (.ptr b off)=>match hp b with
   | some blk=>match nW P t blk.cells off with
    | some v=>.load v b
    | none => .fail "load: part"
   | none => .fail "load: no block"
  | .one (.elem (.sl b off n _) i s j)=>match hp b with
   | some blk=>match tK P t blk.cells off n s i j with
    | some cs=>.load (.agg cs) b
    | none => .fail "load: part by index"
   | none => .fail "load: no block"
  | .one (.elem (.slr v) i s j)=>.getw v i s j t
  | .one (.elem a i s j)=>.read a i s j t
  | _ => .fail "load: no pointer of ours"
 | .store t a x=>match ρ a,(ρ x).cells?,bO P t with
  | .one (.ptr b off),some new,some m=>match hp b with
   | some blk=>if widths new=m && !blk.pub then
    match aAy off new blk.cells with
    | some cs=>.store b cs
    | none => .fail "store: part"
    else .fail "store: size"
   | none => .fail "store: no block"
  | .one (.elem (.sl b off n _) i s j),some new,some m=>match hp b with
   | some blk=>if widths new=m && !blk.pub then
    match aPo blk.cells off n s i j m new with
    | some cs=>.store b cs
    | none => .fail "store: part by index"
    else .fail "store: size"
   | none => .fail "store: no block"
  | _, _, _ => .fail "store"
 | .nilCheck x=>match ρ x with
  | .one (.ptr b off)=>.pure (.one (.ptr b off)) []
  | .one (.fn f caps)=>.pure (.one (.fn f caps)) []
  | _ => .fail "nilCheck"
 | .binOp op t x y _=>match ρ x,ρ y with
  | .one a,.one b=>
   match eW P t with
   | some (.int _)=>.pure (.one (eZ 0 op a b)) (match op with
    | .quo | .rem=>[aRl b]
    | .shl | .shr=>[lS (.lit (.int .i64 0)) b]
    | _=>[])
   | some .bool=>.pure (.one (eZ 1 op a b)) []
   | some .string=>.pure (.one (eZ 2 op a b)) (match op with
    | .add=>[.fit a b]
    | _=>[])
   | _ => .fail "binOp: type"
  | .agg as,.agg bs=>
   match eW P t with
   | some (.array n e)=>
    match eW P e,bO P e with
    | some (.int _),some 1=>if as.length=n then (match dQ as bs,op with
     | some r,.eql=>.pure (.one r) []
     | some r,.neq=>.pure (.one (tC r)) []
     | _, _ => .fail "binOp: cells") else .fail "binOp: array"
    | _, _ => .fail "binOp: elements"
   | _ => .fail "binOp: aggregates"
  | _, _ => .fail "binOp"
 | .unOp op _ x=>match op,ρ x with
  | .not,.one a=>.pure (.one (tC a)) []
  | .neg,.one a=>.pure (.one (aFz a)) []
  | _, _ => .fail "unOp"
 | .convert src dst x=>match eW P src,eW P dst,ρ x with
  | some _,some (.int k),.one a=>.pure (.one (yB k a)) []
  | _, _, _ => .fail "convert"
 | .makeFunc fn first captured=>match fn,first.size with
  | .func f,0=>match oO tm hp captured.toList with
   | some ids=>.pure (.one (.fn f ids)) []
   | none => .fail "makeFunc"
  | _, _ => .fail "makeFunc"
 | .fieldAddr s x f=>match ρ x,eW P s with
  | .one (.ptr b off),some (.struct fields)=>match fields[f]? with
   | some fd=>match bO P fd.type with
    | some (_+1)=>.pure (.one (.ptr b (off+fd.offset))) []
    | _ => .fail "fieldAddr: size"
   | none => .fail "fieldAddr"
  | .one (.elem a i s j),some (.struct fields)=>match fields[f]? with
   | some fd=>match bO P fd.type with
    | some (_+1)=>.pure (.one (.elem a i s (j+fd.offset))) []
    | _ => .fail "fieldAddr: size"
   | none => .fail "fieldAddr"
  | _, _ => .fail "fieldAddr"
 | .field t x f=>match ρ x,eW P t with
  | .agg cs,some (.struct fields)=>match fields[f]? with
   | some fd=>match nW P fd.type cs fd.offset with
    | some v=>.pure v []
    | none => .fail "field"
   | none => .fail "field"
  | _, _ => .fail "field"
 | .makeInterface t x=>match ρ x,eW P t with
  | _, some (.interface _) => .fail "makeInterface"
  | .one c,some _=>.pure (.ifc t false [c]) []
  | .agg cs,some _=>.pure (.ifc t true cs) []
  | _, _ => .fail "makeInterface"
 | .buildSlice t len parts=>match eW P t with
  | some (.slice e)=>match kJ P e,bO P e with
   | some i,some size=>match i.zero with
    | some z=>match gR z with
     | some zc=>
      if len*size≤16777216∧len*size≠0∧zc.length≠0 then
       match vT (fun i=>some (i*size,size)) ((List.range (len*size)).map fun i=>(zc[i % zc.length]?).getD (.lit (.bool false))) (parts.toList.map fun p=>(p.1,ρ p.2)) with
       | some cs=>.alloc e cs (some len)
       | none => .fail "buildSlice"
      else .fail "buildSlice: size"
     | none => .fail "buildSlice"
    | none => .fail "buildSlice"
   | _, _ => .fail "buildSlice"
  | _ => .fail "buildSlice"
 | .indexAddr t x ix=>match ρ x,ρ ix,eW P t with
  | .one (.sl b off len _),.one (.lit (.int _ i)),some (.slice e)=>match bO P e with
   | some s => if 0 ≤ i ∧ i < len then .pure (.one (.ptr b (off + i.toNat * s))) [] else .fail "indexAddr: range"
   | none => .fail "indexAddr"
  | .one (.ptr b off),.one (.lit (.int _ i)),some (.array n e)=>match bO P e with
   | some s => if 0 ≤ i ∧ i < n then .pure (.one (.ptr b (off + i.toNat * s))) [] else .fail "indexAddr: range"
   | none => .fail "indexAddr"
  | .one (.ptr b off),.one i,some (.array n e)=>match bO P e with
   | some s=>.pure (.one (.elem (.sl b off n n) i s 0)) [lW i (.lit (.int .i64 n))]
   | none => .fail "indexAddr"
  | .one (.sl b off len c),.one i,some (.slice e)=>match bO P e with
   | some s=>.pure (.one (.elem (.sl b off len c) i s 0)) [lW i (.lit (.int .i64 len))]
   | none => .fail "indexAddr"
  | .one (.slc (.sl b off len c) (.lit (.int .u8 z)) h _),.one i,some (.slice e)=>match bO P e with
   | some s => if z = 0 then .pure (.one (.elem (.sl b off len c) i s 0)) [lW i h, lS h (.lit (.int .i64 len))] else .fail "indexAddr: part"
   | none => .fail "indexAddr"
  | .one a,.one i,some (.slice e)=>match bO P e with
   | some s=>.pure (.one (.elem a i s 0)) []
   | none => .fail "indexAddr"
  | _, _, _ => .fail "indexAddr"
 | .index t x ix=>match ρ x,ρ ix,eW P t with
  | .agg cs,.one (.lit (.int _ i)),some (.array n e)=>match bO P e with
   | some s=>if 0≤i∧i<n then
    match nW P e cs (i.toNat*s) with
    | some v=>.pure v []
    | none => .fail "index: part"
    else .fail "index: range"
   | none => .fail "index"
  | .one s,.one i,some .string=>.pure (.one (.byte s i)) [lW i (kO s)]
  | .agg cs,.one i,some (.array n e)=>match bO P e with
   | some s=>match tK P e cs 0 n s i 0 with
    | some cs=>.pure (.agg cs) [lW i (.lit (.int .i64 n))]
    | none => .fail "index: part by index"
   | none => .fail "index"
  | _, _, _ => .fail "index"
 | .slice t x lo hi mx=>match ρ x,eW P t,mx with
  | .one s,some .string,none=>
   let l:=match lo with
    | some l=>ρ l
    | none=>.one (.lit (.int .i64 0))
   let h:=match hi with
    | some h=>ρ h
    | none=>.one (kO s)
   match l,h with
   | .one l,.one h=>.pure (.one (.sub s l h)) [lS (.lit (.int .i64 0)) l,lS l h,lS h (kO s)]
   | _, _ => .fail "slice"
  | .one (.ptr b off),some (.array n e),none=>match lo,hi,bO P e with
   | some l,none,some s=>match ρ l with
    | .one (.lit (.int _ i)) => if 0 ≤ i ∧ i < n then .pure (.one (.sl b (off + i.toNat * s) (n - i.toNat) (n - i.toNat))) [] else .fail "slice: range"
    | _ => .fail "slice"
   | none,some h,some s=>match ρ h with
    | .one h=>.pure (.one (.slc (.sl b off n n) (.lit (.int .u8 0)) h s)) [lS (.lit (.int .i64 0)) h,lS h (.lit (.int .i64 n))]
    | _ => .fail "slice"
   | _, _, _ => .fail "slice"
  | .one a,some (.slice e),none=>
   let l:=match lo with
    | some l=>ρ l
    | none=>.one (.lit (.int .i64 0))
   let h:=match hi with
    | some h=>ρ h
    | none=>.one (kO a)
   match l,h,bO P e with
   | .one l, .one h, some s => if aDk l = true then .fail "slice" else .pure (.one (wG a l h s)) []
   | _, _, _ => .fail "slice"
  | _, _, _ => .fail "slice"
 | .extract x i=>match ρ x with
  | .tup vs=>match vs[i]? with
   | some (true,cs)=>.pure (.agg cs) []
   | some (false,[c])=>.pure (.one c) []
   | _ => .fail "extract"
  | _ => .fail "extract"
 | .call c=>match c.callee with
  | .builtin .len=>match c.args.toList,c.argTypes.toList with
   | [x],[t]=>match ρ x,eW P t with
    | .one (.sl _ _ n _),some (.slice _)=>.pure (.one (.lit (.int .i64 n))) []
    | .one (.slc (.sl _ _ _ _) (.lit (.int .u8 z)) h _), some (.slice _) => if z = 0 then .pure (.one h) [eZ 0 .leq (.lit (.int .i64 0)) h] else .fail "len: part"
    | .one a,some .string=>.pure (.one (kO a)) [.isSl true a]
    | .one a,some (.slice _)=>.pure (.one (kO a)) [.isSl false a]
    | _, _ => .fail "len"
   | _, _ => .fail "len"
  | .builtin .max=>match c.args.toList with
   | [x,y]=>match ρ x,ρ y with
    | .one a,.one b=>.pure (.one (fV (eZ 0 .lss a b) b a)) []
    | _, _ => .fail "max"
   | _ => .fail "max"
  | .builtin .min=>match c.args.toList with
   | [x,y]=>match ρ x,ρ y with
    | .one a,.one b=>.pure (.one (fV (eZ 0 .lss b a) b a)) []
    | _, _ => .fail "min"
   | _ => .fail "min"
  | .invoke r name=>match ρ r with
   | .ifc t ag cs=>match rJ P t name,ag,cs with
    | some g,true,cs=>lT P g (.agg cs :: c.args.toList.map ρ)
    | some g,false,[c']=>lT P g (.one c' :: c.args.toList.map ρ)
    | _, _, _ => .fail "invoke"
   | _ => .fail "invoke"
  | .value f=>match ρ f with
   | .one (.fn g caps)=>
    let args:=(c.args.toList.map ρ)++caps.map fun i=>.one (.var i)
    lT P g args
   | _ => .fail "call: value"
  | _ => .fail "call: builtin"
 | _ => .fail "op"
