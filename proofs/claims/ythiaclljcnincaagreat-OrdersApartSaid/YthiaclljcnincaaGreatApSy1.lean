/- A symbolic executor of the model's code: the definitions. -/
import Derived.WalkKit
import Derived.Orders
import Derived.LoopN
import Derived.Below
import Derived.KernelRfl
import Derived.Laws.Externs
namespace Go.Proofs.YthiaclljcnincaaGreat.Sy
open Go.RowKit
inductive LK where
 | bool
 | int (k:IntKind)
 | str
 | slice
 | any
 | seg (m:Nat)
 | row
 | map
 | flt (k:FloatKind)
 | cpx (k:FloatKind)
 | fam
 deriving DecidableEq,Repr,Inhabited
inductive SC where
 | var (i:Nat)
 | lit (v:Value)
 | ptr (b o:Nat)
 | sl (b o n c:Nat)
 | seg (i m:Nat)
 | fn (f:FuncId) (caps:List Nat)
 | fnb (f:FuncId) (b c:Nat)
 | bin (cl:Nat) (op:BinOp) (a b:SC)
 | not (a:SC)
 | neg (a:SC)
 | conv (k:IntKind) (a:SC)
 | len (a:SC)
 | idx (a n:SC)
 | le (a b:SC)
 | nz (a:SC)
 | fit (a b:SC)
 | isSl (st:Bool) (a:SC)
 | byte (s i:SC)
 | sub (s lo hi:SC)
 | pick (c a b:SC)
 | slr (v:Nat)
 | elem (a i:SC) (s j:Nat)
 | slc (a lo hi:SC) (s:Nat)
 | cap (a:SC)
 | psl (p o n c:Nat)
 | part (x N:Nat) (i:SC) (s j m:Nat)
 | upd (x N:Nat) (i:SC) (s j:Nat) (y:SC)
 | cat (a b:SC)
 | cel (x:Nat) (i:SC) (s:Nat) (k:LK)
 deriving Inhabited
inductive SV where
 | one (c:SC)
 | agg (cs:List SC)
 | tup (vs:List (Bool×List SC))
 | ifc (t:TypeId) (ag:Bool) (cs:List SC)
 | rw (v x:Nat)
 | rwnil
 | fm (v x:Nat)
 | top
 deriving Inhabited
structure Env where
 val:Nat→Option Value
 blk:Nat→Option Nat
 kd:Nat→Option LK
 mem:Addr→Option Value:=fun _=>none
def _root_.Go.Value.scalar:Value→Bool
 | .agg _=>false
 | .tuple _=>false
 | _=>true
def _root_.Go.Value.noWord:Value→Bool
 | .int .u64 _=>false
 | _=>true
def Seg (m:Nat) (cs:Array Value):Prop:=cs.size=m∧∀u∈cs.toList,u.scalar=true∧u.noWord=true
def RowC (cs:Array Value):Prop:=∀u∈cs.toList,u.scalar=true∧u.noWord=true
def FamC (ys:Array Value):Prop:=∀u∈ys.toList,∃cs:Array Value,u=.agg cs∧RowC cs
def LK.ok:LK→Value→Prop
 | .bool,v=>∃b,v=.bool b
 | .int k,v=>∃n,v=.int k n
 | .str,v=>∃s,v=.string s
 | .slice,v=>∃A n c,v=.slice A n c
 | .any,v=>v.scalar=true∧v.noWord=true
 | .seg m,v=>∃cs,v=.agg cs∧Seg m cs
 | .row,v=>∃cs,v=.agg cs∧RowC cs
 | .map,v=>∃b,v=.map (some b)
 | .flt k,v=>∃n,v=.float k n
 | .cpx k,v=>∃a b,v=.complex k a b
 | .fam,v=>∃ys,v=.agg ys∧FamC ys
def Env.Ok (ρ:Env):Prop:=∀i k v,ρ.kd i=some k→ρ.val i=some v→k.ok v
def aCp (k:FloatKind) (op:BinOp) (x y:Nat):Option Nat:=
 match op with
 | .add=>k.format.add x y
 | .sub=>k.format.sub x y
 | .mul=>k.format.mul x y
 | .quo=>k.format.div x y
 | _=>none
def f2f (k k':FloatKind) (x:Nat):Nat:=if k=k' then x else k'.encode (k.decode x)
def kH (k k':FloatKind) (x:Nat):Bool:=decide (k=k') || match k.decode x with
 | .nan _ _=>false
 | .infinity _=>true
 | .number s m e=>!(k'.decode (k'.encode (.number s m e))).isInfinity
def f2i (k:FloatKind) (x:Nat):Int:=((k.decode x).toInt .zero).getD 0
def aWk (k:FloatKind) (d:IntKind) (x:Nat):Bool:=match (k.decode x).toInt .zero with
 | some n=>decide (d.min≤n∧n≤d.max)
 | none=>false
def mO (cl:Nat) (op:BinOp) (a b:Value):Option Value:=
 match cl,a,b with
 | 3,.float k x,.float k' y=>if k=k' then
  match op with
  | .eql=>some (.bool (k.format.order x y == some .eq))
  | .neq=>some (.bool (k.format.order x y != some .eq))
  | .lss=>some (.bool (k.format.order x y == some .lt))
  | .leq=>some (.bool (k.format.order x y == some .lt || k.format.order x y == some .eq))
  | .gtr=>some (.bool (k.format.order x y == some .gt))
  | .geq=>some (.bool (k.format.order x y == some .gt || k.format.order x y == some .eq))
  | .add=>some (.float k ((aCp k .add x y).getD 0))
  | .sub=>some (.float k ((aCp k .sub x y).getD 0))
  | .mul=>some (.float k ((aCp k .mul x y).getD 0))
  | .quo=>some (.float k ((aCp k .quo x y).getD 0))
  | _=>none
  else none
 | 4,.float k x,.float _ y=>some (.bool (aCp k op x y).isSome)
 | 5,.int _ n,.float k _=>some (.float k (k.nearest n))
 | 6,.float k x,.float k' _=>some (.float k' (f2f k k' x))
 | 7,.float k x,.float k' _=>some (.bool (kH k k' x))
 | 8,.float k x,.int d _=>some (.int d (f2i k x))
 | 9,.float k x,.int d _=>some (.bool (aWk k d x))
 | 10,.float .f64 x,.int .u64 _=>some (.int .u64 x)
 | 10,.float .f32 x,.int .u32 _=>some (.int .u32 x)
 | 11,.int .u64 n,.float .f64 _=>some (.float .f64 n.toNat)
 | 11,.int .u32 n,.float .f32 _=>some (.float .f32 n.toNat)
 | 12,.float k x,.float k' y=>if k=k' then some (.complex k x y) else none
 | 13,.complex k x _,_=>some (.float k x)
 | 14,.complex k _ y,_=>some (.float k y)
 | 15,.complex k x y,.complex k' _ _=>some (.complex k' (f2f k k' x) (f2f k k' y))
 | 16,.complex k x y,.complex k' _ _=>some (.bool (kH k k' x && kH k k' y))
 | 17,.complex k x y,.complex k' z u=>if k=k' then
  match op with
  | .eql=>some (.bool (k.format.order x z == some .eq && k.format.order y u == some .eq))
  | .neq=>some (.bool (!(k.format.order x z == some .eq && k.format.order y u == some .eq)))
  | _=>none
  else none
 | 18,.slice a _ _,.slice none 0 0=>
  match op with
  | .eql=>some (.bool a.isNone)
  | .neq=>some (.bool !a.isNone)
  | _=>none
 | _,_,_=>none
def eL (cl:Nat) (op:BinOp) (a b:Value):Option Value:=
 match cl,a,b with
 | 0,.int k x,.int k' y=>
  match op with
  | .shl=>some (.int k (k.wrap (x*2^(min y.toNat k.bits))))
  | .shr=>some (.int k (x.fdiv (2^(min y.toNat k.bits))))
  | op=>if k=k' then
   match op with
   | .add=>some (.int k (k.wrap (x+y)))
   | .sub=>some (.int k (k.wrap (x-y)))
   | .mul=>some (.int k (k.wrap (x*y)))
   | .quo=>some (.int k (k.wrap (x.tdiv y)))
   | .rem=>some (.int k (x.tmod y))
   | .and=>some (.int k (k.wrap (BitVec.ofInt k.bits x &&& BitVec.ofInt k.bits y).toNat))
   | .or=>some (.int k (k.wrap (BitVec.ofInt k.bits x ||| BitVec.ofInt k.bits y).toNat))
   | .xor=>some (.int k (k.wrap (BitVec.ofInt k.bits x ^^^ BitVec.ofInt k.bits y).toNat))
   | .andNot=>some (.int k (k.wrap (BitVec.ofInt k.bits x &&& ~~~(BitVec.ofInt k.bits y)).toNat))
   | .eql=>some (.bool (x == y))
   | .neq=>some (.bool (x != y))
   | .lss=>some (.bool (x<y))
   | .leq=>some (.bool (x≤y))
   | .gtr=>some (.bool (x > y))
   | .geq=>some (.bool (x ≥ y))
   | _=>none
   else none
 | 1,.bool a,.bool b=>
  match op with
  | .eql=>some (.bool (a == b))
  | .neq=>some (.bool (!(a == b)))
  | _=>none
 | 2,.string a,.string b=>
  match op with
  | .add=>some (.string (a++b))
  | .eql=>some (.bool (a.toList == b.toList))
  | .neq=>some (.bool (!(a.toList == b.toList)))
  | .lss=>some (.bool (Op.bytesLess a.toList b.toList))
  | .leq=>some (.bool (Op.bytesLess a.toList b.toList || a.toList == b.toList))
  | .gtr=>some (.bool (!(Op.bytesLess a.toList b.toList || a.toList == b.toList)))
  | .geq=>some (.bool (!(Op.bytesLess a.toList b.toList)))
  | _=>none
 | cl,a,b=>mO cl op a b
def aDc:Value→Option Value
 | .bool b=>some (.bool (!b))
 | _=>none
def aNj:Value→Option Value
 | .int k x=>some (.int k (k.wrap (0-x)))
 | .float k x=>some (.float k (Op.negFloat k x))
 | _=>none
def zQ (k:IntKind):Value→Option Value
 | .int _ x=>some (.int k (k.wrap x))
 | _=>none
def oA:Value→Option Value
 | .slice _ n _=>some (.int .i64 n)
 | .string s=>some (.int .i64 s.size)
 | _=>none
def tJ:Value→Value→Option Value
 | .int _ i,.int _ n=>some (.bool (decide (0≤i∧i<n)))
 | _,_=>none
def leD:Value→Value→Option Value
 | .int _ i,.int _ n=>some (.bool (decide (i≤n)))
 | _,_=>none
def nzD:Value→Option Value
 | .int _ i=>some (.bool (decide (i≠0)))
 | _=>none
def aTk:Value→Value→Option Value
 | .string a,.string b=>some (.bool (decide (((a.size+b.size:Nat):Int)≤9223372036854775807)))
 | _,_=>none
def aAi:Bool→Value→Option Value
 | false,.slice _ _ _=>some (.bool true)
 | true,.string _=>some (.bool true)
 | _,_=>none
def aEw:Value→Value→Option Value
 | .string s,.int _ i=>some (.int .u8 ((s[i.toNat]?).getD 0).toNat)
 | _,_=>none
def aVl:Value→Value→Value→Option Value
 | .string s,.int _ lo,.int _ hi=>some (.string (s.extract lo.toNat hi.toNat))
 | _,_,_=>none
def aOb:Value→Value→Value→Option Value
 | .bool c,.int k x,.int k' y=>if k=k' then some (.int k (if c then x else y)) else some (if c then .int k x else .int k' y)
 | .bool c,.bool x,.bool y=>some (.bool (if c then x else y))
 | .bool c,a,b=>some (if c then a else b)
 | _,_,_=>none
theorem oJ {z x y v:Value}(h:aOb z x y=some v):∃c,z=.bool c∧v=if c then x else y:=by
 unfold aOb at h;split at h
 ·rename_i c k x k' y;split at h
  ·rename_i hk;subst hk;injection h with h;exact⟨c,rfl,by rw [←h];cases c <;> rfl⟩
  ·injection h with h;exact⟨c,rfl,h.symm⟩
 ·rename_i c x y;injection h with h;exact⟨_,rfl,by rw [←h];cases c <;> rfl⟩
 ·injection h with h;exact⟨_,rfl,h.symm⟩
 ·cases h
def kG (s j:Nat):Value→Value→Option Value
 | .slice (some ⟨b,o,none⟩) n _,.int _ i=>if 0≤i∧i<n then some (.pointer (some ⟨b,o+i.toNat*s+j,none⟩)) else none
 | _,_=>none
def flat:Option Value→Option Value
 | some (.agg _)=>none
 | some (.tuple _)=>none
 | x=>x
def slcD (s:Nat):Value→Value→Value→Option Value
 | .slice A _ c,.int _ lo,.int _ hi=>if 0≤lo∧lo≤hi∧hi≤c then some (.slice (if c=lo.toNat then A else A.map fun a=>a.add (lo.toNat*s)) (hi.toNat-lo.toNat) (c-lo.toNat)) else none
 | _,_,_=>none
def aXv:Value→Option Value
 | .slice _ _ c=>some (.int .i64 c)
 | _=>none
def kJ (ρ:Env):List Nat→Option (List Value)
 | []=>some []
 | i :: is=>match ρ.val i,kJ ρ is with
  | some v,some vs=>some (v :: vs)
  | _,_=>none
def aCd (vs:Array Value) (p:Nat):Option Value:=match vs[p]? with
 | some (.agg _)=>none
 | some (.tuple _)=>none
 | x=>x
def SC.den (ρ:Env):SC→Option Value
 | .var i=>match ρ.val i with
  | some (.agg _)=>none
  | some (.tuple _)=>none
  | x=>x
 | .lit v=>some v
 | .ptr b o=>match ρ.blk b with
  | some n=>some (.pointer (some ⟨n,o,none⟩))
  | none=>none
 | .sl b o n c=>match ρ.blk b with
  | some m=>some (.slice (some ⟨m,o,none⟩) n c)
  | none=>none
 | .seg _ _=>none
 | .fn f caps=>match kJ ρ caps with
  | some vs=>some (.func (.func f) #[] vs.toArray)
  | none=>none
 | .fnb f b c=>match ρ.blk b,ρ.blk c with
  | some n,some m=>some (.func (.func f) #[] #[.pointer (some ⟨n,0,none⟩),.pointer (some ⟨m,0,none⟩)])
  | _,_=>none
 | .bin cl op a b=>match a.den ρ,b.den ρ with
  | some x,some y=>eL cl op x y
  | _,_=>none
 | .not a=>(a.den ρ).bind aDc
 | .neg a=>(a.den ρ).bind aNj
 | .conv k a=>(a.den ρ).bind (zQ k)
 | .len a=>(a.den ρ).bind oA
 | .idx a b=>match a.den ρ,b.den ρ with
  | some x,some y=>tJ x y
  | _,_=>none
 | .le a b=>match a.den ρ,b.den ρ with
  | some x,some y=>leD x y
  | _,_=>none
 | .nz a=>(a.den ρ).bind nzD
 | .fit a b=>match a.den ρ,b.den ρ with
  | some x,some y=>aTk x y
  | _,_=>none
 | .isSl st a=>(a.den ρ).bind (aAi st)
 | .byte a b=>match a.den ρ,b.den ρ with
  | some x,some y=>aEw x y
  | _,_=>none
 | .sub a b c=>match a.den ρ,b.den ρ,c.den ρ with
  | some x,some y,some z=>aVl x y z
  | _,_,_=>none
 | .pick c a b=>match c.den ρ,a.den ρ,b.den ρ with
  | some x,some y,some z=>aOb x y z
  | _,_,_=>none
 | .slr i=>match ρ.val i with
  | some (.agg _)=>none
  | some (.tuple _)=>none
  | x=>x
 | .elem a i s j=>match a.den ρ,i.den ρ with
  | some x,some y=>kG s j x y
  | _,_=>none
 | .slc a lo hi s=>match a.den ρ,lo.den ρ,hi.den ρ with
  | some x,some y,some z=>slcD s x y z
  | _,_,_=>none
 | .cap a=>(a.den ρ).bind aXv
 | .psl p o n c=>match ρ.val p with
  | some (.pointer (some ⟨b,0,none⟩))=>some (.slice (some ⟨b,o,none⟩) n c)
  | _=>none
 | .part _ _ _ _ _ _=>none
 | .upd _ _ _ _ _ _=>none
 | .cat _ _=>none
 | .cel x i s _=>match ρ.val x,i.den ρ with
  | some (.agg vs),some (.int _ I)=>aCd vs (I.toNat*s)
  | _,_=>none
def SC.width:SC→Nat
 | .seg _ m=>m
 | .part _ _ _ _ _ m=>m
 | .upd _ N _ _ _ _=>N
 | .cat a b=>a.width+b.width
 | _=>1
def widths:List SC→Nat
 | []=>0
 | c :: cs=>c.width+widths cs
def SC.scalar:SC→Bool
 | .lit v=>v.scalar
 | .seg _ _=>false
 | .part _ _ _ _ _ _=>false
 | .upd _ _ _ _ _ _=>false
 | .cat _ _=>false
 | .pick _ a b=>a.scalar && b.scalar
 | _=>true
def over (cs:Array Value) (o:Nat):List Value→Array Value
 | []=>cs
 | v :: l=>over (cs.setIfInBounds o v) (o+1) l
def pickL (xs:Array Value) (p m:Nat):List Value:=(List.range m).map fun q=>(xs[p+q]?).getD (.bool false)
def aDh:Option Value→Option (List Value)
 | some v=>if v.scalar && v.noWord then some [v] else none
 | none=>none
def SC.isRun:SC→Bool
 | .part _ _ _ _ _ _=>true
 | .upd _ _ _ _ _ _=>true
 | _=>false
def eJ (ρ:Env):SC→Option (List Value)
 | .part x N i s j m=>match ρ.val x,ρ.kd x,i.den ρ with
  | some (.agg vs),some (.seg k),some (.int _ I)=>if k=N then some (pickL vs (I.toNat*s+j) m) else none
  | _,_,_=>none
 | .upd x N i s j y=>match ρ.val x,ρ.kd x,i.den ρ,eJ ρ y with
  | some (.agg vs),some (.seg k),some (.int _ I),some us=>if k=N then some (over vs (I.toNat*s+j) us).toList else none
  | _,_,_,_=>none
 | .seg x m=>match ρ.val x,ρ.kd x with
  | some (.agg vs),some (.seg k)=>if k=m then some vs.toList else none
  | _,_=>none
 | .cat a b=>match eJ ρ a,eJ ρ b with
  | some u,some v=>some (u++v)
  | _,_=>none
 | c=>aDh (c.den ρ)
def aC (ρ:Env):List SC→Option (List Value)
 | []=>some []
 | .seg i m :: cs=>match ρ.val i,ρ.kd i,aC ρ cs with
  | some (.agg vs),some (.seg k),some us=>if k=m then some (vs.toList++us) else none
  | _,_,_=>none
 | .part x N i s j m :: cs=>match eJ ρ (.part x N i s j m),aC ρ cs with
  | some l,some us=>some (l++us)
  | _,_=>none
 | .upd x N i s j y :: cs=>match eJ ρ (.upd x N i s j y),aC ρ cs with
  | some l,some us=>some (l++us)
  | _,_=>none
 | c :: cs=>if c.scalar then
  match c.den ρ,aC ρ cs with
  | some v,some us=>some (v :: us)
  | _,_=>none
  else none
def zB (ρ:Env):List SC→Option Value
 | [.seg i m]=>match ρ.val i,ρ.kd i with
  | some (.agg vs),some (.seg k)=>if k=m then some (.agg vs) else none
  | _,_=>none
 | [.part x N i s j m]=>match eJ ρ (.part x N i s j m) with
  | some l=>some (.agg l.toArray)
  | none=>none
 | [.upd x N i s j y]=>match eJ ρ (.upd x N i s j y) with
  | some l=>some (.agg l.toArray)
  | none=>none
 | cs=>match aC ρ cs with
  | some vs=>some (.agg vs.toArray)
  | none=>none
theorem bU (ρ:Env) (cs:List SC):zB ρ cs=match aC ρ cs with
 | some vs=>some (.agg vs.toArray)
 | none=>none:=by
 unfold zB;split
 ·rename_i i m;simp only [aC];split
  ·rename_i vs k h1 h2;simp only [h1,h2];split <;> simp
  ·rename_i hne;split
   ·rename_i us hus;split at hus
    ·rename_i vs k us' g1 g2 g3;exact absurd g2 (hne vs k g1)
    ·cases hus
   ·rfl
 ·simp only [aC];generalize eJ ρ _=z;cases z <;> simp
 ·simp only [aC];generalize eJ ρ _=z;cases z <;> simp
 ·rfl
def iH (ρ:Env):Bool×List SC→Option Value
 | (true,cs)=>zB ρ cs
 | (false,[c])=>c.den ρ
 | _=>none
def iI (ρ:Env):List (Bool×List SC)→Option (List Value)
 | []=>some []
 | p :: ps=>match iH ρ p,iI ρ ps with
  | some v,some vs=>some (v :: vs)
  | _,_=>none
def SV.den (ρ:Env):SV→Option Value
 | .one c=>c.den ρ
 | .agg cs=>zB ρ cs
 | .tup vs=>match iI ρ vs with
  | some us=>some (.tuple us.toArray)
  | none=>none
 | .ifc t ag cs=>match iH ρ (ag,cs) with
  | some v=>some (.iface t v)
  | none=>none
 | .rw v x=>match ρ.val v,ρ.kd v,ρ.val x,ρ.kd x with
  | some (.slice A n c),some .slice,some (.agg xs),some .row=>some (.tuple #[.slice A n c,.agg xs])
  | _,_,_,_=>none
 | .rwnil=>some (.tuple #[.slice none 0 0,.agg #[]])
 | .fm v x=>match ρ.val v,ρ.kd v,ρ.val x,ρ.kd x with
  | some (.agg vs),some .row,some (.agg xs),some .fam=>some (.tuple #[.agg vs,.agg xs])
  | _,_,_,_=>none
 | .top=>none
