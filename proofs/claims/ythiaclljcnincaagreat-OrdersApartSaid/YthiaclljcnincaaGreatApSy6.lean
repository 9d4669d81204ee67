/- A symbolic executor of the model's code: what is known, trees of calls. -/
import Derived.Test.YthiaclljcnincaaGreatApSy5
namespace Go.Proofs.YthiaclljcnincaaGreat.Sy
open Go.RowKit
def dead:Obj:=.cells #[] 0 (1,0)
structure Sees (k w:World):Prop where
 os:w.os=k.os
 tape:w.tape=k.tape
 output:w.output=k.output
 size:w.heap.size=k.heap.size
 live:∀(g:Nat) (o:Obj),k.heap[g]?=some o→o≠dead→w.heap[g]?=some o
 dark:∀(g:Nat),k.heap[g]?=some dead→∃cs t fr,w.heap[g]?=some (.cells cs t fr)∧∀u∈cs.toList,u.noWord=true
theorem Sees.refl (w:World):Sees w w:=
 ⟨rfl,rfl,rfl,rfl,fun _ _ h _=>h,fun _ h=>⟨_,_,_,h,by simp⟩⟩
structure Up (k k':World):Prop where
 os:k'.os=k.os
 tape:k'.tape=k.tape
 output:k'.output=k.output
 size:k.heap.size≤k'.heap.size
 live:∀(g:Nat) (o:Obj),k.heap[g]?=some o→o≠dead→k'.heap[g]?=some o
theorem Up.refl (k:World):Up k k:=⟨rfl,rfl,rfl,oy _,fun _ _ h _=>h⟩
theorem Up.trans {a b c:World}(h:Up a b) (h':Up b c):Up a c:=
 ⟨h'.os.trans h.os,h'.tape.trans h.tape,h'.output.trans h.output,qr h.size h'.size,fun g o hg hd=>h'.live g o (h.live g o hg hd) hd⟩
theorem heap_lt {k:World}{g:Nat}{o:Obj}(h:k.heap[g]?=some o):g<k.heap.size:=by
 grind
theorem Up.of_below {a b:World}(h:Below a.heap.size a b):Up a b:=
 ⟨h.os,h.tape,h.output,h.size,fun g _o hg _=>(h.block g (heap_lt hg)).trans hg⟩
theorem Up.cell {k k':World}(h:Up k k') {a:Addr}{v:Value}(hc:k.cell? a=some v):k'.cell? a=some v:=by
 unfold World.cell? at hc ⊢;split at hc
 ·rename_i c t fr hg;have hne:Obj.cells c t fr≠dead:=by
   grind [dead]
  rw [h.live _ _ hg hne];exact hc
 ·cases hc
theorem Sees.cell {k w:World}(h:Sees k w) {a:Addr}{v:Value}(hc:k.cell? a=some v):w.cell? a=some v:=by
 unfold World.cell? at hc ⊢;split at hc
 ·rename_i c t fr hg;have hne:Obj.cells c t fr≠dead:=by
   grind [dead]
  rw [h.live _ _ hg hne];exact hc
 ·cases hc
theorem aKz {k w k' w':World}(s:Sees k w) (s':Sees k' w') (b:Below w.heap.size w w'):∃kp,Sees kp w'∧Below k.heap.size k kp:=by
 have e1:=s.size;have e2:=s'.size;have e3:=b.size;have hlt (g:Nat) (hg:g<k.heap.size):(k.heap++k'.heap.extract k.heap.size k'.heap.size)[g]?=k.heap[g]?:=vo hg;have hge (g:Nat) (hg:k.heap.size≤g):(k.heap++k'.heap.extract k.heap.size k'.heap.size)[g]?=k'.heap[g]?:=by
  grind
 refine⟨{ k' with heap:=k.heap++k'.heap.extract k.heap.size k'.heap.size },⟨s'.os,s'.tape,s'.output,?_,fun g o h hd=>?_,fun g h=>?_⟩,s'.os.symm.trans (b.os.trans s.os),s'.tape.symm.trans (b.tape.trans s.tape),s'.output.symm.trans (b.output.trans s.output),?_,hlt⟩
 ·simp;omega
 ·rcases zb g k.heap.size with hg|hg
  ·exact (b.block g oq).trans (s.live g o ((hlt g hg).symm.trans h) hd)
  ·exact s'.live g o ((hge g hg).symm.trans h) hd
 ·rcases zb g k.heap.size with hg|hg
  ·rw [b.block g oq];exact s.dark g ((hlt g hg).symm.trans h)
  ·exact s'.dark g ((hge g hg).symm.trans h)
 ·simp
def CallsG (P:Program) (f:FuncId) (args:Array Value) (k:World) (R:World→Value→Prop):Prop:=
 ∀w,Sees k w→Calls P f args w fun e w'=>∃v k',e=.returned v∧Sees k' w'∧Below k.heap.size k k'∧Below w.heap.size w w'∧R k' v
theorem CallsG.mono {P:Program}{f:FuncId}{args:Array Value}{k:World}{R R':World→Value→Prop}(h:CallsG P f args k R) (hr:∀k' v,Below k.heap.size k k'→R k' v→R' k' v):CallsG P f args k R':=
 fun w hw=>(h w hw).mono fun _ _ ⟨v,k',e,h1,h2,h3,h4⟩=>⟨v,k',e,h1,h2,h3,hr _ _ h2 h4⟩
def Env.ext (ρ:Env) (lo:Nat) (lks:List LK) (vs:List Value):Env:=
 { val:=fun i=>if i<lo then ρ.val i else vs[i-lo]?
   blk:=ρ.blk
   kd:=fun i=>if i<lo then ρ.kd i else lks[i-lo]?
   mem:=ρ.mem }
def Env.at (ν:Env) (k:World):Env:={ ν with mem:=k.cell? }
def Env.bare (ρ:Env):Env:={ ρ with blk:=fun _=>none }
def exL:List LK→(List Value→Prop)→Prop
 | [],φ=>φ []
 | .bool :: l,φ=>∃b:Bool,exL l fun vs=>φ (.bool b :: vs)
 | .int k :: l,φ=>∃n:Int,exL l fun vs=>φ (.int k n :: vs)
 | .str :: l,φ=>∃s:ByteArray,exL l fun vs=>φ (.string s :: vs)
 | .slice :: l,φ=>∃(A:Option Addr) (n c:Nat),exL l fun vs=>φ (.slice A n c :: vs)
 | .any :: l,φ=>∃v:Value,(v.scalar=true∧v.noWord=true)∧exL l fun vs=>φ (v :: vs)
 | .seg m :: l,φ=>∃cs:Array Value,Seg m cs∧exL l fun vs=>φ (.agg cs :: vs)
 | .row :: l,φ=>∃cs:Array Value,RowC cs∧exL l fun vs=>φ (.agg cs :: vs)
 | .map :: l,φ=>∃b:Nat,exL l fun vs=>φ (.map (some b) :: vs)
 | .flt k :: l,φ=>∃n:Nat,exL l fun vs=>φ (.float k n :: vs)
 | .cpx k :: l,φ=>∃a b:Nat,exL l fun vs=>φ (.complex k a b :: vs)
 | .fam :: l,φ=>∃ys:Array Value,FamC ys∧exL l fun vs=>φ (.agg ys :: vs)
def fitsL:List LK→List Value→Prop
 | [],[]=>True
 | k :: l,v :: vs=>k.ok v∧fitsL l vs
 | _,_=>False
theorem aR:∀ {l:List LK}{φ:List Value→Prop},exL l φ→∃vs,fitsL l vs∧φ vs
 | [],_φ,h=>⟨[],trivial,h⟩
 | .bool :: _l,_φ,⟨b,h⟩=>let ⟨vs,h1,h2⟩:=aR h;⟨.bool b :: vs,⟨⟨b,rfl⟩,h1⟩,h2⟩
 | .int k :: _l,_φ,⟨b,h⟩=>let ⟨vs,h1,h2⟩:=aR h;⟨.int k b :: vs,⟨⟨b,rfl⟩,h1⟩,h2⟩
 | .str :: _l,_φ,⟨b,h⟩=>let ⟨vs,h1,h2⟩:=aR h;⟨.string b :: vs,⟨⟨b,rfl⟩,h1⟩,h2⟩
 | .slice :: _l,_φ,⟨A,n,c,h⟩=>let ⟨vs,h1,h2⟩:=aR h;⟨.slice A n c :: vs,⟨⟨A,n,c,rfl⟩,h1⟩,h2⟩
 | .any :: _l,_φ,⟨v,hv,h⟩=>let ⟨vs,h1,h2⟩:=aR h;⟨v :: vs,⟨hv,h1⟩,h2⟩
 | .seg _m :: _l,_φ,⟨v,hv,h⟩=>let ⟨vs,h1,h2⟩:=aR h;⟨.agg v :: vs,⟨⟨v,rfl,hv⟩,h1⟩,h2⟩
 | .row :: _l,_φ,⟨v,hv,h⟩=>let ⟨vs,h1,h2⟩:=aR h;⟨.agg v :: vs,⟨⟨v,rfl,hv⟩,h1⟩,h2⟩
 | .map :: _l,_φ,⟨b,h⟩=>let ⟨vs,h1,h2⟩:=aR h;⟨.map (some b) :: vs,⟨⟨b,rfl⟩,h1⟩,h2⟩
 | .flt k :: _l,_φ,⟨b,h⟩=>let ⟨vs,h1,h2⟩:=aR h;⟨.float k b :: vs,⟨⟨b,rfl⟩,h1⟩,h2⟩
 | .cpx k :: _l,_φ,⟨a,b,h⟩=>let ⟨vs,h1,h2⟩:=aR h;⟨.complex k a b :: vs,⟨⟨a,b,rfl⟩,h1⟩,h2⟩
 | .fam :: _l,_φ,⟨v,hv,h⟩=>let ⟨vs,h1,h2⟩:=aR h;⟨.agg v :: vs,⟨⟨v,rfl,hv⟩,h1⟩,h2⟩
theorem bE:∀ {l:List LK}{φ ψ:List Value→Prop},exL l φ→(∀vs,φ vs→ψ vs)→exL l ψ
 | [],_φ,_ψ,h,hi=>hi _ h
 | .bool :: _l,_φ,_ψ,⟨b,h⟩,hi=>⟨b,bE h fun _ h=>hi _ h⟩
 | .int _k :: _l,_φ,_ψ,⟨b,h⟩,hi=>⟨b,bE h fun _ h=>hi _ h⟩
 | .str :: _l,_φ,_ψ,⟨b,h⟩,hi=>⟨b,bE h fun _ h=>hi _ h⟩
 | .slice :: _l,_φ,_ψ,⟨A,n,c,h⟩,hi=>⟨A,n,c,bE h fun _ h=>hi _ h⟩
 | .any :: _l,_φ,_ψ,⟨v,hv,h⟩,hi=>⟨v,hv,bE h fun _ h=>hi _ h⟩
 | .seg _m :: _l,_φ,_ψ,⟨v,hv,h⟩,hi=>⟨v,hv,bE h fun _ h=>hi _ h⟩
 | .row :: _l,_φ,_ψ,⟨v,hv,h⟩,hi=>⟨v,hv,bE h fun _ h=>hi _ h⟩
 | .map :: _l,_φ,_ψ,⟨b,h⟩,hi=>⟨b,bE h fun _ h=>hi _ h⟩
 | .flt _k :: _l,_φ,_ψ,⟨b,h⟩,hi=>⟨b,bE h fun _ h=>hi _ h⟩
 | .cpx _k :: _l,_φ,_ψ,⟨a,b,h⟩,hi=>⟨a,b,bE h fun _ h=>hi _ h⟩
 | .fam :: _l,_φ,_ψ,⟨v,hv,h⟩,hi=>⟨v,hv,bE h fun _ h=>hi _ h⟩
theorem bZ:∀ {l:List LK}{vs:List Value},fitsL l vs→vs.length=l.length∧∀(i:Nat) k v,l[i]?=some k→vs[i]?=some v→k.ok v
 | [],[],_=>⟨rfl,fun i k v h=>by simp at h⟩
 | k :: l,v :: vs,h=>by
  obtain⟨i1,i2⟩:=bZ h.2;refine⟨by simp [i1],fun i k' v' h1 h2=>?_⟩;cases i with
  | zero=>simp at h1 h2;subst h1 h2;exact h.1
  | succ i=>grind
inductive RC where
 | var (x:Nat)
 | cells (cs:List SC)
 deriving Inhabited
def sT (ρ:Env):RC→Option (List Value)
 | .var x=>match ρ.val x,ρ.kd x with
  | some (.agg xs),some .row=>some xs.toList
  | _,_=>none
 | .cells cs=>aC ρ cs
def cellAt (mem:Addr→Option Value) (A:Option Addr) (p:Nat):Option Value:=match A with
 | some ⟨b,o,none⟩=>flat (mem ⟨b,o+p,none⟩)
 | _=>none
def RowAt (k:World) (A:Option Addr) (xs:Array Value):Prop:=∀(p:Nat) u,xs[p]?=some u→∃b,A=some ⟨b,0,none⟩∧b<k.heap.size∧k.cell? ⟨b,p,none⟩=some u
def ReadAt (mem:Addr→Option Value) (A:Option Addr) (p m:Nat) (x:Value):Prop:=x.cells.size=m∧∀(q:Nat) u,x.cells[q]?=some u→cellAt mem A (p+q)=some u
def ReadIn (xs:Array Value) (p m:Nat) (x:Value):Prop:=x.cells.size=m∧∀(q:Nat) u,x.cells[q]?=some u→xs[p+q]?=some u
structure Gift (base:Nat) (k w:World) (ty:TypeId) (s:Nat) (A:Option Addr) (n c:Nat) (xs:Array Value):Prop where
 size:xs.size=n*s
 cap:n≤c
 rc:RowC xs
 own:(A=none∧c=0)∨∃g cs,A=some ⟨g,0,none⟩∧base≤g∧Blk w g ty cs∧cs.size=c*s∧(∀(p:Nat) u,xs[p]?=some u→cs[p]?=some u)∧(∀u∈cs.toList,u.noWord=true)∧k.heap[g]?=some dead
def CallsR (P:Program) (f:FuncId) (args:Array Value) (k:World) (ty:TypeId) (s:Nat) (R:World→Value→Prop):Prop:=
 ∀w,Sees k w→Calls P f args w fun e w'=>∃A n c xs k',e=.returned (.slice A n c)∧Sees k' w'∧Below k.heap.size k k'∧Below w.heap.size w w'∧Gift k.heap.size k' w' ty s A n c xs∧R k' (.tuple #[.slice A n c,.agg xs])
theorem CallsR.mono {P:Program}{f:FuncId}{args:Array Value}{k:World}{ty:TypeId}{s:Nat}{R R':World→Value→Prop}(h:CallsR P f args k ty s R) (hr:∀k' v,Below k.heap.size k k'→R k' v→R' k' v):CallsR P f args k ty s R':=
 fun w hw=>(h w hw).mono fun _ _ ⟨A,n,c,xs,k',e,h1,h2,h3,h4,h5⟩=>⟨A,n,c,xs,k',e,h1,h2,h3,h4,hr _ _ h2 h5⟩
def Apart (A B:Option Addr):Prop:=∀a b,A=some a→B=some b→a.block≠b.block
def aAf (d:Bool) (v:Value):Value:=match d with
 | false=>v
 | true=>.tuple #[v,.int .i64 0]
def qG (d:Bool) (cs:List SC):SV:=match d with
 | false=>.agg cs
 | true=>.tup [(true,cs),(false,[.lit (.int .i64 0)])]
theorem vK {ρ:Env}{cs:List SC}{v:Value}(h:(SV.agg cs).den ρ=some v):∀d:Bool,(qG d cs).den ρ=some (aAf d v)
 | false=>h
 | true=>by
  simp_all [qG,aAf,SV.den,iI,iH,SC.den]
def CallsR3D (P:Program) (f:FuncId) (args:Array Value) (k:World) (ty:TypeId) (s:Nat) (d:Bool) (R:World→Value→Prop):Prop:=
 ∀w,Sees k w→Calls P f args w fun e w'=>∃A n c xs A' n' c' xs' A'' n'' c'' xs'' k',e=.returned (aAf d (.agg #[.slice A n c,.slice A' n' c',.slice A'' n'' c'']))∧Sees k' w'∧Below k.heap.size k k'∧Below w.heap.size w w'∧
  Gift k.heap.size k' w' ty s A n c xs∧Gift k.heap.size k' w' ty s A' n' c' xs'∧Gift k.heap.size k' w' ty s A'' n'' c'' xs''∧(Apart A A'∧Apart A A''∧Apart A' A'')∧
  R k' (.tuple #[.slice A n c,.agg xs,.slice A' n' c',.agg xs',.slice A'' n'' c'',.agg xs''])
theorem CallsR3D.mono {P:Program}{f:FuncId}{args:Array Value}{k:World}{ty:TypeId}{s:Nat}{d:Bool}{R R':World→Value→Prop}(h:CallsR3D P f args k ty s d R) (hr:∀k' v,Below k.heap.size k k'→R k' v→R' k' v):CallsR3D P f args k ty s d R':=
 fun w hw=>(h w hw).mono fun _ _ ⟨A,n,c,xs,A',n',c',xs',A'',n'',c'',xs'',k',e,h1,h2,h3,h4,h5,h6,h7,h8⟩=>⟨A,n,c,xs,A',n',c',xs',A'',n'',c'',xs'',k',e,h1,h2,h3,h4,h5,h6,h7,hr _ _ h2 h8⟩
def bAw (P:Program) (f:FuncId) (args:Array Value) (k:World) (ty:TypeId) (s:Nat) (R:World→Value→Prop):Prop:=CallsR3D P f args k ty s false R
def aZk (P:Program) (f:FuncId) (args:Array Value) (k:World) (ty:TypeId) (s:Nat) (R:World→Value→Prop):Prop:=CallsR3D P f args k ty s true R
structure GiftF (base:Nat) (k w:World) (u:TypeId) (us:Nat) (A:Option Addr) (vs xs:Array Value):Prop where
 rc:RowC vs
 fc:FamC xs
 size:vs.size=xs.size
 one:∀(j:Nat) v,vs[j]?=some v→∃B n c cs,v=.slice B n c∧xs[j]?=some (.agg cs)∧Gift base k w u us B n c cs
 inj:∀(j j':Nat) a a' n n' c c',vs[j]?=some (.slice (some a) n c)→vs[j']?=some (.slice (some a') n' c')→a.block=a'.block→j=j'
 far:∀(j:Nat) a n c,vs[j]?=some (.slice (some a) n c)→∀g,A=some g→g.block≠a.block
def CallsRF (P:Program) (f:FuncId) (args:Array Value) (k:World) (ty:TypeId) (s:Nat) (u:TypeId) (us:Nat) (R:World→Value→Prop):Prop:=
 ∀w,Sees k w→Calls P f args w fun e w'=>∃A n c cs vs xs k',e=.returned (.slice A n c)∧Sees k' w'∧Below k.heap.size k k'∧Below w.heap.size w w'∧Gift k.heap.size k' w' ty s A n c cs∧GiftF k.heap.size k' w' u us A vs xs∧
  R k' (.tuple #[.slice A n c,.agg cs,.agg vs,.agg xs])
theorem CallsRF.mono {P:Program}{f:FuncId}{args:Array Value}{k:World}{ty:TypeId}{s:Nat}{u:TypeId}{us:Nat}{R R':World→Value→Prop}(h:CallsRF P f args k ty s u us R) (hr:∀k' v,Below k.heap.size k k'→R k' v→R' k' v):CallsRF P f args k ty s u us R':=
 fun w hw=>(h w hw).mono fun _ _ ⟨A,n,c,cs,vs,xs,k',e,h1,h2,h3,h4,h5,h6⟩=>⟨A,n,c,cs,vs,xs,k',e,h1,h2,h3,h4,h5,hr _ _ h2 h6⟩
structure Rewr (n m:Nat) (w w':World):Prop where
 os:w'.os=w.os
 tape:w'.tape=w.tape
 output:w'.output=w.output
 size:w.heap.size≤w'.heap.size
 block:∀g,g<w.heap.size→g≠n→g≠m→w'.heap[g]?=w.heap[g]?
def CallsB (P:Program) (f:FuncId) (args:List Value) (k:World) (ty ty':TypeId) (cs cs':Array Value) (R:World→Array Value→Array Value→Prop):Prop:=
 ∀w n m,Sees k w→n≠m→k.heap[n]?=some dead→k.heap[m]?=some dead→Blk w n ty cs→Blk w m ty' cs'→
  Calls P f (args++[Value.pointer (some ⟨n,0,none⟩),Value.pointer (some ⟨m,0,none⟩)]).toArray w fun e w'=>∃ds ds' k',e=.returned (.tuple #[])∧Sees k' w'∧Below k.heap.size k k'∧Rewr n m w w'∧Blk w' n ty ds∧Blk w' m ty' ds'∧Seg cs.size ds∧Seg cs'.size ds'∧R k' ds ds'
theorem CallsB.mono {P:Program}{f:FuncId}{args:List Value}{k:World}{ty ty':TypeId}{cs cs':Array Value}{R R':World→Array Value→Array Value→Prop}(h:CallsB P f args k ty ty' cs cs' R) (hr:∀k' d d',Below k.heap.size k k'→R k' d d'→R' k' d d'):CallsB P f args k ty ty' cs cs' R':=
 fun w n m hw h1 h2 h3 h4 h5=>(h w n m hw h1 h2 h3 h4 h5).mono fun _ _ ⟨d,d',k',e,g1,g2,g3,g4,g5,g6,g7,g8⟩=>⟨d,d',k',e,g1,g2,g3,g4,g5,g6,g7,hr _ _ _ g2 g8⟩
def LookAt (P:Program) (k:World) (t:TypeId) (b:Nat) (key x:Value):Prop:=∃es clock,k.heap[b]?=some (.map es clock)∧∀w:World,w.heap[b]?=some (.map es clock)→(Instr.lookup t (.map (some b)) key false).run P w=.ok x w
theorem LookAt.up {P:Program}{k k':World}{t:TypeId}{b:Nat}{key x:Value}(h:LookAt P k t b key x) (u:Up k k'):LookAt P k' t b key x:=by
 obtain⟨es,clock,h1,h2⟩:=h;exact⟨es,clock,u.live _ _ h1 (fun e=>by cases e),h2⟩
theorem LookAt.run {P:Program}{k w:World}{t:TypeId}{b:Nat}{key x:Value}(h:LookAt P k t b key x) (u:Sees k w):(Instr.lookup t (.map (some b)) key false).run P w=.ok x w:=by
 obtain⟨es,clock,h1,h2⟩:=h;exact h2 w (u.live _ _ h1 (fun e=>by cases e))
def sizeOk (bytes n:Nat):Prop:=bytes*n≤1099511627776∧n≤1099511627776
def F2F (k k':FloatKind) (n m:Nat):Prop:=
 (kH k k' n=true∧m=f2f k k' n)∨(kH k k' n=false∧(∃t,m=Question.cut (if (k.decode n).isNaN then .nanConv k' n else .floatToFloat n) t))
inductive T where
 | draw (k':FloatKind) (x:SC) (lo:Nat) (t:T)
 | name (v:SV) (lo:Nat) (lks:List LK) (res:SV) (k:T)
 | mkrow (z:List Value) (n:SC) (s bytes:Nat) (lo:Nat) (k:T)
 | lrow (cells:List SC) (n:Nat) (lo:Nat) (k:T)
 | app (v x:Nat) (new:RC) (m:SC) (s bytes:Nat) (lo:Nat) (k:T)
 | spread (y:SC) (s:Nat) (lo:Nat) (k:T)
 | setr (v x:Nat) (i:SC) (s j:Nat) (new:List SC) (lo:Nat) (k:T)
 | pubr (v x:Nat) (k:T)
 | fmk (n:SC) (lo:Nat) (k:T)
 | ftake (v x:Nat) (i:SC) (lo:Nat) (k:T)
 | fgive (v x u y:Nat) (i:SC) (lo:Nat) (k:T)
 | fpush (v x u y:Nat) (lo:Nat) (k:T)
 | fpub (v x:Nat) (k:T)
 | elem (a i:SC) (k:T)
 | read (a i:SC) (s j m:Nat) (lo:Nat) (lks:List LK) (res:SV) (k:T)
 | getw (x:Nat) (i:SC) (s j m:Nat) (lo:Nat) (lks:List LK) (res:SV) (k:T)
 | look (t:TypeId) (m key:SC) (lo:Nat) (lks:List LK) (res:SV) (k:T)
 | ret (r:SV)
 | call (f:FuncId) (args:List SV) (lo:Nat) (lks:List LK) (res:SV) (k:T)
 | callr (f:FuncId) (args:List SV) (ty:TypeId) (s lo:Nat) (k:T)
 | callr3 (f:FuncId) (args:List SV) (ty:TypeId) (s:Nat) (d:Bool) (lo:Nat) (k:T)
 | ret3 (v x v' x' v'' x'':Nat)
 | callrf (f:FuncId) (args:List SV) (ty:TypeId) (s:Nat) (u:TypeId) (us lo:Nat) (k:T)
 | retf (v x y z:Nat)
 | lend (v x:Nat) (f:FuncId) (args:List SV) (lo:Nat) (lks:List LK) (res:SV) (k:T)
 | callb (f:FuncId) (args:List SV) (ty ty':TypeId) (cs cs':List SC) (lo:Nat) (k:T)
 | branch (c:SC) (t e:T)
 | both (t u:T)
 | defd (v:SV) (k:T)
 | need (c:SC) (k:T)
 | pub (ty:TypeId) (cells:List SC) (lo:Nat) (k:T)
 | loop (lev:Nat) (init:List SV) (lo:Nat) (lks:List LK) (tmpl:List SV) (body:T)
 | again (lev:Nat) (vals:List SV)
 | join (lev lo:Nat) (lks:List LK) (tmpl:List SV) (t u:T)
 | fail (why:String)
 deriving Inhabited
structure Ctx where
 R:World→Value→Prop
 ag:Nat→World→List Value→Prop
def Ctx.push (C:Ctx) (lev:Nat) (φ:World→List Value→Prop):Ctx:={ C with ag:=fun j=>if j=lev then φ else C.ag j }
def T.den (P:Program) (R:Ctx):T→Env→World→Prop
 | .ret r,ν,k=>match r.den ν with
  | some v=>∀k',Up k k'→R.R k' v
  | none=>False
 | .call f args lo lks res t,ν,k=>match argsD ν args with
  | some vs=>∀k',Up k k'→CallsG P f vs.toArray k' fun k'' v=>exL lks fun us=>res.den (ν.ext lo lks us)=some v∧t.den P R ((ν.ext lo lks us).at k'') k''
  | none=>False
 | .callr f args ty s lo t,ν,k=>match argsD ν args with
  | some vs=>∀k',Up k k'→CallsR P f vs.toArray k' ty s fun k'' v=>∃(A:Option Addr) (n c:Nat),∃cs:Array Value,v=.tuple #[.slice A n c,.agg cs]∧t.den P R ((ν.ext lo [.slice,.row] [.slice A n c,.agg cs]).at k'') k''
  | none=>False
 | .callr3 f args ty s d lo t,ν,k=>match argsD ν args with
  | some vs=>∀k',Up k k'→CallsR3D P f vs.toArray k' ty s d fun k'' v=>∃(A:Option Addr) (n c:Nat),∃cs:Array Value,∃(A':Option Addr) (n' c':Nat),∃cs':Array Value,∃(A'':Option Addr) (n'' c'':Nat),∃cs'':Array Value,
   v=.tuple #[.slice A n c,.agg cs,.slice A' n' c',.agg cs',.slice A'' n'' c'',.agg cs'']∧t.den P R ((ν.ext lo [.slice,.row,.slice,.row,.slice,.row] [.slice A n c,.agg cs,.slice A' n' c',.agg cs',.slice A'' n'' c'',.agg cs'']).at k'') k''
  | none=>False
 | .ret3 v x v' x' v'' x'',ν,k=>match ν.val v,ν.val x,ν.val v',ν.val x',ν.val v'',ν.val x'' with
  | some a,some xs,some a',some xs',some a'',some xs''=>∀k',Up k k'→R.R k' (.tuple #[a,xs,a',xs',a'',xs''])
  | _,_,_,_,_,_=>False
 | .callrf f args ty s u us lo t,ν,k=>match argsD ν args with
  | some vs=>∀k',Up k k'→CallsRF P f vs.toArray k' ty s u us fun k'' v=>∃(A:Option Addr) (n c:Nat),∃cs ws xs:Array Value,v=.tuple #[.slice A n c,.agg cs,.agg ws,.agg xs]∧t.den P R ((ν.ext lo [.slice,.row,.row,.fam] [.slice A n c,.agg cs,.agg ws,.agg xs]).at k'') k''
  | none=>False
 | .lend v x f args lo lks res t,ν,k=>match ν.val v,ν.val x,argsD ν args with
  | some (.slice A _ _),some (.agg xs),some vs=>∀k',Up k k'→RowAt k' A xs→CallsG P f vs.toArray k' fun _ y=>exL lks fun us=>res.den (ν.ext lo lks us)=some y∧∀k'',Up k k''→t.den P R ((ν.ext lo lks us).at k'') k''
  | _,_,_=>False
 | .retf v x y z,ν,k=>match ν.val v,ν.val x,ν.val y,ν.val z with
  | some a,some xs,some b,some ys=>∀k',Up k k'→R.R k' (.tuple #[a,xs,b,ys])
  | _,_,_,_=>False
 | .callb f args ty ty' cs cs' lo t,ν,k=>match argsD ν args,aC ν cs,aC ν cs' with
  | some vs,some us,some us'=>∀k',Up k k'→CallsB P f vs k' ty ty' us.toArray us'.toArray fun k'' ds ds'=>t.den P R ((ν.ext lo [.seg (widths cs),.seg (widths cs')] [.agg ds,.agg ds']).at k'') k''
  | _,_,_=>False
 | .both t u,ν,k=>t.den P R ν k∧u.den P R ν k
 | .branch c t e,ν,k=>match c.den ν with
  | some (.bool b)=>(b=true→t.den P R ν k)∧(b=false→e.den P R ν k)
  | _=>False
 | .defd v t,ν,k=>match v.den ν with
  | some _=>t.den P R ν k
  | none=>False
 | .need c t,ν,k=>match c.den ν with
  | some (.bool b)=>b=true∧t.den P R ν k
  | _=>False
 | .pub ty cells lo t,ν,k=>match aC ν cells with
  | some vs=>∀n k',Up k k'→Blk k' n ty vs.toArray→t.den P R ((ν.ext lo [.any] [.pointer (some ⟨n,0,none⟩)]).at k') k'
  | none=>False
 | .loop lev init lo lks tmpl t,ν,k=>match argsD ν init with
  | some vs=>∃I:Nat→World→List Value→Prop,(∃n,∀k',Up k k'→I n k' vs)∧
   ∀n k' vs',Up k k'→I n k' vs'→exL lks fun us=>argsD (ν.ext lo lks us) tmpl=some vs'∧
    t.den P (R.push lev fun k'' vs''=>∃m,m<n∧I m k'' vs'') ((ν.ext lo lks us).at k') k'
  | none=>False
 | .again lev vals,ν,k=>match argsD ν vals with
  | some vs=>∀k',Up k k'→R.ag lev k' vs
  | none=>False
 | .join lev lo lks tmpl t u,ν,k=>∃φ:World→List Value→Prop,t.den P (R.push lev φ) ν k∧
  ∀k' vs',Up k k'→φ k' vs'→exL lks fun us=>argsD (ν.ext lo lks us) tmpl=some vs'∧u.den P R ((ν.ext lo lks us).at k') k'
 | .name v lo lks res t,ν,k=>exL lks fun us=>match res.den (ν.ext lo lks us) with
  | some x=>v.den ν=some x∧t.den P R (ν.ext lo lks us) k
  | none=>False
 | .mkrow z n s bytes lo t,ν,k=>match n.den ν with
  | some (.int _ N)=>0≤N∧sizeOk bytes N.toNat∧∀(A:Option Addr) (l c:Nat) (cs:Array Value),l=N.toNat→cs=madeCells z.toArray (N.toNat*s)→l≤c→t.den P R (ν.ext lo [.slice,.row] [.slice A l c,.agg cs]) k
  | _=>False
 | .lrow cells n lo t,ν,k=>match aC ν cells with
  | some vs=>∀(A:Option Addr) (l c:Nat) (cs:Array Value),l=n→cs=vs.toArray→l≤c→t.den P R (ν.ext lo [.slice,.row] [.slice A l c,.agg cs]) k
  | none=>False
 | .app v x new m s bytes lo t,ν,k=>match ν.val v,ν.val x,sT ν new,m.den ν with
  | some (.slice _ n _),some (.agg xs),some us,some (.int _ M)=>us.length=M.toNat*s∧0≤M∧sizeOk bytes (n+M.toNat)∧
   ∀(A:Option Addr) (l c:Nat) (cs:Array Value),l=n+M.toNat→cs=xs++us.toArray→l≤c→t.den P R (ν.ext lo [.slice,.row] [.slice A l c,.agg cs]) k
  | _,_,_,_=>False
 | .spread y s lo t,ν,k=>match y.den ν with
  | some (.slice A n _)=>∃cs:Array Value,RowC cs∧(cs.size=n*s∧∀(p:Nat) u,cs[p]?=some u→cellAt ν.mem A p=some u)∧t.den P R (ν.ext lo [.row] [.agg cs]) k
  | _=>False
 | .setr v x i s j new lo t,ν,k=>match ν.val v,ν.val x,i.den ν,aC ν new with
  | some (.slice _ n _),some (.agg xs),some (.int _ I),some us=>(0≤I∧I<n)∧∀cs:Array Value,cs=over xs (I.toNat*s+j) us→t.den P R (ν.ext lo [.row] [.agg cs]) k
  | _,_,_,_=>False
 | .pubr v x t,ν,k=>match ν.val v,ν.val x with
  | some (.slice A _ _),some (.agg xs)=>∀k',Up k k'→RowAt k' A xs→t.den P R (ν.at k') k'
  | _,_=>False
 | .fmk n lo t,ν,k=>match n.den ν with
  | some (.int _ N)=>∀vs xs:Array Value,vs=Array.replicate N.toNat (.slice none 0 0)→xs=Array.replicate N.toNat (.agg #[])→t.den P R (ν.ext lo [.row,.fam] [.agg vs,.agg xs]) k
  | _=>False
 | .ftake v x i lo t,ν,k=>match ν.val v,ν.val x,i.den ν with
  | some (.agg vs),some (.agg xs),some (.int _ I)=>∀(A:Option Addr) (n c:Nat) (cs vs' xs':Array Value),(I.toNat<vs.size→vs[I.toNat]?=some (.slice A n c)∧xs[I.toNat]?=some (.agg cs))→
   vs'=vs.setIfInBounds I.toNat (.slice none 0 0)→xs'=xs.setIfInBounds I.toNat (.agg #[])→t.den P R (ν.ext lo [.slice,.row,.row,.fam] [.slice A n c,.agg cs,.agg vs',.agg xs']) k
  | _,_,_=>False
 | .fgive v x u y i lo t,ν,k=>match ν.val v,ν.val x,ν.val u,ν.val y,i.den ν with
  | some (.agg vs),some (.agg xs),some a,some b,some (.int _ I)=>∀vs' xs':Array Value,vs'=vs.setIfInBounds I.toNat a→xs'=xs.setIfInBounds I.toNat b→t.den P R (ν.ext lo [.row,.fam] [.agg vs',.agg xs']) k
  | _,_,_,_,_=>False
 | .fpush v x u y lo t,ν,k=>match ν.val v,ν.val x,ν.val u,ν.val y with
  | some (.agg vs),some (.agg xs),some a,some b=>∀vs' xs':Array Value,vs'=vs.push a→xs'=xs.push b→t.den P R (ν.ext lo [.row,.fam] [.agg vs',.agg xs']) k
  | _,_,_,_=>False
 | .fpub v x t,ν,k=>match ν.val v,ν.val x with
  | some (.agg vs),some (.agg xs)=>∀k',Up k k'→(∀(j:Nat) (A:Option Addr) (n c:Nat) (cs:Array Value),vs[j]?=some (.slice A n c)→xs[j]?=some (.agg cs)→RowAt k' A cs)→t.den P R (ν.at k') k'
  | _,_=>False
 | .elem a i t,ν,k=>match a.den ν,i.den ν with
  | some (.slice A n _),some (.int _ I)=>(∃b o,A=some ⟨b,o,none⟩)∧(0≤I∧I<n)∧t.den P R ν k
  | _,_=>False
 | .read a i s j m lo lks res t,ν,k=>match a.den ν,i.den ν with
  | some (.slice A _ _),some (.int _ I)=>exL lks fun us=>match res.den (ν.ext lo lks us) with
   | some x=>ReadAt ν.mem A (I.toNat*s+j) m x∧t.den P R (ν.ext lo lks us) k
   | none=>False
  | _,_=>False
 | .getw x i s j m lo lks res t,ν,k=>match ν.val x,i.den ν with
  | some (.agg xs),some (.int _ I)=>exL lks fun us=>match res.den (ν.ext lo lks us) with
   | some x=>ReadIn xs (I.toNat*s+j) m x∧t.den P R (ν.ext lo lks us) k
   | none=>False
  | _,_=>False
 | .look t m key lo lks res u,ν,k=>match m.den ν,key.den ν with
  | some (.map (some b)),some kv=>exL lks fun us=>match res.den (ν.ext lo lks us) with
   | some x=>LookAt P k t b kv x∧u.den P R (ν.ext lo lks us) k
   | none=>False
  | _,_=>False
 | .draw k2 x lo t,ν,k=>match x.den ν with
  | some (.float k0 n)=>∀m,F2F k0 k2 n m→t.den P R (ν.ext lo [.flt k2] [.float k2 m]) k
  | _=>False
 | .fail _,_,_=>False
theorem T.den_up {P:Program}:∀ {t:T}{R:Ctx}{ν:Env}{k k':World},t.den P R ν k→Up k k'→t.den P R ν k':=by
 intro t
 induction t with
 | ret r=>intro R ν k k' h hu;unfold T.den at h ⊢;split at h;· exact fun k'' h'=>h k'' (hu.trans h')
          ·exact h
 | call f args lo lks res t ih=>intro R ν k k' h hu;unfold T.den at h ⊢;split at h;· exact fun k'' h'=>h k'' (hu.trans h')
                                ·exact h
 | callr f args ty s lo t ih=>intro R ν k k' h hu;unfold T.den at h ⊢;split at h;· exact fun k'' h'=>h k'' (hu.trans h')
                              ·exact h
 | callr3 f args ty s d lo t ih=>intro R ν k k' h hu;unfold T.den at h ⊢;split at h;· exact fun k'' h'=>h k'' (hu.trans h')
                                 ·exact h
 | ret3 v x v' x' v'' x''=>intro R ν k k' h hu;unfold T.den at h ⊢;split at h;· exact fun k'' h'=>h k'' (hu.trans h')
                           ·exact h
 | callrf f args ty s u us lo t ih=>intro R ν k k' h hu;unfold T.den at h ⊢;split at h;· exact fun k'' h'=>h k'' (hu.trans h')
                                    ·exact h
 | lend v x f args lo lks res t ih=>
  intro R ν k k' h hu;unfold T.den at h ⊢;split at h
  ·exact fun k'' h' hr=>(h k'' (hu.trans h') hr).mono fun _ y _ hh=>bE hh fun us h2=>⟨h2.1,fun k3 h3=>h2.2 k3 (hu.trans h3)⟩
  ·exact h
 | retf v x y z=>intro R ν k k' h hu;unfold T.den at h ⊢;split at h;· exact fun k'' h'=>h k'' (hu.trans h')
                 ·exact h
 | callb f args ty ty' cs cs' lo t ih=>intro R ν k k' h hu;unfold T.den at h ⊢;split at h;· exact fun k'' h'=>h k'' (hu.trans h')
                                       ·exact h
 | both t u iht ihu=>grind [T.den]
 | branch c t e iht ihe=>grind [T.den]
 | defd v t ih=>grind [T.den]
 | need c t ih=>grind [T.den]
 | pub ty cells lo t ih=>intro R ν k k' h hu;unfold T.den at h ⊢;split at h;· exact fun n k'' h'=>h n k'' (hu.trans h')
                         ·exact h
 | loop lev init lo lks tmpl t ih=>intro R ν k k' h hu;unfold T.den at h ⊢;split at h;· obtain⟨I,⟨n,h1⟩,h2⟩:=h;exact⟨I,⟨n,fun k'' h'=>h1 k'' (hu.trans h')⟩,fun n k'' vs' h'=>h2 n k'' vs' (hu.trans h')⟩
                                   ·exact h
 | join lev lo lks tmpl t u iht ihu=>intro R ν k k' h hu;unfold T.den at h ⊢;obtain⟨φ,h1,h2⟩:=h;exact⟨φ,iht h1 hu,fun k'' vs' h'=>h2 k'' vs' (hu.trans h')⟩
 | again lev vals=>intro R ν k k' h hu;unfold T.den at h ⊢;split at h;· exact fun k'' h'=>h k'' (hu.trans h')
                   ·exact h
 | name v lo lks res t ih=>
  grind [T.den,bE]
 | mkrow z n s bytes lo t ih=>grind [T.den]
 | lrow cells n lo t ih=>grind [T.den]
 | app v x new m s bytes lo t ih=>grind [T.den]
 | spread y s lo t ih=>grind [T.den]
 | setr v x i s j new lo t ih=>grind [T.den]
 | pubr v x t ih=>intro R ν k k' h hu;unfold T.den at h ⊢;split at h;· exact fun k'' h'=>h k'' (hu.trans h')
                  ·exact h
 | fmk n lo t ih=>intro R ν k k' h hu;unfold T.den at h ⊢;split at h;· exact fun vs xs h1 h2=>ih (h vs xs h1 h2) hu
                  ·exact h
 | ftake v x i lo t ih=>intro R ν k k' h hu;unfold T.den at h ⊢;split at h;· exact fun A n c cs vs' xs' h1 h2 h3=>ih (h A n c cs vs' xs' h1 h2 h3) hu
                        ·exact h
 | fgive v x u y i lo t ih=>intro R ν k k' h hu;unfold T.den at h ⊢;split at h;· exact fun vs xs h1 h2=>ih (h vs xs h1 h2) hu
                            ·exact h
 | fpush v x u y lo t ih=>intro R ν k k' h hu;unfold T.den at h ⊢;split at h;· exact fun vs xs h1 h2=>ih (h vs xs h1 h2) hu
                          ·exact h
 | fpub v x t ih=>intro R ν k k' h hu;unfold T.den at h ⊢;split at h;· exact fun k'' h'=>h k'' (hu.trans h')
                  ·exact h
 | elem a i t ih=>intro R ν k k' h hu;unfold T.den at h ⊢;split at h;· exact⟨h.1,h.2.1,ih h.2.2 hu⟩
                  ·exact h
 | read a i s j m lo lks res t ih=>
  intro R ν k k' h hu;unfold T.den at h ⊢;split at h
  ·refine bE h fun us hh=>?_;split at hh
   ·exact⟨hh.1,ih hh.2 hu⟩
   ·exact hh
  ·exact h
 | getw x i s j m lo lks res t ih=>
  intro R ν k k' h hu;unfold T.den at h ⊢;split at h
  ·refine bE h fun us hh=>?_;split at hh
   ·exact⟨hh.1,ih hh.2 hu⟩
   ·exact hh
  ·exact h
 | look t m key lo lks res u ih=>
  intro R ν k k' h hu;unfold T.den at h ⊢;split at h
  ·refine bE h fun us hh=>?_;split at hh
   ·exact⟨hh.1.up hu,ih hh.2 hu⟩
   ·exact hh
  ·exact h
 | draw k2 x lo t ih=>intro R ν k k' h hu;unfold T.den at h ⊢;split at h;· exact fun m hm=>ih (h m hm) hu
                      ·exact h
 | fail=>intro R ν k k' h _;exact h
structure Env.le (ρ ρ':Env):Prop where
 val:∀i v,ρ.val i=some v→ρ'.val i=some v
 blk:∀b n,ρ.blk b=some n→ρ'.blk b=some n
 kd:∀i k,ρ.kd i=some k→ρ'.kd i=some k
 mem:∀A v,ρ.mem A=some v→ρ'.mem A=some v
theorem Env.le.refl (ρ:Env):ρ.le ρ:=⟨fun _ _ h=>h,fun _ _ h=>h,fun _ _ h=>h,fun _ _ h=>h⟩
theorem Env.le.trans {a b c:Env}(h:a.le b) (h':b.le c):a.le c:=⟨fun i v e=>h'.val i v (h.val i v e),fun i v e=>h'.blk i v (h.blk i v e),fun i v e=>h'.kd i v (h.kd i v e),fun i v e=>h'.mem i v (h.mem i v e)⟩
theorem Env.bare_le (ρ:Env):ρ.bare.le ρ:=⟨fun _ _ h=>h,fun _ _ h=>(by cases h),fun _ _ h=>h,fun _ _ h=>h⟩
theorem Env.bare_mono {ρ ρ':Env}(h:ρ.le ρ'):ρ.bare.le ρ'.bare:=⟨h.val,fun _ _ h=>(by cases h),h.kd,h.mem⟩
theorem Env.ext_mono {ρ ρ':Env}(h:ρ.le ρ') (lo:Nat) (lks:List LK) (us:List Value):(ρ.ext lo lks us).le (ρ'.ext lo lks us):=
 ⟨fun i v e=>by
   have e:(if i<lo then ρ.val i else us[i-lo]?)=some v:=e;show (if i<lo then ρ'.val i else us[i-lo]?)=some v;split at e
   ·rename_i hi;rw [og hi];exact h.val _ _ e
   grind,h.blk,fun i v e=>by
   have e:(if i<lo then ρ.kd i else lks[i-lo]?)=some v:=e;show (if i<lo then ρ'.kd i else lks[i-lo]?)=some v;split at e
   ·rename_i hi;rw [og hi];exact h.kd _ _ e
   grind,h.mem⟩
theorem Env.at_mono {ρ ρ':Env}(h:ρ.le ρ') (k:World):(ρ.at k).le (ρ'.at k):=⟨h.val,h.blk,h.kd,fun _ _ e=>e⟩
theorem rS {ρ ρ':Env}(h:ρ.le ρ'):∀ {is:List Nat}{vs:List Value},kJ ρ is=some vs→kJ ρ' is=some vs
 | [],vs,hv=>hv
 | i :: is,vs,hv=>by
  simp only [kJ]at hv ⊢;split at hv
  ·rename_i v us h1 h2;rw [h.val _ _ h1,rS h h2];exact hv
  ·cases hv
theorem SC.den_le {ρ ρ':Env}(h:ρ.le ρ'):∀ {c:SC}{v:Value},c.den ρ=some v→c.den ρ'=some v:=by
 intro c
 induction c with
 | var i=>
  intro v hv;simp only [SC.den]at hv ⊢;cases hi:ρ.val i with
  | none=>simp_all
  | some x=>rw [hi]at hv;rw [h.val _ _ hi];exact hv
 | lit u=>exact fun hv=>hv
 | ptr b o=>
  intro v hv;simp only [SC.den]at hv ⊢;split at hv
  ·rename_i n hn;rw [h.blk _ _ hn];exact hv
  ·cases hv
 | sl b o n c=>
  intro v hv;simp only [SC.den]at hv ⊢;split at hv
  ·rename_i n hn;rw [h.blk _ _ hn];exact hv
  ·cases hv
 | seg i m=>intro v hv;cases hv
 | part x N i s j m _=>intro v hv;cases hv
 | upd x N i s j y _ _=>intro v hv;cases hv
 | cat a b _ _=>intro v hv;cases hv
 | fn f caps=>
  grind [SC.den,rS]
 | fnb f b c=>
  intro v hv;simp only [SC.den]at hv ⊢;split at hv
  ·rename_i n m h1 h2;rw [h.blk _ _ h1,h.blk _ _ h2];exact hv
  ·cases hv
 | bin cl op a b iha ihb=>grind [SC.den]
 | idx a b iha ihb=>grind [SC.den]
 | le a b iha ihb=>grind [SC.den]
 | fit a b iha ihb=>grind [SC.den]
 | byte a b iha ihb=>grind [SC.den]
 | sub a b c iha ihb ihc=>grind [SC.den]
 | pick a b c iha ihb ihc=>grind [SC.den]
 | not a ih=>simp_all [SC.den,Option.bind_eq_some_iff]
 | neg a ih=>simp_all [SC.den,Option.bind_eq_some_iff]
 | conv k a ih=>simp_all [SC.den,Option.bind_eq_some_iff]
 | len a ih=>simp_all [SC.den,Option.bind_eq_some_iff]
 | isSl st a ih=>simp_all [SC.den,Option.bind_eq_some_iff]
 | nz a ih=>simp_all [SC.den,Option.bind_eq_some_iff]
 | cap a ih=>simp_all [SC.den,Option.bind_eq_some_iff]
 | slr i=>
  intro v hv;simp only [SC.den]at hv ⊢;cases hi:ρ.val i with
  | none=>simp_all
  | some x=>rw [hi]at hv;rw [h.val _ _ hi];exact hv
 | psl p o n c=>
  intro v hv;simp only [SC.den]at hv ⊢;split at hv
  ·rename_i h1;rw [h.val _ _ h1];exact hv
  ·cases hv
 | cel x i s k ih=>
  intro v hv;simp only [SC.den]at hv ⊢;split at hv
  ·rename_i h1 h2;rw [h.val _ _ h1,ih h2];exact hv
  ·cases hv
 | elem a b s j iha ihb=>grind [SC.den]
 | slc a b c s iha ihb ihc=>grind [SC.den]
theorem aUh {o o':Option Value}(h:∀v,o=some v→o'=some v) {us:List Value}(hu:aDh o=some us):aDh o'=some us:=by
 cases o with
 | none=>cases hu
 | some v=>simp_all
theorem aVb {ρ ρ':Env}(h:ρ.le ρ'):∀ {c:SC}{us:List Value},eJ ρ c=some us→eJ ρ' c=some us:=by
 intro c
 induction c with
 | part x N i s j m _=>
  intro us hu;simp only [eJ]at hu ⊢;split at hu
  ·rename_i h1 h2 h3;rw [h.val _ _ h1,h.kd _ _ h2,SC.den_le h h3];exact hu
  ·cases hu
 | upd x N i s j y _ ih=>
  intro us hu;simp only [eJ]at hu ⊢;split at hu
  ·rename_i h1 h2 h3 h4;rw [h.val _ _ h1,h.kd _ _ h2,SC.den_le h h3,ih h4];exact hu
  ·cases hu
 | seg x m=>
  intro us hu;simp only [eJ]at hu ⊢;split at hu
  ·rename_i h1 h2;rw [h.val _ _ h1,h.kd _ _ h2];exact hu
  ·cases hu
 | cat a b iha ihb=>
  grind [eJ]
 | _=>intro us hu;exact aUh (fun v hv=>SC.den_le h hv) hu
theorem aJ {ρ ρ':Env}(h:ρ.le ρ'):∀ {cs:List SC}{vs:List Value},aC ρ cs=some vs→aC ρ' cs=some vs
 | [],vs,hv=>hv
 | c :: cs,vs,hv=>by
  obtain⟨us,ws,h1,h2,rfl⟩:=cM hv;refine dT ?_ (aJ h h2)
  by_cases hrun:c.isRun=true
  ·grind [eW,aVb,aC]
  have hrun:c.isRun=false:=by simp_all
  by_cases hseg:∃i m,c=.seg i m
  ·obtain⟨i,m,rfl⟩:=hseg;simp only [aC]at h1 ⊢;split at h1
   ·rename_i avs k us' e1 e2 e3;rw [h.val _ _ e1,h.kd _ _ e2] <;> simp_all
   ·cases h1
  ·have hn:∀i m,c=.seg i m→False:=fun i m e=>hseg ⟨i,m,e⟩;rw [cF hrun hn]at h1 ⊢;split at h1
   ·rename_i hs;split at h1
    ·rename_i v us' e1 e2;simp only [SC.den_le h e1] <;> simp_all [aC]
    ·cases h1
   ·cases h1
theorem aBb {ρ ρ':Env}(h:ρ.le ρ'):∀ {p:Bool×List SC}{v:Value},iH ρ p=some v→iH ρ' p=some v:=by
 intro p v hv;unfold iH at hv ⊢ <;> grind [bU,aJ,SC.den_le]
theorem wA {ρ ρ':Env}(h:ρ.le ρ'):∀ {ps:List (Bool×List SC)}{vs:List Value},iI ρ ps=some vs→iI ρ' ps=some vs
 | [],vs,hv=>hv
 | p :: ps,vs,hv=>by
  simp only [iI]at hv ⊢;split at hv
  ·rename_i v us h1 h2;rw [aBb h h1,wA h h2];exact hv
  ·cases hv
theorem SV.den_le {ρ ρ':Env}(h:ρ.le ρ') {sv:SV}{v:Value}(hv:sv.den ρ=some v):sv.den ρ'=some v:=by
 cases sv with
 | one c=>exact SC.den_le h hv
 | agg cs=>grind [bU,SV.den,aJ]
 | tup vs=>grind [SV.den,wA]
 | ifc t ag cs=>grind [SV.den,aBb]
 | rw v x=>
  simp only [SV.den]at hv ⊢;split at hv
  ·rename_i h1 h2 h3 h4;rw [h.val _ _ h1,h.kd _ _ h2,h.val _ _ h3,h.kd _ _ h4];exact hv
  ·cases hv
 | rwnil=>exact hv
 | fm v x=>
  simp only [SV.den]at hv ⊢;split at hv
  ·rename_i h1 h2 h3 h4;rw [h.val _ _ h1,h.kd _ _ h2,h.val _ _ h3,h.kd _ _ h4];exact hv
  ·cases hv
 | top=>cases hv
theorem aX {ρ ρ':Env}(h:ρ.le ρ'):∀ {l:List SV}{vs:List Value},argsD ρ l=some vs→argsD ρ' l=some vs
 | [],vs,hv=>hv
 | p :: ps,vs,hv=>by
  simp only [argsD]at hv ⊢;split at hv
  ·rename_i v us h1 h2;rw [SV.den_le h h1,aX h h2];exact hv
  ·cases hv
theorem Ok.le {ρ ρ':Env}(h:ρ.le ρ') {sv:SV}{v:Value}(hv:Ok ρ sv v):Ok ρ' sv v:=hv.imp id (SV.den_le h)
theorem aLw {ρ ρ':Env}(h:ρ.le ρ') {r:RC}{vs:List Value}(hv:sT ρ r=some vs):sT ρ' r=some vs:=by
 cases r with
 | var x=>
  simp only [sT]at hv ⊢;split at hv
  ·rename_i xs h1 h2;rw [h.val _ _ h1,h.kd _ _ h2];exact hv
  ·cases hv
 | cells cs=>exact aJ h hv
theorem cellAt_le {m m':Addr→Option Value}(h:∀A v,m A=some v→m' A=some v) {A:Option Addr}{p:Nat}{v:Value}(hv:cellAt m A p=some v):cellAt m' A p=some v:=by
 unfold cellAt at hv ⊢ <;> grind [rW]
theorem T.den_le {P:Program}:∀ {t:T}{R:Ctx}{ν ν':Env}{k:World},t.den P R ν k→ν.le ν'→t.den P R ν' k:=by
 intro t
 induction t with
 | ret r=>grind [T.den,SV.den_le]
 | call f args lo lks res t ih=>
  intro R ν ν' k h hl;unfold T.den at h ⊢;split at h
  ·rename_i e;rw [aX hl e];exact fun k' u=>(h k' u).mono fun k'' v _ hh=>bE hh fun us h2=>⟨SV.den_le (Env.ext_mono hl _ _ _) h2.1,ih h2.2 (Env.at_mono (Env.ext_mono hl _ _ _) _)⟩
  simp_all
 | callr f args ty s lo t ih=>
  intro R ν ν' k h hl;unfold T.den at h ⊢;split at h
  ·rename_i e;rw [aX hl e];exact fun k' u=>(h k' u).mono fun k'' v _ ⟨A,n,c,cs,e1,h2⟩=>⟨A,n,c,cs,e1,ih h2 (Env.at_mono (Env.ext_mono hl _ _ _) _)⟩
  simp_all
 | callr3 f args ty s d lo t ih=>
  intro R ν ν' k h hl;unfold T.den at h ⊢;split at h
  ·rename_i e;rw [aX hl e];exact fun k' u=>(h k' u).mono fun k'' v _ ⟨A,n,c,cs,A',n',c',cs',A'',n'',c'',cs'',e1,h2⟩=>⟨A,n,c,cs,A',n',c',cs',A'',n'',c'',cs'',e1,ih h2 (Env.at_mono (Env.ext_mono hl _ _ _) _)⟩
  simp_all
 | ret3 v x v' x' v'' x''=>
  intro R ν ν' k h hl;unfold T.den at h ⊢;split at h
  ·rename_i e1 e2 e3 e4 e5 e6;rw [hl.val _ _ e1,hl.val _ _ e2,hl.val _ _ e3,hl.val _ _ e4,hl.val _ _ e5,hl.val _ _ e6];exact h
  simp_all
 | callrf f args ty s u us lo t ih=>
  intro R ν ν' k h hl;unfold T.den at h ⊢;split at h
  ·rename_i e;rw [aX hl e];exact fun k' u=>(h k' u).mono fun k'' v _ ⟨A,n,c,cs,ws,xs,e1,h2⟩=>⟨A,n,c,cs,ws,xs,e1,ih h2 (Env.at_mono (Env.ext_mono hl _ _ _) _)⟩
  simp_all
 | lend v x f args lo lks res t ih=>
  intro R ν ν' k h hl;unfold T.den at h ⊢;split at h
  ·rename_i e1 e2 e3;rw [hl.val _ _ e1,hl.val _ _ e2,aX hl e3];exact fun k' u hr=>(h k' u hr).mono fun _ y _ hh=>bE hh fun us h2=>⟨SV.den_le (Env.ext_mono hl _ _ _) h2.1,fun k3 h3=>ih (h2.2 k3 h3) (Env.at_mono (Env.ext_mono hl _ _ _) _)⟩
  simp_all
 | retf v x y z=>
  intro R ν ν' k h hl;unfold T.den at h ⊢;split at h
  ·rename_i e1 e2 e3 e4;rw [hl.val _ _ e1,hl.val _ _ e2,hl.val _ _ e3,hl.val _ _ e4];exact h
  simp_all
 | callb f args ty ty' cs cs' lo t ih=>
  intro R ν ν' k h hl;unfold T.den at h ⊢;split at h
  ·rename_i e1 e2 e3;rw [aX hl e1,aJ hl e2,aJ hl e3];exact fun k' u=>(h k' u).mono fun k'' d d' _ h2=>ih h2 (Env.at_mono (Env.ext_mono hl _ _ _) _)
  simp_all
 | both t u iht ihu=>grind [T.den]
 | branch c t e iht ihe=>
  grind [T.den,SC.den_le]
 | defd v t ih=>grind [T.den,SV.den_le]
 | need c t ih=>grind [T.den,SC.den_le]
 | pub ty cells lo t ih=>intro R ν ν' k h hl;unfold T.den at h ⊢;split at h;· (rename_i e;rw [aJ hl e];exact fun n k' u hb=>ih (h n k' u hb) (Env.at_mono (Env.ext_mono hl _ _ _) _))
                         simp_all
 | loop lev init lo lks tmpl t ih=>
  intro R ν ν' k h hl;unfold T.den at h ⊢;split at h
  ·rename_i e;rw [aX hl e];obtain⟨I,h1,h2⟩:=h;exact⟨I,h1,fun n k' vs' u hi=>bE (h2 n k' vs' u hi) fun us h3=>⟨aX (Env.ext_mono hl _ _ _) h3.1,ih h3.2 (Env.at_mono (Env.ext_mono hl _ _ _) _)⟩⟩
  simp_all
 | join lev lo lks tmpl t u iht ihu=>
  intro R ν ν' k h hl;unfold T.den at h ⊢;obtain⟨φ,h1,h2⟩:=h;exact⟨φ,iht h1 hl,fun k' vs' hu hi=>bE (h2 k' vs' hu hi) fun us h3=>⟨aX (Env.ext_mono hl _ _ _) h3.1,ihu h3.2 (Env.at_mono (Env.ext_mono hl _ _ _) _)⟩⟩
 | again lev vals=>grind [T.den,aX]
 | name v lo lks res t ih=>
  intro R ν ν' k h hl;unfold T.den at h ⊢;refine bE h fun us hh=>?_;split at hh
  ·rename_i e;rw [SV.den_le (Env.ext_mono hl _ _ _) e];exact⟨SV.den_le hl hh.1,ih hh.2 (Env.ext_mono hl _ _ _)⟩
  simp_all
 | mkrow z n s bytes lo t ih=>intro R ν ν' k h hl;unfold T.den at h ⊢;split at h;· (rename_i e;rw [SC.den_le hl e];exact⟨h.1,h.2.1,fun A l c cs h1 h2 h3=>ih (h.2.2 A l c cs h1 h2 h3) (Env.ext_mono hl _ _ _)⟩)
                              simp_all
 | lrow cells n lo t ih=>intro R ν ν' k h hl;unfold T.den at h ⊢;split at h;· (rename_i e;rw [aJ hl e];exact fun A l c cs h1 h2 h3=>ih (h A l c cs h1 h2 h3) (Env.ext_mono hl _ _ _))
                         simp_all
 | app v x new m s bytes lo t ih=>
  intro R ν ν' k h hl;unfold T.den at h ⊢;split at h
  ·rename_i e1 e2 e3 e4;rw [hl.val _ _ e1,hl.val _ _ e2,aLw hl e3,SC.den_le hl e4];exact⟨h.1,h.2.1,h.2.2.1,fun A l c cs h1 h2 h3=>ih (h.2.2.2 A l c cs h1 h2 h3) (Env.ext_mono hl _ _ _)⟩
  simp_all
 | spread y s lo t ih=>
  intro R ν ν' k h hl;unfold T.den at h ⊢;split at h
  ·rename_i e;rw [SC.den_le hl e];obtain⟨cs,h1,⟨h2,h3⟩,h4⟩:=h;exact⟨cs,h1,⟨h2,fun p u hu=>cellAt_le hl.mem (h3 p u hu)⟩,ih h4 (Env.ext_mono hl _ _ _)⟩
  simp_all
 | setr v x i s j new lo t ih=>
  intro R ν ν' k h hl;unfold T.den at h ⊢;split at h
  ·rename_i e1 e2 e3 e4;rw [hl.val _ _ e1,hl.val _ _ e2,SC.den_le hl e3,aJ hl e4];exact⟨h.1,fun cs h1=>ih (h.2 cs h1) (Env.ext_mono hl _ _ _)⟩
  simp_all
 | pubr v x t ih=>
  intro R ν ν' k h hl;unfold T.den at h ⊢;split at h
  ·rename_i e1 e2;rw [hl.val _ _ e1,hl.val _ _ e2];exact fun k' u hr=>ih (h k' u hr) (Env.at_mono hl _)
  ·exact h.elim
 | fmk n lo t ih=>
  intro R ν ν' k h hl;unfold T.den at h ⊢;split at h
  ·rename_i e1;rw [SC.den_le hl e1];exact fun vs xs h1 h2=>ih (h vs xs h1 h2) (Env.ext_mono hl _ _ _)
  ·exact h.elim
 | ftake v x i lo t ih=>
  intro R ν ν' k h hl;unfold T.den at h ⊢;split at h
  ·rename_i e1 e2 e3;rw [hl.val _ _ e1,hl.val _ _ e2,SC.den_le hl e3];exact fun A n c cs vs' xs' h1 h2 h3=>ih (h A n c cs vs' xs' h1 h2 h3) (Env.ext_mono hl _ _ _)
  ·exact h.elim
 | fgive v x u y i lo t ih=>
  intro R ν ν' k h hl;unfold T.den at h ⊢;split at h
  ·rename_i e1 e2 e3 e4 e5;rw [hl.val _ _ e1,hl.val _ _ e2,hl.val _ _ e3,hl.val _ _ e4,SC.den_le hl e5];exact fun vs xs h1 h2=>ih (h vs xs h1 h2) (Env.ext_mono hl _ _ _)
  ·exact h.elim
 | fpush v x u y lo t ih=>
  intro R ν ν' k h hl;unfold T.den at h ⊢;split at h
  ·rename_i e1 e2 e3 e4;rw [hl.val _ _ e1,hl.val _ _ e2,hl.val _ _ e3,hl.val _ _ e4];exact fun vs xs h1 h2=>ih (h vs xs h1 h2) (Env.ext_mono hl _ _ _)
  ·exact h.elim
 | fpub v x t ih=>
  intro R ν ν' k h hl;unfold T.den at h ⊢;split at h
  ·rename_i e1 e2;rw [hl.val _ _ e1,hl.val _ _ e2];exact fun k' u hr=>ih (h k' u hr) (Env.at_mono hl _)
  ·exact h.elim
 | elem a i t ih=>
  intro R ν ν' k h hl;unfold T.den at h ⊢;split at h
  ·rename_i e1 e2;rw [SC.den_le hl e1,SC.den_le hl e2];exact⟨h.1,h.2.1,ih h.2.2 hl⟩
  ·exact h.elim
 | read a i s j m lo lks res t ih=>
  intro R ν ν' k h hl;unfold T.den at h ⊢;split at h
  ·rename_i e1 e2;rw [SC.den_le hl e1,SC.den_le hl e2];refine bE h fun us hh=>?_;split at hh
   ·rename_i e;rw [SV.den_le (Env.ext_mono hl _ _ _) e];exact⟨⟨hh.1.1,fun q u hu=>cellAt_le hl.mem (hh.1.2 q u hu)⟩,ih hh.2 (Env.ext_mono hl _ _ _)⟩
   ·exact hh.elim
  ·exact h.elim
 | getw x i s j m lo lks res t ih=>
  intro R ν ν' k h hl;unfold T.den at h ⊢;split at h
  ·rename_i e1 e2;rw [hl.val _ _ e1,SC.den_le hl e2];refine bE h fun us hh=>?_;split at hh
   ·rename_i e;rw [SV.den_le (Env.ext_mono hl _ _ _) e];exact⟨hh.1,ih hh.2 (Env.ext_mono hl _ _ _)⟩
   ·exact hh.elim
  ·exact h.elim
 | look t m key lo lks res u ih=>
  intro R ν ν' k h hl;unfold T.den at h ⊢;split at h
  ·rename_i e1 e2;rw [SC.den_le hl e1,SC.den_le hl e2];refine bE h fun us hh=>?_;split at hh
   ·rename_i e;rw [SV.den_le (Env.ext_mono hl _ _ _) e];exact⟨hh.1,ih hh.2 (Env.ext_mono hl _ _ _)⟩
   ·exact hh.elim
  ·exact h.elim
 | draw k2 x lo t ih=>
  intro R ν ν' k h hl;unfold T.den at h ⊢;split at h
  ·rename_i e;rw [SC.den_le hl e];exact fun m hm=>ih (h m hm) (Env.ext_mono hl _ _ _)
  ·exact h.elim
 | fail=>intro R ν ν' k h _;exact h.elim
