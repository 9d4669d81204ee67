/- A symbolic executor of the model's code: states, and how they go on. -/
import Derived.Test.YthiaclljcnincaaGreatApSy6
namespace Go.Proofs.YthiaclljcnincaaGreat.Sy
open Go.RowKit
structure RowI where
 v:Nat
 x:Nat
 ty:TypeId
 s:Nat
 deriving DecidableEq,Inhabited
structure FamI where
 v:Nat
 x:Nat
 ty:TypeId
 s:Nat
 deriving DecidableEq,Inhabited
structure Tab where
 length:Nat
 log:List (Nat×SV)
 base:Nat→SV
def bL:SV:=.one (.lit undef)
instance:Inhabited Tab:=⟨⟨0,[],fun _=>bL⟩⟩
def fK (t:Nat):List (Nat×SV)→Option SV
 | []=>none
 | p :: l=>match Nat.beq p.1 t with
  | true=>some p.2
  | false=>fK t l
def Tab.get (b:Tab) (t:Nat):SV:=match b with
 | ⟨n,l,f⟩=>match Nat.ble n t with
  | true=>bL
  | false=>match fK t l with
   | some v=>v
   | none=>f t
def Tab.set (b:Tab) (d:Nat) (v:SV):Tab:=match b with
 | ⟨n,l,f⟩=>⟨n,(d,v) :: l,f⟩
def Tab.map (f:SV→SV) (b:Tab):Tab:={ b with log:=b.log.map fun p=>(p.1,f p.2),base:=fun t=>f (b.base t) }
theorem Tab.get_ge {b:Tab}{t:Nat}(h:b.length≤t):b.get t=bL:=by
 obtain⟨n,l,f⟩:=b;have e:Nat.ble n t=true:=Nat.ble_eq_true_of_le h;show (match Nat.ble n t with|true=>bL|false=>(match fK t l with|some v=>v|none=>f t))=_
 rw [e]
theorem Tab.get_lt {b:Tab}{t:Nat}(h:t<b.length):b.get t=(match fK t b.log with|some v=>v|none=>b.base t):=by
 obtain⟨n,l,f⟩:=b;have e:Nat.ble n t=false:=by rw [←Bool.not_eq_true,Nat.ble_eq];exact Nat.not_le.2 h
 show (match Nat.ble n t with|true=>bL|false=>(match fK t l with|some v=>v|none=>f t))=_
 rw [e]
theorem Tab.get_set (b:Tab) (d:Nat) (v:SV) (t:Nat):(b.set d v).get t=if d=t∧d<b.length then v else b.get t:=by
 by_cases h:t<b.length
 ·rw [Tab.get_lt (b:=b) h,Tab.get_lt (b:=b.set d v) h];show (match (match Nat.beq d t with|true=>some v|false=>fK t b.log) with|some v=>v|none=>b.base t)=_
  by_cases e:d=t
  ·subst e;rw [show Nat.beq d d=true from Nat.beq_refl d,og ⟨rfl,h⟩]
  ·rw [show Nat.beq d t=false from by rw [←Bool.not_eq_true,Nat.beq_eq];exact e,oh fun hh=>e hh.1]
 ·rw [Tab.get_ge (b:=b) oq,Tab.get_ge (b:=b.set d v) (show b.length≤t by omega),oh];rintro⟨rfl,hh⟩;exact h hh
theorem qF (f:SV→SV) (t:Nat):∀l:List (Nat×SV),fK t (l.map fun p=>(p.1,f p.2))=(fK t l).map f
 | []=>rfl
 | p :: l=>by
  simp only [zr,fK];cases Nat.beq p.1 t with
  | true=>rfl
  | false=>exact qF f t l
theorem Tab.get_map {f:SV→SV}(hf:f bL=bL) (b:Tab) (t:Nat):(b.map f).get t=f (b.get t):=by
 by_cases h:t<b.length
 ·rw [Tab.get_lt (b:=b) h,Tab.get_lt (b:=b.map f) h];show (match fK t (b.log.map fun p=>(p.1,f p.2)) with|some v=>v|none=>f (b.base t))=_
  rw [qF];cases fK t b.log <;> rfl
 ·rw [Tab.get_ge (b:=b) oq,Tab.get_ge (b:=b.map f) (show b.length≤t by omega),hf]
structure St where
 tmps:Tab
 heap:List SB
 kinds:List LK
 depth:Nat:=0
 rows:List RowI:=[]
 fam:Option FamI:=none
 cur:List (SC×Nat):=[]
 deriving Inhabited
def St.tm (st:St) (t:Tmp):SV:=st.tmps.get t
def St.hp (st:St) (b:Nat):Option SB:=st.heap[b]?
def St.kd (st:St) (i:Nat):Option LK:=st.kinds[i]?
def St.put (st:St) (d:Option Tmp) (v:SV):St:=
 match d with
 | some d=>{ st with tmps:=st.tmps.set d v }
 | none=>st
def St.new (st:St) (ty:TypeId) (cs:List SC):St:={ st with heap:=st.heap++[{ ty,cells:=cs,pub:=false }] }
def St.setB (st:St) (b:Nat) (cs:List SC):St:={ st with heap:=st.heap.modify b fun blk=>{ blk with cells:=cs } }
structure Anc extends World where
 ρ:Env
 kk:World
 d:Nat
instance:Coe Anc World:=⟨Anc.toWorld⟩
def RowOk (ρ:Env) (base:Nat) (k w:World) (r:RowI):Prop:=∃A n c xs,ρ.val r.v=some (.slice A n c)∧ρ.val r.x=some (.agg xs)∧ρ.kd r.v=some .slice∧ρ.kd r.x=some .row∧0<r.s∧xs.size=n*r.s∧n≤c∧
 ((A=none∧c=0)∨∃g cs,A=some ⟨g,0,none⟩∧base≤g∧Blk w g r.ty cs∧cs.size=c*r.s∧(∀(p:Nat) u,xs[p]?=some u→cs[p]?=some u)∧(∀u∈cs.toList,u.noWord=true)∧k.heap[g]?=some dead∧∀b,ρ.blk b≠some g)
def aD (ρ:Env) (r:RowI):Option Nat:=match ρ.val r.v with
 | some (.slice (some a) _ _)=>some a.block
 | _=>none
structure RowsOk (ρ:Env) (base:Nat) (k w:World) (rows:List RowI):Prop where
 ok:∀r∈rows,RowOk ρ base k w r
 dist:∀r∈rows,∀r'∈rows,r≠r'→∀g,aD ρ r=some g→aD ρ r'≠some g
theorem RowOk.mono {ρ ρ':Env}{base:Nat}{k k' w w':World}{r:RowI}(h:RowOk ρ base k w r) (he:ρ.le ρ')
 (hb:∀b g,ρ'.blk b=some g→g<w.heap.size→∃b',ρ.blk b'=some g)
 (hk:∀(g:Nat),k.heap[g]?=some dead→(∀b,ρ.blk b≠some g)→k'.heap[g]?=some dead)
 (hw:∀(g:Nat),g<w.heap.size→(∀b,ρ.blk b≠some g)→aD ρ r=some g→w'.heap[g]?=w.heap[g]?):RowOk ρ' base k' w' r:=by
 obtain⟨A,n,c,xs,h1,h2,h3,h4,h5,h6,h7,h8⟩:=h;refine⟨A,n,c,xs,he.val _ _ h1,he.val _ _ h2,he.kd _ _ h3,he.kd _ _ h4,h5,h6,h7,h8.imp id ?_⟩;rintro⟨g,cs,rfl,g1,g2,g3,g4,g5,g6,g7⟩;exact⟨g,cs,rfl,g1,(hw g g2.lt g7 (by unfold aD;rw [h1])).trans g2,g3,g4,g5,hk g g6 g7,fun b e=>by obtain⟨b',e'⟩:=hb b g e g2.lt;exact g7 b' e'⟩
theorem bG {ρ ρ':Env}{base:Nat}{k w:World}{r:RowI}(h:RowOk ρ base k w r) (he:ρ.le ρ'):aD ρ' r=aD ρ r:=by
 obtain⟨A,n,c,xs,h1,_⟩:=h;unfold aD;rw [h1,he.val _ _ h1]
theorem RowsOk.mono {ρ ρ':Env}{base:Nat}{k k' w w':World}{rows:List RowI}(h:RowsOk ρ base k w rows) (he:ρ.le ρ')
 (hb:∀b g,ρ'.blk b=some g→g<w.heap.size→∃b',ρ.blk b'=some g)
 (hk:∀(g:Nat),k.heap[g]?=some dead→(∀b,ρ.blk b≠some g)→k'.heap[g]?=some dead)
 (hw:∀(g:Nat),g<w.heap.size→(∀b,ρ.blk b≠some g)→w'.heap[g]?=w.heap[g]?):RowsOk ρ' base k' w' rows:=
 ⟨fun r hr=>(h.ok r hr).mono he hb hk (fun g h1 h2 _=>hw g h1 h2),fun r hr r' hr' hne=>by rw [bG (h.ok r hr) he,bG (h.ok r' hr') he];exact h.dist r hr r' hr' hne⟩
theorem RowsOk.sub {ρ:Env}{base:Nat}{k w:World}{rows rows0:List RowI}(h:RowsOk ρ base k w rows) (hs:∀r∈rows0,r∈rows):RowsOk ρ base k w rows0:=
 ⟨fun r hr=>h.ok r (hs r hr),fun r hr r' hr'=>h.dist r (hs r hr) r' (hs r' hr')⟩
theorem RowsOk.snoc {ρ:Env}{base:Nat}{k w:World}{rows:List RowI}{r:RowI}(h:RowsOk ρ base k w rows) (hr:RowOk ρ base k w r) (hd:∀r'∈rows,∀g,aD ρ r=some g→aD ρ r'≠some g):RowsOk ρ base k w (rows++[r]):=by
 refine⟨fun r' hr'=>?_,fun r1 h1 r2 h2 hne g=>?_⟩
 ·rcases qd.1 hr' with h1|h1
  ·exact h.ok r' h1
  ·rw [qt.1 h1];exact hr
 ·rcases qd.1 h1 with h1|h1 <;> rcases qd.1 h2 with h2|h2
  ·exact h.dist r1 h1 r2 h2 hne g
  ·rw [qt.1 h2];exact fun e e'=>hd r1 h1 g e' e
  ·rw [qt.1 h1];exact fun e e'=>hd r2 h2 g e e'
  ·rw [qt.1 h1,qt.1 h2]at hne;exact absurd rfl hne
def OneOk (ρ:Env) (base:Nat) (k w:World) (ty:TypeId) (s:Nat) (A:Option Addr) (n c:Nat) (xs:Array Value):Prop:=RowC xs∧xs.size=n*s∧n≤c∧
 ((A=none∧c=0)∨∃g cs,A=some ⟨g,0,none⟩∧base≤g∧Blk w g ty cs∧cs.size=c*s∧(∀(p:Nat) u,xs[p]?=some u→cs[p]?=some u)∧(∀u∈cs.toList,u.noWord=true)∧k.heap[g]?=some dead∧∀b,ρ.blk b≠some g)
structure FamB (ρ:Env) (base:Nat) (k w:World) (ty:TypeId) (s:Nat) (rows:List RowI) (vs xs:Array Value):Prop where
 size:vs.size=xs.size
 one:∀(j:Nat) v,vs[j]?=some v→∃A n c cs,v=.slice A n c∧xs[j]?=some (.agg cs)∧OneOk ρ base k w ty s A n c cs
 inj:∀(j j':Nat) a a' n n' c c',vs[j]?=some (.slice (some a) n c)→vs[j']?=some (.slice (some a') n' c')→a.block=a'.block→j=j'
 far:∀(j:Nat) a n c,vs[j]?=some (.slice (some a) n c)→∀r∈rows,aD ρ r≠some a.block
def FamOk (ρ:Env) (base:Nat) (k w:World) (fam:Option FamI) (rows:List RowI):Prop:=∀f,fam=some f→∃vs xs:Array Value,ρ.val f.v=some (.agg vs)∧ρ.val f.x=some (.agg xs)∧ρ.kd f.v=some .row∧ρ.kd f.x=some .fam∧0<f.s∧FamB ρ base k w f.ty f.s rows vs xs
theorem FamB.mono {ρ ρ':Env}{base:Nat}{k k' w w':World}{ty:TypeId}{s:Nat}{rows rows':List RowI}{vs xs:Array Value}(h:FamB ρ base k w ty s rows vs xs)
 (hb:∀b g,ρ'.blk b=some g→g<w.heap.size→∃b',ρ.blk b'=some g)
 (hk:∀(g:Nat),k.heap[g]?=some dead→(∀b,ρ.blk b≠some g)→(∀r∈rows,aD ρ r≠some g)→k'.heap[g]?=some dead)
 (hw:∀(g:Nat),g<w.heap.size→(∀b,ρ.blk b≠some g)→(∀r∈rows,aD ρ r≠some g)→w'.heap[g]?=w.heap[g]?)
 (hr:∀r∈rows',∀g,aD ρ' r=some g→w.heap.size≤g∨∃r0∈rows,aD ρ r0=some g):FamB ρ' base k' w' ty s rows' vs xs:=by
 have lt:∀(j:Nat) a n c,vs[j]?=some (.slice (some a) n c)→a.block<w.heap.size∧∀b,ρ.blk b≠some a.block:=fun j a n c hj=>by
  obtain⟨A,n',c',cs,e,_,_,_,_,h8⟩:=h.one j _ hj;injection e with e1 e2 e3;subst e1;rcases h8 with ⟨h8,_⟩|⟨g,cs',h8,_,g2,_,_,_,_,g7⟩
  ·cases h8
  ·injection h8 with h8;subst h8;exact⟨g2.lt,g7⟩
 refine⟨h.size,fun j v hj=>?_,h.inj,fun j a n c hj r hr' e=>?_⟩
 ·obtain⟨A,n,c,cs,rfl,e2,o1,o2,o3,o4⟩:=h.one j v hj;refine⟨A,n,c,cs,rfl,e2,o1,o2,o3,o4.imp id ?_⟩;rintro⟨g,cs',rfl,g1,g2,g3,g4,g5,g6,g7⟩;have far:=h.far j _ _ _ hj;exact⟨g,cs',rfl,g1,(hw g g2.lt g7 far).trans g2,g3,g4,g5,hk g g6 g7 far,fun b e=>by obtain⟨b',e'⟩:=hb b g e g2.lt;exact g7 b' e'⟩
 ·rcases hr r hr' _ e with h1|⟨r0,h1,h2⟩
  ·have:=(lt j a n c hj).1;omega
  ·exact h.far j a n c hj r0 h1 h2
theorem FamOk.mono {ρ ρ':Env}{base:Nat}{k k' w w':World}{fam:Option FamI}{rows rows':List RowI}(h:FamOk ρ base k w fam rows) (he:ρ.le ρ')
 (hb:∀b g,ρ'.blk b=some g→g<w.heap.size→∃b',ρ.blk b'=some g)
 (hk:∀(g:Nat),k.heap[g]?=some dead→(∀b,ρ.blk b≠some g)→(∀r∈rows,aD ρ r≠some g)→k'.heap[g]?=some dead)
 (hw:∀(g:Nat),g<w.heap.size→(∀b,ρ.blk b≠some g)→(∀r∈rows,aD ρ r≠some g)→w'.heap[g]?=w.heap[g]?)
 (hr:∀r∈rows',∀g,aD ρ' r=some g→w.heap.size≤g∨∃r0∈rows,aD ρ r0=some g):FamOk ρ' base k' w' fam rows':=fun f hf=>by
 obtain⟨vs,xs,h1,h2,h3,h4,h5,h6⟩:=h f hf;exact⟨vs,xs,he.val _ _ h1,he.val _ _ h2,he.kd _ _ h3,he.kd _ _ h4,h5,h6.mono hb hk hw hr⟩
theorem FamOk.same {ρ ρ':Env}{base:Nat}{k k' w w':World}{fam:Option FamI}{rows:List RowI}(h:FamOk ρ base k w fam rows) (hrows:RowsOk ρ base k w rows) (he:ρ.le ρ')
 (hb:∀b g,ρ'.blk b=some g→g<w.heap.size→∃b',ρ.blk b'=some g)
 (hk:∀(g:Nat),k.heap[g]?=some dead→(∀b,ρ.blk b≠some g)→k'.heap[g]?=some dead)
 (hw:∀(g:Nat),g<w.heap.size→(∀b,ρ.blk b≠some g)→w'.heap[g]?=w.heap[g]?):FamOk ρ' base k' w' fam rows:=
 h.mono he hb (fun g h1 h2 _=>hk g h1 h2) (fun g h1 h2 _=>hw g h1 h2) fun r hr g e=>.inr ⟨r,hr,by rw [←bG (hrows.ok r hr) he];exact e⟩
structure Rel (st:St) (ρ:Env) (k0:Anc) (w0 k:World) (a:Act) (w:World):Prop where
 anc:k0.ρ.le ρ
 up:Up k0.kk k
 dep:k0.d≤st.depth
 env:ρ.Ok
 kinds:∀i,ρ.kd i=st.kinds[i]?
 vals:∀i,st.kinds.length≤i→ρ.val i=none
 blks:∀b,st.heap.length≤b→ρ.blk b=none
 inj:∀b b' n,k0.heap.size≤n→ρ.blk b=some n→ρ.blk b'=some n→b=b'
 size:a.tmps.size=st.tmps.length
 tmps:∀t,Ok ρ (st.tm t) (a.tmps.getD t undef)
 defers:a.defers=[]
 sees:Sees k w
 base:k0.heap.size=w0.heap.size
 kb:Below k0.heap.size k0 k
 wb:Below w0.heap.size w0 w
 heap:∀b blk,st.heap[b]?=some blk→∃n vs,ρ.blk b=some n∧aC ρ blk.cells=some vs∧Blk w n blk.ty vs.toArray∧
  (blk.pub=false→k0.heap.size≤n∧k.heap[n]?=some dead)∧(blk.pub=true→Blk k n blk.ty vs.toArray∧ρ.val blk.pv=some (.pointer (some ⟨n,0,none⟩)))
 mem:∀A v,ρ.mem A=some v→k.cell? A=some v
 rows:RowsOk ρ k0.heap.size k w st.rows
 fam:FamOk ρ k0.heap.size k w st.fam st.rows
theorem eD (ty:TypeId) (cs:Array Value):Obj.cells cs ty (0,0)≠dead:=by
 unfold dead;intro e;injection e with _ _ e;cases e
theorem Blk.up {k k':World}{n:Nat}{ty:TypeId}{cs:Array Value}(h:Blk k n ty cs) (hu:Up k k'):Blk k' n ty cs:=
 hu.live _ _ h (eD _ _)
theorem Blk.sees {k w:World}{n:Nat}{ty:TypeId}{cs:Array Value}(h:Blk k n ty cs) (hu:Sees k w):Blk w n ty cs:=
 hu.live _ _ h (eD _ _)
section
variable {st:St}{ρ:Env}{k0:Anc}{w0 k w:World}{a:Act}
theorem pT (st:St) (d:Tmp) (v:SV) (t:Tmp):(st.put (some d) v).tm t=if d=t∧d<st.tmps.length then v else st.tm t:=Tab.get_set st.tmps d v t
theorem iM (b:Tab) (d:Nat) (v:SV):(b.set d v).length=b.length:=rfl
theorem uL (b:Tab) (f:SV→SV):(b.map f).length=b.length:=rfl
theorem lG (a:Act) (d:Tmp) (x:Value) (t:Tmp):(a.put (some d) x).tmps.getD t undef=if d=t∧d<a.tmps.size then x else a.tmps.getD t undef:=by
 unfold Act.put;simp only [jv,qz]
 by_cases h:d=t
 ·subst h
  by_cases hl:d<a.tmps.size
  ·simp [hl]
  ·simp [hl]
 ·simp [h]
theorem Rel.put (h:Rel st ρ k0 w0 k a w) (d:Option Tmp) {v:SV}{x:Value}(hv:Ok ρ v x):Rel (st.put d v) ρ k0 w0 k (a.put d x) w:=by
 cases d with
 | none=>exact h
 | some d=>
  refine { h with dep:=h.dep,size:=?_,tmps:=?_,defers:=h.defers,rows:=h.rows,fam:=h.fam }
  ·simp [St.put,Act.put,h.size,iM]
  ·intro t;rw [pT,lG,h.size];split
   ·exact hv
   ·exact h.tmps t
theorem Rel.drew (h:Rel st ρ k0 w0 k a w) (n:Nat):Rel st ρ k0 w0 k a { w with drawn:=n }:=
 { h with
   sees:=⟨h.sees.os,h.sees.tape,h.sees.output,h.sees.size,h.sees.live,h.sees.dark⟩
   wb:=⟨h.wb.os,h.wb.tape,h.wb.output,h.wb.size,h.wb.block⟩
   heap:=h.heap
   rows:=h.rows.mono (Env.le.refl ρ) (fun b _g e _=>⟨b,e⟩) (fun _ e _=>e) (fun _ _ _=>rfl)
   fam:=h.fam.same h.rows (Env.le.refl ρ) (fun b _g e _=>⟨b,e⟩) (fun _ e _=>e) (fun _ _ _=>rfl) }
theorem Rel.alloc (h:Rel st ρ k0 w0 k a w) {ty:TypeId}{cs:List SC}{vs:List Value}(hc:aC ρ cs=some vs) (hw:∀u∈vs,u.noWord=true) :
 ∃ρ' k',ρ.le ρ'∧ρ'.val=ρ.val∧ρ'.kd=ρ.kd∧ρ'.blk st.heap.length=some w.heap.size∧Up k k'∧Rel (st.new ty cs) ρ' k0 w0 k' a { w with heap:=w.heap.push (.cells vs.toArray ty) }:=by
 have hsz:=h.sees.size
 let ρ':Env:={ ρ with blk:=fun b=>if b=st.heap.length then some w.heap.size else ρ.blk b }
 have hle:ρ.le ρ':=⟨fun _ _ h=>h,fun b n hb=>by
  show (if b=st.heap.length then some w.heap.size else ρ.blk b)=some n
  by_cases e:b=st.heap.length
  ·rw [h.blks b oq]at hb;cases hb
  ·rw [oh e];exact hb,fun _ _ h=>h,fun _ _ h=>h⟩
 let k':World:={ k with heap:=k.heap.push dead }
 have hlt:∀b n,ρ.blk b=some n→n<w.heap.size:=fun b n hb=>by
  rcases zb b st.heap.length with hb'|hb'
  ·obtain⟨n',vs',h1,_,h3,_⟩:=h.heap b _ (qi hb');rw [hb]at h1;injection h1 with h1;subst h1;exact h3.lt
  ·rw [h.blks b hb']at hb;cases hb
 have hpush:∀(g:Nat),g<w.heap.size→(w.heap.push (.cells vs.toArray ty))[g]?=w.heap[g]?:=fun g hg=>by
  rw [zf,oh oq]
 have hpushk:∀(g:Nat),g<k.heap.size→k'.heap[g]?=k.heap[g]?:=fun g hg=>by
  show (k.heap.push dead)[g]?=_;rw [zf,oh oq]
 have hbk:∀b g,ρ'.blk b=some g→g<w.heap.size→∃b',ρ.blk b'=some g:=fun b g hb hg=>by
  have hb:(if b=st.heap.length then some w.heap.size else ρ.blk b)=some g:=hb;split at hb
  ·injection hb with hb;omega
  ·exact⟨b,hb⟩
 refine⟨ρ',k',hle,rfl,rfl,og rfl,⟨rfl,rfl,rfl,by simp [k'],fun g o hg _=>(hpushk g (heap_lt hg)).trans hg⟩,?_⟩;exact
  { anc:=h.anc.trans hle
    up:=h.up.trans ⟨rfl,rfl,rfl,by simp [k'],fun g o hg _=>(hpushk g (heap_lt hg)).trans hg⟩
    dep:=h.dep
    env:=h.env
    kinds:=h.kinds
    vals:=h.vals
    blks:=fun b hb=>by
     have:st.heap.length+1≤b:=by simpa [St.new] using hb
     show (if b=st.heap.length then some w.heap.size else ρ.blk b)=none;rw [oh oq];exact h.blks b oq
    inj:=fun b b' n hbase h1 h2=>by
     have h1:(if b=st.heap.length then some w.heap.size else ρ.blk b)=some n:=h1;have h2:(if b'=st.heap.length then some w.heap.size else ρ.blk b')=some n:=h2
     by_cases e:b=st.heap.length <;> by_cases e':b'=st.heap.length
     ·omega
     ·rw [og e]at h1;rw [oh e']at h2;injection h1 with h1;have:=hlt _ _ h2;omega
     ·rw [oh e]at h1;rw [og e']at h2;injection h2 with h2;have:=hlt _ _ h1;omega
     ·rw [oh e]at h1;rw [oh e']at h2;exact h.inj _ _ _ hbase h1 h2
    size:=h.size
    tmps:=fun t=>(h.tmps t).le hle
    defers:=h.defers
    sees:=
     { os:=h.sees.os
       tape:=h.sees.tape
       output:=h.sees.output
       size:=by simp [k',hsz]
       live:=fun g o hg hd=>by
        by_cases e:g=k.heap.size
        ·subst e;simp [k']at hg;exact absurd hg.symm hd
        ·have hg':g<k.heap.size:=by have:=heap_lt hg;simp [k']at this;omega
         rw [hpushk g hg']at hg;exact (hpush g oq).trans (h.sees.live g o hg hd)
       dark:=fun g hg=>by
        by_cases e:g=k.heap.size
        ·refine⟨vs.toArray,ty,(0,0),?_,by simpa using hw⟩;rw [e,←hsz];simp
        ·have hg':g<k.heap.size:=by have:=heap_lt hg;simp [k']at this;omega
         rw [hpushk g hg']at hg;obtain⟨cs',t',fr,h1,h2⟩:=h.sees.dark g hg
         exact⟨cs',t',fr,(hpush g oq).trans h1,h2⟩ }
    base:=h.base
    mem:=fun A v hv=>Up.cell (k:=k) (k':=k') ⟨rfl,rfl,rfl,by simp [k'],fun g o hg _=>(hpushk g (heap_lt hg)).trans hg⟩ (h.mem A v hv)
    rows:=h.rows.mono hle hbk (fun g hg _=>(hpushk g (heap_lt hg)).trans hg) (fun g hg _=>hpush g hg)
    fam:=h.fam.same h.rows hle hbk (fun g hg _=>(hpushk g (heap_lt hg)).trans hg) (fun g hg _=>hpush g hg)
    kb:=h.kb.trans ⟨rfl,rfl,rfl,by simp [k'],fun g hg=>hpushk g (by have:=h.kb.size;omega)⟩
    wb:=h.wb.trans ⟨rfl,rfl,rfl,by simp,fun g hg=>hpush g (by have:=h.wb.size;omega)⟩
    heap:=fun b blk hb=>by
     unfold St.new at hb;simp only [jn]at hb;split at hb
     ·rename_i hlt';obtain⟨n,vs',h1,h2,h3,h4,h5⟩:=h.heap b blk hb;refine⟨n,vs',hle.blk _ _ h1,aJ hle h2,(hpush n h3.lt).trans h3,fun hp=>?_,fun hp=>?_⟩
      ·obtain⟨a1,a2⟩:=h4 hp;exact⟨a1,(hpushk n (heap_lt a2)).trans a2⟩
      ·obtain⟨a1,a2⟩:=h5 hp;exact⟨(hpushk n a1.lt).trans a1,a2⟩
     ·rename_i hge;have hb0:b=st.heap.length:=by
       rcases zb (b-st.heap.length) 1 with h1|h1
       ·omega
       ·rw [ob (by simpa using h1)]at hb;cases hb
      subst hb0;simp at hb;subst hb;refine⟨w.heap.size,vs,og rfl,aJ hle hc,by unfold Blk;simp,fun _=>⟨?_,?_⟩,fun hp=>by cases hp⟩
      ·have:=h.kb.size;omega
      ·simp [k',hsz] }
theorem Rel.store (h:Rel st ρ k0 w0 k a w) {b n:Nat}{blk:SB}{cs:List SC}{us:List Value}(hb:st.heap[b]?=some blk) (hp:blk.pub=false) (hn:ρ.blk b=some n) (hc:aC ρ cs=some us)
 (hw:∀u∈us,u.noWord=true):Rel (st.setB b cs) ρ k0 w0 k a (World.putBlk w n blk.ty us.toArray):=by
 obtain⟨n',vs,h1,h2,h3,h4,_⟩:=h.heap b blk hb;rw [hn]at h1;injection h1 with h1;subst h1;obtain⟨hbase,hdead⟩:=h4 hp;have hoth:∀g,g≠n→(World.putBlk w n blk.ty us.toArray).heap[g]?=w.heap[g]?:=fun g hg=>by
  unfold World.putBlk;simp only [qz];rw [oh (Ne.symm hg)]
 have hsize:(World.putBlk w n blk.ty us.toArray).heap.size=w.heap.size:=by unfold World.putBlk;simp
 exact
  { anc:=h.anc
    up:=h.up
    dep:=h.dep
    env:=h.env
    kinds:=h.kinds
    vals:=h.vals
    blks:=fun b' hb'=>h.blks b' (by simpa [St.setB] using hb')
    inj:=h.inj
    size:=h.size
    tmps:=h.tmps
    defers:=h.defers
    sees:=
     { os:=h.sees.os
       tape:=h.sees.tape
       output:=h.sees.output
       size:=by rw [hsize];exact h.sees.size
       live:=fun g o hg hd=>by
        by_cases e:g=n
        ·subst e;rw [hdead]at hg;injection hg with hg;exact absurd hg.symm hd
        ·rw [hoth g e];exact h.sees.live g o hg hd
       dark:=fun g hg=>by
        by_cases e:g=n
        ·subst e;exact⟨_,_,_,h3.put _,by simpa using hw⟩
        ·rw [hoth g e];exact h.sees.dark g hg }
    base:=h.base
    kb:=h.kb
    mem:=h.mem
    rows:=h.rows.mono (Env.le.refl ρ) (fun b g e _=>⟨b,e⟩) (fun _ e _=>e) (fun g _ hg=>hoth g fun e=>hg b (by rw [e];exact hn))
    fam:=h.fam.same h.rows (Env.le.refl ρ) (fun b g e _=>⟨b,e⟩) (fun _ e _=>e) (fun g _ hg=>hoth g fun e=>hg b (by rw [e];exact hn))
    wb:=h.wb.trans ⟨rfl,rfl,rfl,by rw [hsize];exact oy _,fun g hg=>hoth g (by have:=h.base;omega)⟩
    heap:=fun b' blk' hb'=>by
     unfold St.setB at hb';simp only [ka]at hb'
     by_cases e:b=b'
     ·subst e;rw [hb]at hb';simp at hb';subst hb';exact⟨n,us,hn,hc,h3.put _,fun _=>⟨hbase,hdead⟩,fun hp'=>by rw [hp]at hp';cases hp'⟩
     ·simp only [e]at hb';have hb'':st.heap[b']?=some blk':=by simpa using hb'
      obtain⟨n2,vs2,g1,g2,g3,g4,g5⟩:=h.heap b' blk' hb'';have hne:n2≠n:=fun e'=>e (h.inj _ _ _ hbase hn (e'▸g1))
      exact⟨n2,vs2,g1,g2,(hoth n2 hne).trans g3,g4,g5⟩ }
theorem Rel.rowStep (h:Rel st ρ k0 w0 k a w) {lks:List LK}{us:List Value}{k' w':World}{rows':List RowI}(hf:fitsL lks us) (hu:Up k k') (hs:Sees k' w') (hkb:Below k0.heap.size k0 k') (hwb:Below w0.heap.size w0 w')
 (hw:∀b (n:Nat),ρ.blk b=some n→w'.heap[n]?=w.heap[n]?) (hk:∀b (n:Nat),ρ.blk b=some n→k'.heap[n]?=k.heap[n]?) (hle:ρ.le (ρ.ext st.kinds.length lks us))
 (hr:RowsOk (ρ.ext st.kinds.length lks us) k0.heap.size k' w' rows') (hfam:FamOk (ρ.ext st.kinds.length lks us) k0.heap.size k' w' st.fam rows'):Rel { st with kinds:=st.kinds++lks,rows:=rows' } (ρ.ext st.kinds.length lks us) k0 w0 k' a w' where
 anc:=h.anc.trans hle
 up:=h.up.trans hu
 dep:=h.dep
 env:=fun i kk v h1 h2=>by
  have h1:(if i<st.kinds.length then ρ.kd i else lks[i-st.kinds.length]?)=some kk:=h1;have h2:(if i<st.kinds.length then ρ.val i else us[i-st.kinds.length]?)=some v:=h2
  by_cases e:i<st.kinds.length
  ·rw [og e]at h1 h2;exact h.env i kk v h1 h2
  ·rw [oh e]at h1 h2;exact (bZ hf).2 _ _ _ h1 h2
 kinds:=fun i=>by
  show (if i<st.kinds.length then ρ.kd i else lks[i-st.kinds.length]?)=(st.kinds++lks)[i]?;rw [jn];split
  ·exact h.kinds i
  ·rfl
 vals:=fun i hi=>by
  have hi':st.kinds.length+lks.length≤i:=by simpa using hi
  show (if i<st.kinds.length then ρ.val i else us[i-st.kinds.length]?)=none;rw [oh oq];exact ob (by have:=(bZ hf).1;omega)
 blks:=h.blks
 inj:=h.inj
 size:=h.size
 tmps:=fun t=>(h.tmps t).le hle
 defers:=h.defers
 sees:=hs
 base:=h.base
 kb:=hkb
 wb:=hwb
 heap:=fun b blk hb=>by
  obtain⟨n,vs,h1,h2,h3,h4,h5⟩:=h.heap b blk hb;refine⟨n,vs,h1,aJ hle h2,(hw b n h1).trans h3,fun hp=>?_,fun hp=>?_⟩
  ·obtain⟨a1,a2⟩:=h4 hp;exact⟨a1,(hk b n h1).trans a2⟩
  ·obtain⟨a1,a2⟩:=h5 hp;exact⟨(hk b n h1).trans a1,hle.val _ _ a2⟩
 mem:=fun A v hv=>hu.cell (h.mem A v hv)
 rows:=hr
 fam:=hfam
theorem Env.at_le {ρ:Env}{k:World}(h:∀A v,ρ.mem A=some v→k.cell? A=some v):ρ.le (ρ.at k):=⟨fun _ _ h=>h,fun _ _ h=>h,fun _ _ h=>h,h⟩
theorem Rel.at (h:Rel st ρ k0 w0 k a w):Rel st (ρ.at k) k0 w0 k a w:=
 { h with
   anc:=h.anc.trans (Env.at_le h.mem)
   dep:=h.dep
   defers:=h.defers
   tmps:=fun t=>(h.tmps t).le (Env.at_le h.mem)
   heap:=fun b blk hb=>by
    obtain⟨n,vs,h1,h2,h3⟩:=h.heap b blk hb;exact⟨n,vs,h1,aJ (Env.at_le h.mem) h2,h3⟩
   mem:=fun _ _ h=>h
   rows:=h.rows.mono (Env.at_le h.mem) (fun b g e _=>⟨b,e⟩) (fun _ e _=>e) (fun _ _ _=>rfl)
   fam:=h.fam.same h.rows (Env.at_le h.mem) (fun b g e _=>⟨b,e⟩) (fun _ e _=>e) (fun _ _ _=>rfl) }
theorem Rel.memOk (h:Rel st ρ k0 w0 k a w):∀A v,ρ.mem A=some v→w.cell? A=some v:=fun A v hv=>h.sees.cell (h.mem A v hv)
end
