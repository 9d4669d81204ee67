/- A symbolic executor of the model's code: what the model's own small programs do on a block that is known whole. -/
import Derived.Test.YthiaclljcnincaaGreatApAA
import Derived.Test.YthiaclljcnincaaGreatApSy1
namespace Go.Proofs.YthiaclljcnincaaGreat.Sy
open Go.RowKit
def Blk (w:World) (n:Nat) (t:TypeId) (cs:Array Value):Prop:=w.heap[n]?=some (.cells cs t (0,0))
theorem Blk.lt {w:World}{n:Nat}{t:TypeId}{cs:Array Value}(h:Blk w n t cs):n<w.heap.size:=by
 rcases zb n w.heap.size with hlt|hge
 ·exact hlt
 ·unfold Blk at h;rw [zq hge]at h;cases h
theorem Blk.cell {w:World}{n:Nat}{t:TypeId}{cs:Array Value}(h:Blk w n t cs) (i:Nat):w.cell? ⟨n,i,none⟩=cs[i]?:=by
 unfold Blk at h;simp [World.cell?,h]
theorem Blk.frozen {w:World}{n:Nat}{t:TypeId}{cs:Array Value}(h:Blk w n t cs) (i:Nat):w.frozen? ⟨n,i,none⟩=false:=by
 unfold Blk at h;simp [World.frozen?,h]
theorem Blk.set_ {w:World}{n:Nat}{t:TypeId}{cs:Array Value}(h:Blk w n t cs) (i:Nat) (u:Value):Blk (w.setCell ⟨n,i,none⟩ u) n t (cs.setIfInBounds i u):=by
 unfold Blk at h ⊢;simp [World.setCell,Array.getElem?_modify,h]
theorem bK (n o i:Nat):(⟨n,o,none⟩:Addr).add i=⟨n,o+i,none⟩:=by
 unfold Addr.add;split
 ·rename_i h;subst h;rfl
 ·rfl
theorem lC {α β:Type}{P:Program}{m:Sem α}{f:α→Sem β}{w w':World}{a:α}(h:m.run P w=.ok a w'):(m >>= f).run P w=(f a).run P w':=by
 simp [h]
theorem oN {P:Program}{w:World}{n o:Nat}{t:TypeId}{cs:Array Value}(h:Blk w n t cs) :
 ∀(m i:Nat) (acc:Array Value),o+i+m≤cs.size→(loadCellsFrom ⟨n,o,none⟩ i m acc).run P w=.ok (acc++cs.extract (o+i) (o+i+m)) w:=by
 intro m
 induction m with
 | zero=>
  intro i acc hm;simp [loadCellsFrom];omega
 | succ m ih=>
  intro i acc hm;have hc:w.cell? ⟨n,o+i,none⟩=some cs[o+i]:=by rw [h.cell,ql oq]
  have hl:(load ((⟨n,o,none⟩:Addr).add i)).run P w=.ok cs[o+i] w:=by
   rw [bK];simp [load,Sem.run,hc]
  unfold loadCellsFrom;rw [lC hl,ih (i+1) _ oq]
  congr 1
  have e:o+(i+1)=o+i+1:=oq
  have e2:o+(i+1)+m=o+i+(m+1):=oq
  rw [e2,e];apply zk;simp only [zd,Array.toList_push,Array.toList_extract,xj,List.append_assoc,List.singleton_append]
  congr 1
  have e3:o+i+(m+1)-(o+i)=m+1:=oq
  have e4:o+i+(m+1)-(o+i+1)=m:=oq
  have hl:o+i<cs.toList.length:=by simpa using (by omega:o+i<cs.size)
  rw [e3,e4,ko hl,List.take_succ_cons];simp
theorem mJ {P:Program}{w:World}{n o m:Nat}{t:TypeId}{cs:Array Value}(h:Blk w n t cs) (hm:o+m≤cs.size) :
 (loadCells ⟨n,o,none⟩ m).run P w=.ok (cs.extract o (o+m)) w:=by
 unfold loadCells;have:=oN (P:=P) h (o:=o) m 0 #[] oq;simpa using this
def World.putBlk (w:World) (n:Nat) (t:TypeId) (cs:Array Value):World:={ w with heap:=w.heap.setIfInBounds n (.cells cs t (0,0)) }
theorem over_size:∀(l:List Value) (cs:Array Value) (o:Nat),(over cs o l).size=cs.size
 | [],_,_=>rfl
 | v :: l,cs,o=>by unfold over;rw [over_size];simp
theorem uG {w:World}{n o:Nat}{t:TypeId}{cs:Array Value}(h:Blk w n t cs) (u:Value):w.setCell ⟨n,o,none⟩ u=World.putBlk w n t (cs.setIfInBounds o u):=by
 unfold World.setCell World.putBlk
 congr 1
 apply jc;intro i;rw [yz,qz]
 by_cases e:n=i
 ·subst e;have hl:=h.lt;unfold Blk at h;simp only [h,if_true,je,hl];rfl
 ·simp [e]
theorem Blk.put {w:World}{n:Nat}{t:TypeId}{cs:Array Value}(h:Blk w n t cs) (cs':Array Value):Blk (World.putBlk w n t cs') n t cs':=by
 unfold Blk World.putBlk;simp [h.lt]
theorem aDo {w:World}{n:Nat}{t:TypeId}(cs cs':Array Value):World.putBlk (World.putBlk w n t cs) n t cs'=World.putBlk w n t cs':=by
 unfold World.putBlk;simp
theorem qM {w:World}{n:Nat}{t:TypeId}{cs:Array Value}(h:Blk w n t cs):World.putBlk w n t cs=w:=by
 unfold World.putBlk;have:w.heap.setIfInBounds n (.cells cs t (0,0))=w.heap:=by
  apply jc;intro i;rw [qz]
  by_cases e:n=i
  ·subst e;rw [og rfl,og h.lt];exact h.symm
  ·rw [oh e]
 rw [this]
theorem lD {P:Program}:∀(l:List Value) (w:World) (n o i:Nat) (t:TypeId) (cs:Array Value),Blk w n t cs→(∀v∈l,v.scalar=true)→o+i+l.length≤cs.size→
 (storeCells ⟨n,o,none⟩ l i).run P w=.ok () (World.putBlk w n t (over cs (o+i) l))
 | [],w,n,o,i,t,cs,h,_,_=>by
  unfold storeCells over;rw [qM h];rfl
 | v :: l,w,n,o,i,t,cs,h,hs,hm=>by
  unfold storeCells over;simp only [qk]at hm;have hc:w.cell? ⟨n,o+i,none⟩=some cs[o+i]:=by rw [h.cell,ql oq]
  have hst:(store ((⟨n,o,none⟩:Addr).add i) v).run P w=.ok () (World.putBlk w n t (cs.setIfInBounds (o+i) v)):=by
   rw [bK,←uG h];have hv:=hs v (by simp);cases v <;> first|(simp [Value.scalar]at hv;done)|simp [store,Sem.run,hc,h.frozen]
  rw [lC hst,lD l _ n o (i+1) t _ (h.put _) (fun u hu=>hs u (by simp [hu])) (by simp;omega),aDo]
  congr 3
