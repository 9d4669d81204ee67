/- A symbolic executor of the model's code: how it is used. -/
import Derived.Test.YthiaclljcnincaaGreatApSy13
namespace Go.Proofs.YthiaclljcnincaaGreat.Sy
open Go.RowKit
def Env.of (k:World) (vals:List Value) (kinds:List LK) (blks:List Nat):Env:=⟨fun i=>vals[i]?,fun b=>blks[b]?,fun i=>kinds[i]?,k.cell?⟩
theorem execFn_use {P:Program}{cfg:Cfg}(hm:P.follows .mixedOrders=true) {f:FuncId}{args:List SV}{vals vs:List Value}{kinds:List LK}{k:World}{R:World→Value→Prop}
 (hfit:fitsL kinds vals) (hargs:argsD (Env.of k vals kinds []) args=some vs)
 {V:Prop}(hV:V=(execFn P cfg f args [] kinds).den P ⟨R,fun _ _ _=>True⟩ (Env.of k vals kinds []).bare k) (hT:V):CallsG P f vs.toArray k R:=by
 rw [hV]at hT;refine nW (cfg:=cfg) (ρ:=Env.of k vals kinds []) hm ?_ hargs hT;have hg:=bZ hfit;exact
  { env:=fun i kk v h1 h2=>hg.2 i kk v h1 h2
    kd:=fun i=>rfl
    vals:=fun i hi=>ob oq
    blks:=fun b _=>rfl
    mem:=fun _ _ h=>h
    hp:=fun b blk h=>by simp at h }
theorem execFnR_use {P:Program}{cfg:Cfg}(hm:P.follows .mixedOrders=true) {f:FuncId}{args:List SV}{vals vs:List Value}{kinds:List LK}{k:World}{R:World→Value→Prop}{ty:TypeId}{s:Nat}
 (hfit:fitsL kinds vals) (hargs:argsD (Env.of k vals kinds []) args=some vs)
 {V:Prop}(hV:V=(xA P cfg f args [] kinds ty s).den P ⟨R,fun _ _ _=>True⟩ (Env.of k vals kinds []).bare k) (hT:V):CallsR P f vs.toArray k ty s R:=by
 rw [hV]at hT;refine uS (cfg:=cfg) (ρ:=Env.of k vals kinds []) hm ?_ hargs hT;have hg:=bZ hfit;exact
  { env:=fun i kk v h1 h2=>hg.2 i kk v h1 h2
    kd:=fun i=>rfl
    vals:=fun i hi=>ob oq
    blks:=fun b _=>rfl
    mem:=fun _ _ h=>h
    hp:=fun b blk h=>by simp at h }
theorem execFnRF_use {P:Program}{cfg:Cfg}(hm:P.follows .mixedOrders=true) {f:FuncId}{args:List SV}{vals vs:List Value}{kinds:List LK}{k:World}{R:World→Value→Prop}{ty:TypeId}{s:Nat}{u:TypeId}{us:Nat}
 (hfit:fitsL kinds vals) (hargs:argsD (Env.of k vals kinds []) args=some vs)
 {V:Prop}(hV:V=(tA P cfg f args [] kinds ty s u us).den P ⟨R,fun _ _ _=>True⟩ (Env.of k vals kinds []).bare k) (hT:V):CallsRF P f vs.toArray k ty s u us R:=by
 rw [hV]at hT;refine tB (cfg:=cfg) (ρ:=Env.of k vals kinds []) hm ?_ hargs hT;have hg:=bZ hfit;exact
  { env:=fun i kk v h1 h2=>hg.2 i kk v h1 h2
    kd:=fun i=>rfl
    vals:=fun i hi=>ob oq
    blks:=fun b _=>rfl
    mem:=fun _ _ h=>h
    hp:=fun b blk h=>by simp at h }
theorem tC {P:Program}{cfg:Cfg}(hm:P.follows .mixedOrders=true) {f:FuncId}{args:List SV}{vals vs:List Value}{kinds:List LK}{blks:List Nat}{heap:List SB}{k:World}{R:World→Value→Prop}
 (hfit:fitsL kinds vals) (hargs:argsD (Env.of k vals kinds blks) args=some vs) (hlen:blks.length=heap.length)
 (hheap:∀(b:Nat) (blk:SB),heap[b]?=some blk→blk.pub=true∧∃(n:Nat) (vs:List Value),blks[b]?=some n∧aC (Env.of k vals kinds blks) blk.cells=some vs∧Blk k n blk.ty vs.toArray∧vals[blk.pv]?=some (.pointer (some ⟨n,0,none⟩)))
 {V:Prop}(hV:V=(execFn P cfg f args heap kinds).den P ⟨R,fun _ _ _=>True⟩ (Env.of k vals kinds blks).bare k) (hT:V):CallsG P f vs.toArray k R:=by
 rw [hV]at hT;refine nW (cfg:=cfg) (ρ:=Env.of k vals kinds blks) hm ?_ hargs hT;have hg:=bZ hfit;exact
  { env:=fun i kk v h1 h2=>hg.2 i kk v h1 h2
    kd:=fun i=>rfl
    vals:=fun i hi=>ob oq
    blks:=fun b hb=>ob oq
    mem:=fun _ _ h=>h
    hp:=hheap }
def HeapOk (k:World) (ρ:Env):List SB→List Nat→Prop
 | [],[]=>True
 | blk :: h,n :: ns=>(blk.pub=true∧(∃vs,aC ρ blk.cells=some vs∧Blk k n blk.ty vs.toArray)∧ρ.val blk.pv=some (.pointer (some ⟨n,0,none⟩)))∧HeapOk k ρ h ns
 | _,_=>False
theorem HeapOk.get {k:World}{ρ:Env}:∀ {heap:List SB}{ns:List Nat},HeapOk k ρ heap ns→ns.length=heap.length∧
 ∀(b:Nat) (blk:SB),heap[b]?=some blk→blk.pub=true∧∃(n:Nat) (vs:List Value),ns[b]?=some n∧aC ρ blk.cells=some vs∧Blk k n blk.ty vs.toArray∧ρ.val blk.pv=some (.pointer (some ⟨n,0,none⟩))
 | [],[],_=>⟨rfl,fun b blk h=>by simp at h⟩
 | blk :: h,n :: ns,⟨⟨h1,⟨vs,h2,h3⟩,h4⟩,h5⟩=>by
  obtain⟨i1,i2⟩:=HeapOk.get h5;refine⟨by simp [i1],fun b blk' hb=>?_⟩;cases b with
  | zero=>simp at hb;subst hb;exact⟨h1,n,vs,rfl,h2,h3,h4⟩
  | succ b=>exact i2 b blk' (by simpa using hb)
theorem execFn_use_heap {P:Program}{cfg:Cfg}(hm:P.follows .mixedOrders=true) {f:FuncId}{args:List SV}{vals vs:List Value}{kinds:List LK}{blks:List Nat}{heap:List SB}{k:World}{R:World→Value→Prop}
 (hfit:fitsL kinds vals) (hargs:argsD (Env.of k vals kinds blks) args=some vs) (hheap:HeapOk k (Env.of k vals kinds blks) heap blks)
 {V:Prop}(hV:V=(execFn P cfg f args heap kinds).den P ⟨R,fun _ _ _=>True⟩ (Env.of k vals kinds blks).bare k) (hT:V):CallsG P f vs.toArray k R:=
 tC (cfg:=cfg) hm hfit hargs hheap.get.1 (fun b blk hb=>hheap.get.2 b blk hb) hV hT
