/- Several texts in one. (Printed by prep.py.) -/
import Derived.Test.YtlginncipdaifaaGreatRows
import Derived.WalkKit
import Derived.ProofKit
import Derived.OpenShut
import Derived.Carry
import Derived.Test.YtlginncipdaifaaGreatOxQ5
import Derived.Test.YtlginncipdaifaaGreatOxOX
/- Arguments of the statements: integers, and aggregates of integers. -/
namespace Go.Proofs.YtlginncipdaifaaGreat.Row
open Go.ChangeShapes Go.WideShapes Go.ChangeAt Go.RowKit
theorem own : ownKnob Tryz.prog.godebug = none:=by kernel_rfl
theorem laid : laidOutB Tryz.prog = true:=by kernel_rfl
set_option maxRecDepth 100000 in
theorem cell64 {W : World} {base : Nat} {v : Value} (h : Cell.okWide Tryz.prog W .any base 2 v) : ∃ n,v = .int .i64 n∧In64 n:=by
 have hv : Value.okWide Tryz.prog W .any base 2 v:=by
  simp only [Value.okWide,Tryz.underlying2]
  exact h
 obtain ⟨n,rfl⟩:=okWide_int Tryz.underlying2 hv
 refine ⟨n,rfl,?_⟩
 simp only [Cell.okWide,Tryz.underlying2,Cell.ok] at h
 obtain ⟨_,h1,h2⟩:=h
 have e1 : IntKind.i64.min = -9223372036854775808:=rfl
 have e2 : IntKind.i64.max = 9223372036854775807:=rfl
 rw [e1] at h1
 rw [e2] at h2
 exact ⟨h1,by omega⟩
set_option maxRecDepth 100000 in
theorem cells {W : World} {base m : Nat} {cs : Array Value} {ts : List TypeId} (hsz : cs.size = m) (hts : ts = List.replicate m 2)
 (hc : ∀ (i : Nat) (v : Value),cs[i]? = some v→∃ u,ts[i % ts.length]? = some u∧Cell.okWide Tryz.prog W .any base u v) :
 ∃ l : List Int,l.length = m∧cs = (l.map (Value.int .i64)).toArray∧∀ x ∈ l,In64 x:=by
 have key : ∀ i,(hi : i < cs.size)→∃ n,cs[i] = .int .i64 n∧In64 n:=fun i hi=>by
  obtain ⟨u,hu,hk⟩:=hc i cs[i] (Array.getElem?_eq_getElem hi)
  rw [hts] at hu
  have hm:=List.mem_of_getElem? hu
  rw [List.mem_replicate] at hm
  obtain ⟨_,rfl⟩:=hm
  exact cell64 hk
 have gen : ∀ l : List Value,(∀ v ∈ l,∃ n,v = Value.int .i64 n∧In64 n)→∃ l' : List Int,l'.length = l.length∧l = l'.map (Value.int .i64)∧∀ x ∈ l',In64 x:=by
  intro l
  induction l with
  | nil=>intro _; exact ⟨[],rfl,rfl,fun x hx=>by cases hx⟩
  | cons v l ih =>
   intro h
   obtain ⟨n,rfl,hn⟩:=h v (by simp)
   obtain ⟨l',e1,e2,e3⟩:=ih fun v hv=>h v (by simp [hv])
   exact ⟨n :: l',by simp [e1],by rw [List.map_cons,← e2],fun x hx=>by
    rw [List.mem_cons] at hx
    rcases hx with rfl | hx
    ·exact hn
    ·exact e3 x hx⟩
 obtain ⟨l',e1,e2,e3⟩:=gen cs.toList fun v hv=>by
  obtain ⟨i,hi,rfl⟩:=List.getElem_of_mem hv
  rw [Array.getElem_toList]
  exact key i (by simpa using hi)
 refine ⟨l',by rw [e1,Array.length_toList,hsz],?_,e3⟩
 rw [← e2,Array.toArray_toList]
end Go.Proofs.YtlginncipdaifaaGreat.Row

/- Arguments of the statements: waveforms. -/
namespace Go.Proofs.YtlginncipdaifaaGreat.Row
open Go.ChangeShapes Go.WideShapes Go.ChangeAt Go.RowKit
theorem quads_of {n : Nat} (l : List Int) (hl : l.length = n*8) (hx : ∀ x ∈ l,In64 x) : ∃ f,ArrV n 8 IsQuad (l.map (Value.int .i64)).toArray f:=by
 have hin : ∀ j,In64 (l.getD j 0):=fun j=>by
  rw [List.getD_eq_getElem?_getD]
  by_cases h : j < l.length
  ·rw [List.getElem?_eq_getElem h]; exact hx _ (List.getElem_mem h)
  ·rw [List.getElem?_eq_none (by omega)]; exact ⟨by decide,by decide⟩
 refine ⟨fun i=>⟨ofQ (l.getD (i*8+0) 0) (l.getD (i*8+1) 0),ofQ (l.getD (i*8+2) 0) (l.getD (i*8+3) 0),ofQ (l.getD (i*8+4) 0) (l.getD (i*8+5) 0),ofQ (l.getD (i*8+6) 0) (l.getD (i*8+7) 0)⟩,by simpa using hl,fun i hi=>⟨_,_,_,_,_,_,_,_,⟨hin _,hin _,hin _,hin _,hin _,hin _,hin _,hin _⟩,?_,rfl⟩⟩
 have hb : (i+1)*8≤l.length:=by rw [hl]; exact Nat.mul_le_mul_right 8 hi
 refine elt_ext rfl fun q hq=>?_
 rw [elt_get _ _ _ _ hq (by simpa using hb)]
 have e : ((l.map (Value.int .i64)).toArray)[i*8+q]? = some (Value.int .i64 (l.getD (i*8+q) 0)):=by
  have hlt : i*8+q < l.length:=by omega
  simp [List.getD_eq_getElem?_getD,hlt]
 rw [e]
 match q,hq with
 | 0,_=>rfl
 | 1,_=>rfl
 | 2,_=>rfl
 | 3,_=>rfl
 | 4,_=>rfl
 | 5,_=>rfl
 | 6,_=>rfl
 | 7,_=>rfl
theorem roundTypes : Tryz.prog.cellTypes Tryz.prog.depth 87 = some (List.replicate 192 2):=by kernel_rfl
theorem roundCells : Tryz.prog.cellsOf 87 = 192:=by kernel_rfl
set_option maxRecDepth 100000 in
theorem round {W : World} {base : Nat} {v : Value} (h : Value.okWide Tryz.prog W .any base 87 v) : ∃ cs f,v = .agg cs∧ArrV 24 8 IsQuad cs f:=by
 simp only [Value.okWide,Tryz.underlying87] at h
 obtain ⟨cs,rfl,hsz,ts,hts,_,hc⟩:=h
 rw [roundTypes] at hts
 injection hts with hts
 rw [roundCells] at hsz
 obtain ⟨l,hl,rfl,hx⟩:=cells hsz hts.symm hc
 obtain ⟨f,hf⟩:=quads_of (n:=24) l hl hx
 exact ⟨_,f,rfl,hf⟩
end Go.Proofs.YtlginncipdaifaaGreat.Row

/- Arguments of the statements: tyres. -/
namespace Go.Proofs.YtlginncipdaifaaGreat.Row
open Go.ChangeShapes Go.WideShapes Go.ChangeAt Go.RowKit
theorem tyreTypes : Tryz.prog.cellTypes Tryz.prog.depth 99 = some (List.replicate 576 2):=by kernel_rfl
theorem tyreCells : Tryz.prog.cellsOf 99 = 576:=by kernel_rfl
set_option maxRecDepth 100000 in
theorem tyre3 {W : World} {base : Nat} {v : Value} (h : Value.okWide Tryz.prog W .any base 99 v) : ∃ (a b c : Array Value) (f g e : Nat→Q4),v = .agg (a.toList ++ (b.toList ++ (c.toList ++ ([])))).toArray∧ArrV 24 8 IsQuad a f∧ArrV 24 8 IsQuad b g∧ArrV 24 8 IsQuad c e:=by
 simp only [Value.okWide,Tryz.underlying99] at h
 obtain ⟨cs,rfl,hsz,ts,hts,_,hc⟩:=h
 rw [tyreTypes] at hts
 injection hts with hts
 rw [tyreCells] at hsz
 obtain ⟨l,hl,rfl,hx⟩:=cells hsz hts.symm hc
 obtain ⟨f,hf⟩:=quads_of (n:=24) (l.take 192) (by rw [List.length_take,hl]; rfl) fun x hm=>hx x (List.mem_of_mem_take hm)
 obtain ⟨g,hg⟩:=quads_of (n:=24) ((l.drop 192).take 192) (by rw [List.length_take,List.length_drop,hl]; rfl) fun x hm=>hx x (List.mem_of_mem_drop (List.mem_of_mem_take hm))
 obtain ⟨e,he⟩:=quads_of (n:=24) ((l.drop 192).drop 192) (by rw [List.length_drop,List.length_drop,hl]) fun x hm=>hx x (List.mem_of_mem_drop (List.mem_of_mem_drop hm))
 refine ⟨_,_,_,f,g,e,?_,hf,hg,he⟩
 congr 2
 rw [List.append_nil]
 show _ = List.map _ _ ++ (List.map _ _ ++ List.map _ _)
 rw [← List.map_append,← List.map_append,List.take_append_drop,List.take_append_drop]
end Go.Proofs.YtlginncipdaifaaGreat.Row

/- The statement OrdersSides. (Printed by gen/row.py.) -/
namespace Go.Proofs.YtlginncipdaifaaGreat.osides
open Go.ChangeShapes Go.WideShapes Go.ChangeAt Go.RowKit
open Sy (Up Sees CallsG Seg)
open Go.Proofs.YtlginncipdaifaaGreat.Row
set_option maxRecDepth 100000 in
theorem lifted (os : Os) (started : os.Started) (H : Type) (enc : TypeId × Value→H) :
 ReturnsInHanded {} Tryz.checked os 6 .any (Rows.ordersSidesSpec.pre6 enc Tryz.prog Tryz.f6 Rows.ordersSidesRow.domain false) (Rows.ordersSidesSpec.post enc Tryz.prog Tryz.f6 false true false false):=by
 refine returnsInHanded_of_change (C:=Tryz.checked) own started (by kernel_rfl) Tryz.func6
  (ChangeSpec.witness6 (enc:=enc) (C:=Tryz.checked) false ⟨#[],#[.agg (List.replicate 576 (.int .i64 0)).toArray],[]⟩ 8 (by kernel_rfl) (by kernel_rfl) (by kernel_rfl) (by kernel_rfl)) ?_
 intro W base args ds gs before hval0 hW hcnd _
 have hval : ∀ (j : Nat) t v,Tryz.f6.params[j]? = some t→args[j]? = some v→Value.okWide Tryz.prog W .any base t v:=hval0
 have hW':=hW
 obtain ⟨p,q,hA0,hV,rfl,hfz,hnd⟩:=hW
 have hA : DataW.TrodAll enc Tryz.prog W 0 (fun _=>true) true Tryz.f6.params.toList args.toList ds p:=hA0
 rw [Tryz.params6] at hA hval
 obtain ⟨v0,vs0,d0,ds0,p0,q0,hargs,rfl,rfl,h0,r0⟩:=trodAll_cons hA
 obtain ⟨rfl,rfl,rfl⟩:=trodAll_nil r0
 obtain rfl : args = #[v0]:=by cases args; simp_all
 obtain ⟨rfl,rfl⟩:=trodVars_none hV
 obtain ⟨a0,b0,c0,f0,g0,e0,rfl,ia0,ib0,ic0⟩:=tyre3 (hval 0 99 v0 rfl rfl)
 clear hA0 hval0
 have hlt : ∀ x ∈ p0 ++ [],x.block < W.heap.size:=fun x hx=>by simpa using hW'.lt x (by simpa using hx)
 have hcall:=osides_s (k:=W) (R:=fun _ v=>v = .bool true) ia0 ib0 ic0 (fun _ _=>rfl) W (Up.refl W) W (Sees.refl W)
 refine hcall.mono fun e W' he=>?_
 obtain ⟨v,k',rfl,_,_,hB,rfl⟩:=he
 refine ⟨_,rfl,_,_,_,[],p0 ++ [],[],hW',?_,?_,?_,hB.frame _,fun h=>by cases h⟩
 ·exact trodAll_mk1 (shut_bool Tryz.underlying4 _)
 ·exact trodAll_cons_mk (Below.trod laid (by kernel_rfl) (of_decide_eq_true (by kernel_rfl)) h0 hB (fun x hx=>hlt x (by simp [hx]))) trodAll_mk0
 ·exact rfl
theorem over : Rows.ordersSidesRow.holds Tryz.pinned (OpenSpec.ofChange Rows.ordersSidesSpec) :=
 OpenClaim.holds_of_wide 6 Tryz.f6 rfl rfl rfl rfl rfl rfl rfl ⟨rfl,rfl,rfl,rfl,rfl⟩ rfl rfl rfl rfl rfl (by kernel_rfl) Tryz.func6 (by kernel_rfl)
  (of_decide_eq_true (by kernel_rfl)) (by unfold Func.isWrapper; first | (rw [if_pos (by decide +kernel)]; kernel_rfl) | (rw [if_neg (by decide +kernel)]; exact ⟨rfl,rfl⟩))
  (fun os started H enc _=>lifted os started H enc)
theorem proved : Rows.OrdersSidesSaid:=over
#print axioms proved
end Go.Proofs.YtlginncipdaifaaGreat.osides

