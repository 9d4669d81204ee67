/- Several texts in one. (Printed by prep.py.) -/
import Derived.Test.YtlginncipdaifaaGreatOxSy14
import Derived.Test.YtlginncipdaifaaGreatOxVS
import Derived.Test.YtlginncipdaifaaGreatProg
import Derived.Test.YtlginncipdaifaaGreatOxTB
import Derived.Test.YtlginncipdaifaaGreatOxQ5
/- Arrays of numbers: rows of cells, read and written by an index. -/
namespace Go.Proofs.YtlginncipdaifaaGreat
open Go.RowKit
open Sy (Seg)
def zS : List Value:=[.bool false,.slice none 0 0,.bool false,.slice none 0 0,.bool false,.slice none 0 0,.bool false,.slice none 0 0,.slice none 0 0]
def zT : List Value:=[.bool false,.slice none 0 0,.slice none 0 0,.bool false,.slice none 0 0,.slice none 0 0,.bool false,.slice none 0 0,.slice none 0 0,.bool false,.slice none 0 0,.slice none 0 0]
def zArr (n : Nat) (z : List Value) : Array Value:=(List.replicate n z).flatten.toArray
def elt (cs : Array Value) (s i : Nat) : Array Value:=(Sy.pickL cs (i*s+0) s).toArray
structure Arr (n s : Nat) (E : Nat→Array Value→Prop) (cs : Array Value) : Prop where
 size : cs.size = n*s
 el : ∀ i,i < n→E i (elt cs s i)
section
variable {n s i : Nat} {E E' : Nat→Array Value→Prop} {cs ys : Array Value}
theorem over_get : ∀ (l : List Value) (cs : Array Value) (o q : Nat),o+l.length≤cs.size→(Sy.over cs o l)[q]? = if o≤q∧q < o+l.length then l[q - o]? else cs[q]?:=by
 intro l cs o q h
 rw [← Array.getElem?_toList,Sy.over_eq l cs o h,← Array.getElem?_toList]
 have hl : cs.toList.length = cs.size:=Array.length_toList
 simp only [List.getElem?_append,List.length_append,List.length_take,List.getElem?_take,List.getElem?_drop,hl]
 have e : min o cs.size = o:=by omega
 rw [e]
 by_cases h1 : q < o
 ·rw [if_pos (by omega),if_pos h1,if_pos h1,if_neg (by omega)]
 ·by_cases h2 : q < o+l.length
  ·rw [if_pos h2,if_neg h1,if_pos ⟨by omega,h2⟩]
  ·rw [if_neg h2,if_neg (by omega)]
   congr 1
   omega
theorem elt_get (cs : Array Value) (s i q : Nat) (hq : q < s) (hs : (i+1)*s≤cs.size) : (elt cs s i)[q]? = cs[i*s+q]?:=by
 have hm : (i+1)*s = i*s+s:=Nat.succ_mul _ _
 unfold elt Sy.pickL
 rw [← Array.getElem?_toList,List.getElem?_map,List.getElem?_range hq,Nat.add_zero]
 simp only [Option.map_some]
 rw [Array.getElem?_eq_getElem (by omega)]
 rfl
theorem elt_size (cs : Array Value) (s i : Nat) : (elt cs s i).size = s:=by simp [elt,Sy.pickL]
theorem elt_ext {a : Array Value} (ha : a.size = s) (h : ∀ q,q < s→(elt cs s i)[q]? = a[q]?) : elt cs s i = a:=by
 apply Array.ext_getElem?
 intro q
 by_cases hq : q < s
 ·exact h q hq
 ·rw [Array.getElem?_eq_none (by rw [elt_size]; omega),Array.getElem?_eq_none (by omega)]
theorem elt_over {j : Nat} (hs : cs.size = n*s) (hi : i < n) (hj : j < n) (hy : ys.size = s) : elt (Sy.over cs (i*s+0) ys.toList) s j = if j = i then ys else elt cs s j:=by
 have h1 : (i+1)*s≤n*s:=Nat.mul_le_mul_right s hi
 have h2 : (j+1)*s≤n*s:=Nat.mul_le_mul_right s hj
 have h3 : (i+1)*s = i*s+s:=Nat.succ_mul _ _
 have h4 : (j+1)*s = j*s+s:=Nat.succ_mul _ _
 have hl : ys.toList.length = s:=by simpa using hy
 by_cases e : j = i
 ·subst e
  rw [if_pos rfl]
  refine elt_ext hy fun q hq=>?_
  rw [elt_get _ _ _ _ hq (by rw [Sy.over_size]; omega),over_get _ _ _ _ (by omega),if_pos ⟨by omega,by omega⟩]
  rw [← Array.getElem?_toList]
  congr 1
  omega
 ·rw [if_neg e]
  refine elt_ext (elt_size _ _ _) fun q hq=>?_
  rw [elt_get _ _ _ _ hq (by rw [Sy.over_size]; omega),over_get _ _ _ _ (by omega),elt_get _ _ _ _ hq (by omega),if_neg]
  rintro ⟨a,b⟩
  rcases Nat.lt_or_gt_of_ne e with e | e
  ·have:=Nat.mul_le_mul_right s e
   have h5 : (j.succ)*s = j*s+s:=Nat.succ_mul _ _
   omega
  ·have:=Nat.mul_le_mul_right s e
   have h5 : (i.succ)*s = i*s+s:=Nat.succ_mul _ _
   omega
theorem Arr.mono (h : Arr n s E cs) (hE : ∀ i a,i < n→E i a→E' i a) : Arr n s E' cs:=⟨h.size,fun i hi=>hE i _ hi (h.el i hi)⟩
theorem Arr.get (h : Arr n s E cs) (hi : i < n) : E i (Sy.pickL cs (Int.toNat (i : Int)*s+0) s).toArray:=h.el i hi
theorem Arr.set (h : Arr n s E cs) (hi : i < n) (hy : ys.size = s) (h1 : E' i ys) (h2 : ∀ j a,j < n→j ≠ i→E j a→E' j a) : Arr n s E' (Sy.over cs (Int.toNat (i : Int)*s+0) ys.toList):=by
 refine ⟨by rw [Sy.over_size]; exact h.size,fun j hj=>?_⟩
 show E' j (elt (Sy.over cs (i*s+0) ys.toList) s j)
 rw [elt_over h.size hi hj hy]
 split
 ·rename_i e; subst e; exact h1
 ·rename_i e; exact h2 j _ hj e (h.el j hj)
theorem Arr.seg (h : Arr n s E cs) (hE : ∀ i a,i < n→E i a→Seg s a) : Seg (n*s) cs:=by
 refine ⟨h.size,fun u hu=>?_⟩
 obtain ⟨p,hp,rfl⟩:=List.getElem_of_mem hu
 have hp' : p < n*s:=by rw [← h.size]; simpa using hp
 have hs : 0 < s:=Nat.pos_of_ne_zero fun e=>by subst e; omega
 have hi : p / s < n:=(Nat.div_lt_iff_lt_mul hs).2 hp'
 have hsg:=hE _ _ hi (h.el _ hi)
 have hq:=Nat.mod_lt p hs
 have hd:=Nat.div_add_mod p s
 have e : (elt cs s (p / s))[p % s]? = cs[p]?:=by
  have h1 : (p / s+1)*s≤n*s:=Nat.mul_le_mul_right s hi
  rw [elt_get _ _ _ _ hq (by rw [h.size]; exact h1)]
  congr 1
  rw [Nat.mul_comm]; exact hd
 have hc : cs[p]? = some cs.toList[p]:=by rw [← Array.getElem?_toList]; exact List.getElem?_eq_getElem hp
 refine hsg.2 _ ?_
 rw [hc,← Array.getElem?_toList] at e
 exact List.mem_of_getElem? e
theorem Arr.rep {a : Array Value} (n : Nat) (ha : a.size = s) (h : ∀ i,i < n→E i a) : Arr n s E (List.replicate n a.toList).flatten.toArray:=by
 have hl : ∀ m,(List.replicate m a.toList).flatten.length = m*s:=fun m=>by
  induction m with
  | zero=>simp
  | succ m ih=>rw [List.replicate_succ,List.flatten_cons,List.length_append,ih,Array.length_toList,ha,Nat.succ_mul,Nat.add_comm]
 have hg : ∀ m i q,i < m→q < s→(List.replicate m a.toList).flatten[i*s+q]? = a[q]?:=by
  intro m
  induction m with
  | zero=>intro i q hi; omega
  | succ m ih =>
   intro i q hi hq
   rw [List.replicate_succ,List.flatten_cons,List.getElem?_append,Array.length_toList,ha]
   cases i with
   | zero=>rw [if_pos (by omega),Nat.zero_mul,Nat.zero_add,Array.getElem?_toList]
   | succ i =>
    have h3 : (i+1)*s = i*s+s:=Nat.succ_mul _ _
    rw [if_neg (by omega)]
    have:=ih i q (by omega) hq
    rw [← this]
    congr 1
    omega
 refine ⟨by simpa using hl n,fun i hi=>?_⟩
 have e : elt (List.replicate n a.toList).flatten.toArray s i = a:=by
  refine elt_ext ha fun q hq=>?_
  have h1 : (i+1)*s≤n*s:=Nat.mul_le_mul_right s hi
  rw [elt_get _ _ _ _ hq (by simpa [hl] using h1)]
  have:=hg n i q hi hq
  rw [← Array.getElem?_toList]
  exact this
 rw [e]; exact h i hi
end
def ArrV {α : Type} (n s : Nat) (P : Array Value→α→Prop) (cs : Array Value) (f : Nat→α) : Prop:=Arr n s (fun i a=>P a (f i)) cs
def cut {α : Type} (j : Nat) (F G : Nat→α) (i : Nat) : α:=if i < j then F i else G i
section
variable {α : Type} {n s i j : Nat} {P Q : Array Value→α→Prop} {cs ys : Array Value} {f g F G : Nat→α}
theorem ArrV.get (h : ArrV n s P cs f) (hi : i < n) : P (Sy.pickL cs (Int.toNat (i : Int)*s+0) s).toArray (f i):=Arr.get h hi
theorem ArrV.mono (h : ArrV n s P cs f) (hP : ∀ a v,P a v→Q a v) : ArrV n s Q cs f:=Arr.mono h fun _ _ _=>hP _ _
theorem ArrV.congr (h : ArrV n s P cs f) (e : ∀ i,i < n→f i = g i) : ArrV n s P cs g:=Arr.mono h fun i _ hi h=>by rw [← e i hi]; exact h
theorem ArrV.seg (h : ArrV n s P cs f) (hP : ∀ a v,P a v→Seg s a) : Seg (n*s) cs:=Arr.seg h fun _ _ _=>hP _ _
theorem ArrV.set (h : ArrV n s P cs f) (hi : i < n) (hs : ys.size = s) (hy : P ys (g i)) (e : ∀ j,j < n→j ≠ i→f j = g j) : ArrV n s P (Sy.over cs (Int.toNat (i : Int)*s+0) ys.toList) g :=
 Arr.set h hi hs hy fun j _ hj hne h=>by rw [← e j hj hne]; exact h
theorem ArrV.step (h : ArrV n s P cs (cut j F G)) (hj : j < n) (hs : ys.size = s) (hy : P ys (F j)) : ArrV n s P (Sy.over cs (Int.toNat (j : Int)*s+0) ys.toList) (cut (j+1) F G) :=
 ArrV.set h hj hs (by unfold cut; rw [if_pos (Nat.lt_succ_self j)]; exact hy) fun i _ hne=>by
  unfold cut
  by_cases c : i < j
  ·rw [if_pos c,if_pos (by omega)]
  ·rw [if_neg c,if_neg (by omega)]
theorem ArrV.start (h : ArrV n s P cs G) : ArrV n s P cs (cut 0 F G):=h.congr fun _ _=>(if_neg (Nat.not_lt_zero _)).symm
theorem ArrV.done (h : ArrV n s P cs (cut j F G)) (hj : n≤j) : ArrV n s P cs F:=h.congr fun _ hi=>if_pos (by omega)
theorem ArrV.at (h : ArrV n s P cs (cut j F G)) (hj : j < n) : P (Sy.pickL cs (Int.toNat (j : Int)*s+0) s).toArray (G j):=by
 have:=h.get hj
 unfold cut at this
 rwa [if_neg (Nat.lt_irrefl j)] at this
theorem ArrV.zero {z : List Value} (hz : z.length = s) (v : α) (h : P z.toArray v) : ArrV n s P (zArr n z) fun _=>v:=Arr.rep (a:=z.toArray) n (by simpa using hz) fun _ _=>h
def optP (s : Nat) (P : Array Value→α→Prop) (a : Array Value) : Option α→Prop
 | none=>Seg s a
 | some v=>P a v
theorem optP.seg {a : Array Value} {v : Option α} (hP : ∀ v,P a v→Seg s a) (h : optP s P a v) : Seg s a:=by
 cases v with
 | none=>exact h
 | some v=>exact hP v h
end
theorem ix24 {j : Nat} (h : j < 24) : decide ((0 : Int)≤(j : Int)∧(j : Int) < 24) = true:=decide_eq_true ⟨by omega,by omega⟩
theorem ix13 {j : Nat} (h : j < 13) : decide ((0 : Int)≤(j : Int)∧(j : Int) < 13) = true:=decide_eq_true ⟨by omega,by omega⟩
theorem lt24 {j : Nat} (h : decide ((j : Int) < 24) = true) : j < 24:=by have:=of_decide_eq_true h; omega
theorem ge24 {j : Nat} (h : decide ((j : Int) < 24) = false) : 24≤j:=by have:=of_decide_eq_false h; omega
theorem lt13 {j : Nat} (h : decide ((j : Int) < 13) = true) : j < 13:=by have:=of_decide_eq_true h; omega
theorem ge13 {j : Nat} (h : decide ((j : Int) < 13) = false) : 13≤j:=by have:=of_decide_eq_false h; omega
theorem wup {j : Nat} (h : j < 100) : IntKind.wrap .i64 ((j : Int)+1) = ((j+1 : Nat) : Int):=by rw [IntKind.wrap_i64]; omega
end Go.Proofs.YtlginncipdaifaaGreat

/- What is to be shown of the calls of some functions. (Printed by gen/vc.py.) -/
namespace Go.Proofs.YtlginncipdaifaaGreat
open Go.RowKit
open Value (agg slice int bool tuple)
open Sy (Up Sees CallsG Seg execFn_use)
set_option maxRecDepth 100000
variable {k : World} {R : World→Value→Prop}
theorem oplace_vc {n0 : Int}
 (h : ∀ k0,Up k k0→R k0 (int .i64 (Int.tmod (IntKind.wrap .i64 ((Int.tmod n0 24)+24)) 24))) :
 CallsG Tryz.prog 106 #[int .i64 n0] k R :=
 execFn_use (cfg:={ opq:=[] }) (args:=[.one (.var 0)]) (vals:=[int .i64 n0]) (kinds:=[.int .i64]) (by kernel_rfl) ⟨⟨_,rfl⟩,trivial⟩ (by kernel_rfl) (by kernel_rfl) h
theorem otimes_vc {cs0 cs1 : Array Value} (hcs0 : Seg 9 cs0) (hcs1 : Seg 18 cs1)
 (h : Cl k 28 #[agg cs1] fun k1 r0=>Gt 9 r0 fun cs2 =>
 Cl k1 68 #[agg cs0,agg cs2] fun k3 r2=>Gt 9 r2 fun cs3 =>
 Cl k3 67 #[agg cs1] fun k5 r4=>Gt 9 r4 fun cs4 =>
 Cl k5 68 #[agg cs0,agg cs4] fun k7 r6=>Gt 9 r6 fun cs5 =>
 Cl k7 27 #[agg cs3,agg cs5] fun k9 r8=>Gt 18 r8 fun cs6 =>
 ∀ k10,Up k9 k10→R k10 (agg cs6)) :
  CallsG Tryz.prog 138 #[agg cs0,agg cs1] k R :=
  execFn_use (cfg:={ opq:=[32,34] }) (args:=[.agg [.seg 0 9],.agg [.seg 1 18]]) (vals:=[agg cs0,agg cs1]) (kinds:=[.seg 9,.seg 18]) (by kernel_rfl) ⟨⟨cs0,rfl,hcs0⟩,⟨⟨cs1,rfl,hcs1⟩,trivial⟩⟩ (by kernel_rfl) (by kernel_rfl) h
theorem opart_vc {n0 : Int}
 (h : Cl k 88 #[int .i64 1,int .i64 n0] fun k1 r0=>∃ cs1,Seg 3 cs1∧∃ n2,some (tuple #[agg cs1,int .i64 n2]) = some r0 ∧
 Cl k1 89 #[agg #[bool false,slice none 0 0,bool false,slice none 0 0,bool false,slice none 0 0,bool false,slice none 0 0,slice none 0 0],agg cs1] fun k3 r2=>Gt 9 r2 fun cs3 =>
 ∀ k4,Up k3 k4→R k4 (agg cs3)) :
  CallsG Tryz.prog 96 #[int .i64 n0] k R :=
  execFn_use (cfg:={ opq:=[32,157] }) (args:=[.one (.var 0)]) (vals:=[int .i64 n0]) (kinds:=[.int .i64]) (by kernel_rfl) ⟨⟨_,rfl⟩,trivial⟩ (by kernel_rfl) (by kernel_rfl) h
theorem owhole_vc {n0 : Int}
 (h : Cl k 91 #[int .i64 n0] fun k1 r0=>Gt 3 r0 fun cs1 =>
 Cl k1 89 #[agg #[bool false,slice none 0 0,bool false,slice none 0 0,bool false,slice none 0 0,bool false,slice none 0 0,slice none 0 0],agg cs1] fun k3 r2=>Gt 9 r2 fun cs2 =>
 ∀ k4,Up k3 k4→R k4 (agg cs2)) :
  CallsG Tryz.prog 101 #[int .i64 n0] k R :=
  execFn_use (cfg:={ opq:=[32,157] }) (args:=[.one (.var 0)]) (vals:=[int .i64 n0]) (kinds:=[.int .i64]) (by kernel_rfl) ⟨⟨_,rfl⟩,trivial⟩ (by kernel_rfl) (by kernel_rfl) h
theorem oorder_vc {cs0 : Array Value} {n1 : Int} (hcs0 : Seg 216 cs0)
 (h : ∃ I0 : Nat→World→List Value→Prop,(∃ m0,∀ k0,Up k k0→I0 m0 k0 [int .i64 0,agg #[bool false,slice none 0 0,bool false,slice none 0 0,bool false,slice none 0 0,bool false,slice none 0 0,slice none 0 0,bool false,slice none 0 0,bool false,slice none 0 0,bool false,slice none 0 0,bool false,slice none 0 0,slice none 0 0]]) ∧
 ∀ m0 k0 vs0,Up k k0→I0 m0 k0 vs0→∃ n2,∃ cs3,Seg 18 cs3∧some [int .i64 n2,agg cs3] = some vs0 ∧
 ((decide ((n2 : Int) < 24)) = true →
 ((decide ((0 : Int)≤n2∧(n2 : Int) < 24)) = true ∧
 (Cl k0 62 #[int .i64 (IntKind.wrap .i64 ((IntKind.wrap .i64 (0 - n1))*n2))] fun k2 r1=>Gt 18 r1 fun cs4 =>
 Cl k2 138 #[agg (Sy.pickL cs0 (Int.toNat n2*9+0) 9).toArray,agg cs4] fun k4 r3=>Gt 18 r3 fun cs5 =>
 Cl k4 63 #[agg cs3,agg cs5] fun k6 r5=>Gt 18 r5 fun cs6 =>
 ∀ k7,Up k6 k7→∃ m,m < m0∧I0 m k7 [int .i64 (IntKind.wrap .i64 (n2+1)),agg cs6]))) ∧
 ((decide ((n2 : Int) < 24)) = false →
 (Cl k0 96 #[int .i64 24] fun k9 r8=>Gt 9 r8 fun cs4 =>
 Cl k9 138 #[agg cs4,agg cs3] fun k11 r10=>Gt 18 r10 fun cs5 =>
 ∀ k12,Up k11 k12→R k12 (agg cs5)))) :
  CallsG Tryz.prog 90 #[agg cs0,int .i64 n1] k R :=
  execFn_use (cfg:={ opq:=[72,32,34],loops:=[(0,[.tmp 9 false [.int .i64],.blk 2 [.seg 18]])] }) (args:=[.agg [.seg 0 216],.one (.var 1)]) (vals:=[agg cs0,int .i64 n1]) (kinds:=[.seg 216,.int .i64]) (by kernel_rfl) ⟨⟨cs0,rfl,hcs0⟩,⟨⟨_,rfl⟩,trivial⟩⟩ (by kernel_rfl) (by kernel_rfl) h
theorem oAnalyze_vc {cs0 : Array Value} (hcs0 : Seg 216 cs0)
 (h : ∃ I0 : Nat→World→List Value→Prop,(∃ m0,∀ k0,Up k k0→I0 m0 k0 [int .i64 0,agg (zArr 13 (zS ++ zS))]) ∧
 ∀ m0 k0 vs0,Up k k0→I0 m0 k0 vs0→∃ n1,∃ cs2,Seg 234 cs2∧some [int .i64 n1,agg cs2] = some vs0 ∧
 ((decide ((n1 : Int) < 13)) = true →
 (Cl k0 90 #[agg cs0,int .i64 n1] fun k2 r1=>Gt 18 r1 fun cs3 =>
 (decide ((0 : Int)≤n1∧(n1 : Int) < 13)) = true ∧
 (∀ k3,Up k2 k3→∃ m,m < m0∧I0 m k3 [int .i64 (IntKind.wrap .i64 (n1+1)),agg (Sy.over cs2 (Int.toNat n1*18+0) cs3.toList)]))) ∧
 ((decide ((n1 : Int) < 13)) = false →
 (∀ k4,Up k0 k4→R k4 (agg cs2)))) :
   CallsG Tryz.prog 31 #[agg cs0] k R :=
  execFn_use (cfg:={ opq:=[72,66,32,34],loops:=[(0,[.tmp 5 false [.int .i64],.blk 2 [.seg 234]])] }) (args:=[.agg [.seg 0 216]]) (vals:=[agg cs0]) (kinds:=[.seg 216]) (by kernel_rfl) ⟨⟨cs0,rfl,hcs0⟩,trivial⟩ (by kernel_rfl) (by kernel_rfl) h
theorem oweight_vc {n0 : Int}
 (h : (((n0 : Int) == 0) = true →
 (Cl k 101 #[int .i64 1] fun k1 r0=>Gt 9 r0 fun cs1 =>
 ∀ k2,Up k1 k2→R k2 (agg cs1))) ∧
 (((n0 : Int) == 0) = false →
 ((((n0 : Int) == 12) = true →
 (Cl k 101 #[int .i64 1] fun k4 r3=>Gt 9 r3 fun cs1 =>
 ∀ k5,Up k4 k5→R k5 (agg cs1))) ∧
 (((n0 : Int) == 12) = false →
 (Cl k 101 #[int .i64 2] fun k7 r6=>Gt 9 r6 fun cs1 =>
 ∀ k8,Up k7 k8→R k8 (agg cs1)))))) :
  CallsG Tryz.prog 83 #[int .i64 n0] k R :=
  execFn_use (cfg:={ opq:=[32] }) (args:=[.one (.var 0)]) (vals:=[int .i64 n0]) (kinds:=[.int .i64]) (by kernel_rfl) ⟨⟨_,rfl⟩,trivial⟩ (by kernel_rfl) (by kernel_rfl) h
theorem oEnergy_vc {cs0 : Array Value} (hcs0 : Seg 234 cs0)
 (h : ∃ I0 : Nat→World→List Value→Prop,(∃ m0,∀ k0,Up k k0→I0 m0 k0 [int .i64 0,agg #[bool false,slice none 0 0,bool false,slice none 0 0,bool false,slice none 0 0,bool false,slice none 0 0,slice none 0 0]]) ∧
 ∀ m0 k0 vs0,Up k k0→I0 m0 k0 vs0→∃ n1,∃ cs2,Seg 9 cs2∧some [int .i64 n1,agg cs2] = some vs0 ∧
 ((decide ((n1 : Int) < 13)) = true →
 ((decide ((0 : Int)≤n1∧(n1 : Int) < 13)) = true ∧
 (Cl k0 83 #[int .i64 n1] fun k2 r1=>Gt 9 r1 fun cs3 =>
 Cl k2 71 #[agg (Sy.pickL cs0 (Int.toNat n1*18+0) 18).toArray] fun k4 r3=>Gt 9 r3 fun cs4 =>
 Cl k4 68 #[agg cs3,agg cs4] fun k6 r5=>Gt 9 r5 fun cs5 =>
 Cl k6 82 #[agg cs2,agg cs5] fun k8 r7=>Gt 9 r7 fun cs6 =>
 ∀ k9,Up k8 k9→∃ m,m < m0∧I0 m k9 [int .i64 (IntKind.wrap .i64 (n1+1)),agg cs6]))) ∧
 ((decide ((n1 : Int) < 13)) = false →
 (∀ k10,Up k0 k10→R k10 (agg cs2)))) :
   CallsG Tryz.prog 25 #[agg cs0] k R :=
  execFn_use (cfg:={ opq:=[66,32,34],loops:=[(0,[.tmp 7 false [.int .i64],.blk 2 [.seg 9]])] }) (args:=[.agg [.seg 0 234]]) (vals:=[agg cs0]) (kinds:=[.seg 234]) (by kernel_rfl) ⟨⟨cs0,rfl,hcs0⟩,trivial⟩ (by kernel_rfl) (by kernel_rfl) h
theorem oMirrored_vc {cs0 : Array Value} (hcs0 : Seg 216 cs0)
 (h : ∃ I0 : Nat→World→List Value→Prop,(∃ m0,∀ k0,Up k k0→I0 m0 k0 [int .i64 0,agg (zArr 24 zS)]) ∧
 ∀ m0 k0 vs0,Up k k0→I0 m0 k0 vs0→∃ n1,∃ cs2,Seg 216 cs2∧some [int .i64 n1,agg cs2] = some vs0 ∧
 ((decide ((n1 : Int) < 24)) = true →
 (Cl k0 106 #[int .i64 (IntKind.wrap .i64 (0 - n1))] fun k2 r1=>∃ n3,some (int .i64 n3) = some r1 ∧
 (decide ((0 : Int)≤n3∧(n3 : Int) < 24)) = true ∧
 ((decide ((0 : Int)≤n1∧(n1 : Int) < 24)) = true ∧
 (∀ k3,Up k2 k3→∃ m,m < m0∧I0 m k3 [int .i64 (IntKind.wrap .i64 (n1+1)),agg (Sy.over cs2 (Int.toNat n1*9+0) (Sy.pickL cs0 (Int.toNat n3*9+0) 9))])))) ∧
 ((decide ((n1 : Int) < 24)) = false →
 (∀ k4,Up k0 k4→R k4 (agg cs2)))) :
   CallsG Tryz.prog 49 #[agg cs0] k R :=
  execFn_use (cfg:={ opq:=[72,32],loops:=[(0,[.tmp 5 false [.int .i64],.blk 2 [.seg 216]])] }) (args:=[.agg [.seg 0 216]]) (vals:=[agg cs0]) (kinds:=[.seg 216]) (by kernel_rfl) ⟨⟨cs0,rfl,hcs0⟩,trivial⟩ (by kernel_rfl) (by kernel_rfl) h
theorem oScaled_vc {cs0 cs1 : Array Value} (hcs0 : Seg 216 cs0) (hcs1 : Seg 9 cs1)
 (h : ∃ I0 : Nat→World→List Value→Prop,(∃ m0,∀ k0,Up k k0→I0 m0 k0 [int .i64 0,agg cs0]) ∧
 ∀ m0 k0 vs0,Up k k0→I0 m0 k0 vs0→∃ n2,∃ cs3,Seg 216 cs3∧some [int .i64 n2,agg cs3] = some vs0 ∧
 ((decide ((n2 : Int) < 24)) = true →
 ((decide ((0 : Int)≤n2∧(n2 : Int) < 24)) = true ∧
 (Cl k0 68 #[agg cs1,agg (Sy.pickL cs3 (Int.toNat n2*9+0) 9).toArray] fun k2 r1=>Gt 9 r1 fun cs4 =>
 (decide ((0 : Int)≤n2∧(n2 : Int) < 24)) = true ∧
 (∀ k3,Up k2 k3→∃ m,m < m0∧I0 m k3 [int .i64 (IntKind.wrap .i64 (n2+1)),agg (Sy.over cs3 (Int.toNat n2*9+0) cs4.toList)])))) ∧
 ((decide ((n2 : Int) < 24)) = false →
 (∀ k4,Up k0 k4→R k4 (agg cs3)))) :
   CallsG Tryz.prog 53 #[agg cs0,agg cs1] k R :=
  execFn_use (cfg:={ opq:=[72,32],loops:=[(0,[.tmp 6 false [.int .i64],.blk 0 [.seg 216]])] }) (args:=[.agg [.seg 0 216],.agg [.seg 1 9]]) (vals:=[agg cs0,agg cs1]) (kinds:=[.seg 216,.seg 9]) (by kernel_rfl) ⟨⟨cs0,rfl,hcs0⟩,⟨⟨cs1,rfl,hcs1⟩,trivial⟩⟩ (by kernel_rfl) (by kernel_rfl) h
theorem omean_vc {cs0 : Array Value} (hcs0 : Seg 216 cs0)
 (h : Cl k 90 #[agg cs0,int .i64 0] fun k1 r0=>Gt 18 r0 fun cs1 =>
 Cl k1 28 #[agg cs1] fun k3 r2=>Gt 9 r2 fun cs2 =>
 ∀ k4,Up k3 k4→R k4 (agg cs2)) :
  CallsG Tryz.prog 95 #[agg cs0] k R :=
  execFn_use (cfg:={ opq:=[72,32,34] }) (args:=[.agg [.seg 0 216]]) (vals:=[agg cs0]) (kinds:=[.seg 216]) (by kernel_rfl) ⟨⟨cs0,rfl,hcs0⟩,trivial⟩ (by kernel_rfl) (by kernel_rfl) h
theorem oSides_vc {cs0 cs1 cs2 : Array Value} (hcs0 : Seg 216 cs0) (hcs1 : Seg 216 cs1) (hcs2 : Seg 216 cs2)
 (h : Cl k 95 #[agg cs1] fun k1 r0=>Gt 9 r0 fun cs3 =>
 Cl k1 95 #[agg cs2] fun k3 r2=>Gt 9 r2 fun cs4 =>
 Cl k3 96 #[int .i64 2] fun k5 r4=>Gt 9 r4 fun cs5 =>
 Cl k5 82 #[agg cs3,agg cs4] fun k7 r6=>Gt 9 r6 fun cs6 =>
 Cl k7 68 #[agg cs5,agg cs6] fun k9 r8=>Gt 9 r8 fun cs7 =>
 Cl k9 96 #[int .i64 2] fun k11 r10=>Gt 9 r10 fun cs8 =>
 Cl k11 69 #[agg cs3,agg cs4] fun k13 r12=>Gt 9 r12 fun cs9 =>
 Cl k13 68 #[agg cs8,agg cs9] fun k15 r14=>Gt 9 r14 fun cs10 =>
 ∀ k16,Up k15 k16→R k16 (tuple #[agg cs7,agg cs10])) :
  CallsG Tryz.prog 36 #[agg (cs0.toList ++ (cs1.toList ++ (cs2.toList ++ ([])))).toArray] k R :=
  execFn_use (cfg:={ opq:=[72,32] }) (args:=[.agg [.seg 0 216,.seg 1 216,.seg 2 216]]) (vals:=[agg cs0,agg cs1,agg cs2]) (kinds:=[.seg 216,.seg 216,.seg 216]) (by kernel_rfl) ⟨⟨cs0,rfl,hcs0⟩,⟨⟨cs1,rfl,hcs1⟩,⟨⟨cs2,rfl,hcs2⟩,trivial⟩⟩⟩ (by kernel_rfl) (by kernel_rfl) h
theorem rplace_vc {n0 : Int}
 (h : ∀ k0,Up k k0→R k0 (int .i64 (Int.tmod (IntKind.wrap .i64 ((Int.tmod n0 24)+24)) 24))) :
 CallsG Tryz.prog 107 #[int .i64 n0] k R :=
 execFn_use (cfg:={ opq:=[] }) (args:=[.one (.var 0)]) (vals:=[int .i64 n0]) (kinds:=[.int .i64]) (by kernel_rfl) ⟨⟨_,rfl⟩,trivial⟩ (by kernel_rfl) (by kernel_rfl) h
theorem rfraction_vc {n0 n1 : Int}
 (h : Cl k 139 #[int .i64 n0,int .i64 n1] fun k1 r0=>∃ cs2,Seg 3 cs2∧∃ n3,some (tuple #[agg cs2,int .i64 n3]) = some r0 ∧
 Cl k1 131 #[agg cs2] fun k3 r2=>Gt 12 r2 fun cs4 =>
 ∀ k4,Up k3 k4→R k4 (agg cs4)) :
  CallsG Tryz.prog 98 #[int .i64 n0,int .i64 n1] k R :=
  execFn_use (cfg:={ opq:=[39,37] }) (args:=[.one (.var 0),.one (.var 1)]) (vals:=[int .i64 n0,int .i64 n1]) (kinds:=[.int .i64,.int .i64]) (by kernel_rfl) ⟨⟨_,rfl⟩,⟨⟨_,rfl⟩,trivial⟩⟩ (by kernel_rfl) (by kernel_rfl) h
theorem rMirrored_vc {cs0 : Array Value} (hcs0 : Seg 288 cs0)
 (h : ∃ I0 : Nat→World→List Value→Prop,(∃ m0,∀ k0,Up k k0→I0 m0 k0 [int .i64 0,agg (zArr 24 zT)]) ∧
 ∀ m0 k0 vs0,Up k k0→I0 m0 k0 vs0→∃ n1,∃ cs2,Seg 288 cs2∧some [int .i64 n1,agg cs2] = some vs0 ∧
 ((decide ((n1 : Int) < 24)) = true →
 ((decide ((0 : Int)≤n1∧(n1 : Int) < 24)) = true ∧
 (Cl k0 107 #[int .i64 (IntKind.wrap .i64 (0 - n1))] fun k2 r1=>∃ n3,some (int .i64 n3) = some r1 ∧
 (decide ((0 : Int)≤n3∧(n3 : Int) < 24)) = true ∧
 (∀ k3,Up k2 k3→∃ m,m < m0∧I0 m k3 [int .i64 (IntKind.wrap .i64 (n1+1)),agg (Sy.over cs2 (Int.toNat n3*12+0) (Sy.pickL cs0 (Int.toNat n1*12+0) 12))])))) ∧
 ((decide ((n1 : Int) < 24)) = false →
 (∀ k4,Up k0 k4→R k4 (agg cs2)))) :
   CallsG Tryz.prog 50 #[agg cs0] k R :=
  execFn_use (cfg:={ opq:=[76,39],loops:=[(0,[.tmp 4 false [.int .i64],.blk 2 [.seg 288]])] }) (args:=[.agg [.seg 0 288]]) (vals:=[agg cs0]) (kinds:=[.seg 288]) (by kernel_rfl) ⟨⟨cs0,rfl,hcs0⟩,trivial⟩ (by kernel_rfl) (by kernel_rfl) h
theorem rScaled_vc {cs0 cs1 : Array Value} (hcs0 : Seg 288 cs0) (hcs1 : Seg 12 cs1)
 (h : ∃ I0 : Nat→World→List Value→Prop,(∃ m0,∀ k0,Up k k0→I0 m0 k0 [int .i64 0,agg cs0]) ∧
 ∀ m0 k0 vs0,Up k k0→I0 m0 k0 vs0→∃ n2,∃ cs3,Seg 288 cs3∧some [int .i64 n2,agg cs3] = some vs0 ∧
 ((decide ((n2 : Int) < 24)) = true →
 ((decide ((0 : Int)≤n2∧(n2 : Int) < 24)) = true ∧
 (Cl k0 86 #[agg cs1,agg (Sy.pickL cs3 (Int.toNat n2*12+0) 12).toArray] fun k2 r1=>Gt 12 r1 fun cs4 =>
 (decide ((0 : Int)≤n2∧(n2 : Int) < 24)) = true ∧
 (∀ k3,Up k2 k3→∃ m,m < m0∧I0 m k3 [int .i64 (IntKind.wrap .i64 (n2+1)),agg (Sy.over cs3 (Int.toNat n2*12+0) cs4.toList)])))) ∧
 ((decide ((n2 : Int) < 24)) = false →
 (∀ k4,Up k0 k4→R k4 (agg cs3)))) :
   CallsG Tryz.prog 55 #[agg cs0,agg cs1] k R :=
  execFn_use (cfg:={ opq:=[76,39],loops:=[(0,[.tmp 5 false [.int .i64],.blk 0 [.seg 288]])] }) (args:=[.agg [.seg 0 288],.agg [.seg 1 12]]) (vals:=[agg cs0,agg cs1]) (kinds:=[.seg 288,.seg 12]) (by kernel_rfl) ⟨⟨cs0,rfl,hcs0⟩,⟨⟨cs1,rfl,hcs1⟩,trivial⟩⟩ (by kernel_rfl) (by kernel_rfl) h
theorem lRounds_vc {cs0 : Array Value} (hcs0 : Seg 192 cs0)
 (h : ∃ I0 : Nat→World→List Value→Prop,(∃ m0,∀ k0,Up k k0→I0 m0 k0 [int .i64 0,agg (zArr 24 zS),agg (zArr 24 zT)]) ∧
 ∀ m0 k0 vs0,Up k k0→I0 m0 k0 vs0→∃ n1,∃ cs2,Seg 216 cs2∧∃ cs3,Seg 288 cs3∧some [int .i64 n1,agg cs2,agg cs3] = some vs0 ∧
 ((decide ((n1 : Int) < 24)) = true →
 ((decide ((0 : Int)≤n1∧(n1 : Int) < 24)) = true ∧
 (Cl k0 54 #[agg (Sy.pickL cs0 (Int.toNat n1*8+0) 8).toArray] fun k2 r1=>Gt 9 r1 fun cs4 =>
 (decide ((0 : Int)≤n1∧(n1 : Int) < 24)) = true ∧
 (Cl k2 56 #[agg (Sy.pickL cs0 (Int.toNat n1*8+0) 8).toArray] fun k4 r3=>Gt 12 r3 fun cs5 =>
 (decide ((0 : Int)≤n1∧(n1 : Int) < 24)) = true ∧
 (∀ k5,Up k4 k5→∃ m,m < m0∧I0 m k5 [int .i64 (IntKind.wrap .i64 (n1+1)),agg (Sy.over cs2 (Int.toNat n1*9+0) cs4.toList),agg (Sy.over cs3 (Int.toNat n1*12+0) cs5.toList)]))))) ∧
 ((decide ((n1 : Int) < 24)) = false →
 (∀ k6,Up k0 k6→R k6 (tuple #[agg cs2,agg cs3])))) :
   CallsG Tryz.prog 33 #[agg cs0] k R :=
  execFn_use (cfg:={ opq:=[87,72,76,32,39],loops:=[(0,[.tmp 9 false [.int .i64],.blk 3 [.seg 216],.blk 4 [.seg 288]])] }) (args:=[.agg [.seg 0 192]]) (vals:=[agg cs0]) (kinds:=[.seg 192]) (by kernel_rfl) ⟨⟨cs0,rfl,hcs0⟩,trivial⟩ (by kernel_rfl) (by kernel_rfl) h
theorem lisRound_vc {cs0 cs1 : Array Value} (hcs0 : Seg 216 cs0) (hcs1 : Seg 288 cs1)
 (h : ∃ I0 : Nat→World→List Value→Prop,(∃ m0,∀ k0,Up k k0→I0 m0 k0 [int .i64 0]) ∧
 ∀ m0 k0 vs0,Up k k0→I0 m0 k0 vs0→∃ n2,some [int .i64 n2] = some vs0 ∧
 ((decide ((n2 : Int) < 24)) = true →
 ((decide ((0 : Int)≤n2∧(n2 : Int) < 24)) = true ∧
 ((decide ((0 : Int)≤n2∧(n2 : Int) < 24)) = true ∧
 (Cl k0 17 #[agg (Sy.pickL cs0 (Int.toNat n2*9+0) 9).toArray,agg (Sy.pickL cs1 (Int.toNat n2*12+0) 12).toArray] fun k2 r1=>∃ b3,some (bool b3) = some r1 ∧
 ((!b3) = true →
 (∀ k3,Up k2 k3→R k3 (bool false))) ∧
 ((!b3) = false →
 (∀ k4,Up k2 k4→∃ m,m < m0∧I0 m k4 [int .i64 (IntKind.wrap .i64 (n2+1))])))))) ∧
 ((decide ((n2 : Int) < 24)) = false →
 (∀ k5,Up k0 k5→R k5 (bool true)))) :
   CallsG Tryz.prog 23 #[agg cs0,agg cs1] k R :=
  execFn_use (cfg:={ opq:=[72,76,32,39],loops:=[(0,[.tmp 6 false [.int .i64]])] }) (args:=[.agg [.seg 0 216],.agg [.seg 1 288]]) (vals:=[agg cs0,agg cs1]) (kinds:=[.seg 216,.seg 288]) (by kernel_rfl) ⟨⟨cs0,rfl,hcs0⟩,⟨⟨cs1,rfl,hcs1⟩,trivial⟩⟩ (by kernel_rfl) (by kernel_rfl) h
theorem lawake_vc
 (h : Cl k 91 #[int .i64 1] fun k1 r0=>Gt 3 r0 fun cs0 =>
 Cl k1 89 #[agg #[bool false,slice none 0 0,bool false,slice none 0 0,bool false,slice none 0 0,bool false,slice none 0 0,slice none 0 0],agg cs0] fun k3 r2=>Gt 9 r2 fun cs1 =>
 Cl k3 31 #[agg (cs1.toList ++ (List.replicate 23 zS).flatten).toArray] fun k5 r4=>Gt 234 r4 fun cs2 =>
 ∃ I6 : Nat→World→List Value→Prop,(∃ m6,∀ k6,Up k5 k6→I6 m6 k6 [int .i64 0,agg ((zArr 24 zS).toList ++ ((zArr 24 zS).toList ++ ((zArr 24 zS).toList ++ ([])))).toArray]) ∧
 ∀ m6 k6 vs6,Up k5 k6→I6 m6 k6 vs6→∃ n3,∃ cs4,Seg 216 cs4∧∃ cs5,Seg 216 cs5∧∃ cs6,Seg 216 cs6∧some [int .i64 n3,agg (cs4.toList ++ (cs5.toList ++ (cs6.toList ++ ([])))).toArray] = some vs6 ∧
 ((decide ((n3 : Int) < 24)) = true →
 ((decide ((0 : Int)≤n3∧(n3 : Int) < 24)) = true ∧
 ((decide ((0 : Int)≤n3∧(n3 : Int) < 24)) = true ∧
 (Cl k6 91 #[int .i64 30] fun k8 r7=>Gt 3 r7 fun cs7 =>
 Cl k8 89 #[agg (Sy.pickL cs5 (Int.toNat n3*9+0) 9).toArray,agg cs7] fun k10 r9=>Gt 9 r9 fun cs8 =>
 (decide ((0 : Int)≤n3∧(n3 : Int) < 24)) = true ∧
 (Cl k10 91 #[int .i64 (-10)] fun k12 r11=>Gt 3 r11 fun cs9 =>
 Cl k12 89 #[agg (Sy.pickL cs6 (Int.toNat n3*9+0) 9).toArray,agg cs9] fun k14 r13=>Gt 9 r13 fun cs10 =>
 (decide ((0 : Int)≤n3∧(n3 : Int) < 24)) = true ∧
 (∀ k15,Up k14 k15→∃ m,m < m6∧I6 m k15 [int .i64 (IntKind.wrap .i64 (n3+1)),agg (cs4.toList ++ ((Sy.over cs5 (Int.toNat n3*9+0) cs8.toList).toList ++ ((Sy.over cs6 (Int.toNat n3*9+0) cs10.toList).toList ++ ([])))).toArray])))))) ∧
 ((decide ((n3 : Int) < 24)) = false →
 (Cl k6 36 #[agg (cs4.toList ++ (cs5.toList ++ (cs6.toList ++ ([])))).toArray] fun k17 r16=>∃ cs7,Seg 9 cs7∧∃ cs8,Seg 9 cs8∧some (tuple #[agg cs7,agg cs8]) = some r16 ∧
 Cl k17 25 #[agg cs2] fun k19 r18=>Gt 9 r18 fun cs9 =>
 Cl k19 78 #[agg cs9] fun k21 r20=>∃ s10,some (Value.string s10) = some r20 ∧
 ((ByteArray.toList s10 == ByteArray.toList ⟨#[49,47,50,52]⟩) = true →
 (Cl k21 28 #[agg (Sy.pickL cs2 (Int.toNat 0*0+90) 18).toArray] fun k23 r22=>Gt 9 r22 fun cs11 =>
 Cl k23 78 #[agg cs11] fun k25 r24=>∃ s12,some (Value.string s12) = some r24 ∧
 ((ByteArray.toList s12 == ByteArray.toList ⟨#[49,47,50,52]⟩) = true →
 (Cl k25 78 #[agg cs7] fun k27 r26=>∃ s13,some (Value.string s13) = some r26 ∧
 ((ByteArray.toList s13 == ByteArray.toList ⟨#[49,48]⟩) = true →
 (Cl k27 78 #[agg cs8] fun k29 r28=>∃ s14,some (Value.string s14) = some r28 ∧
 ∀ k30,Up k29 k30→R k30 (bool (ByteArray.toList s14 == ByteArray.toList ⟨#[50,48]⟩)))) ∧
 ((ByteArray.toList s13 == ByteArray.toList ⟨#[49,48]⟩) = false →
 (∀ k31,Up k27 k31→R k31 (bool false))))) ∧
 ((ByteArray.toList s12 == ByteArray.toList ⟨#[49,47,50,52]⟩) = false →
 (∀ k32,Up k25 k32→R k32 (bool false))))) ∧
 ((ByteArray.toList s10 == ByteArray.toList ⟨#[49,47,50,52]⟩) = false →
 (∀ k33,Up k21 k33→R k33 (bool false)))))) :
   CallsG Tryz.prog 32 #[] k R :=
  execFn_use (cfg:={ opq:=[72,66,32,34,157],loops:=[(0,[.tmp 14 false [.int .i64],.blk 2 [.seg 216,.seg 216,.seg 216]])] }) (args:=[]) (vals:=[]) (kinds:=[]) (by kernel_rfl) trivial (by kernel_rfl) (by kernel_rfl) h
end Go.Proofs.YtlginncipdaifaaGreat

/- How long the numbers of sums and products are. -/
namespace Go.Proofs.YtlginncipdaifaaGreat
open Go.RowKit Num
open Sy (Up Sees CallsG Seg)
def Bel (v : Q4) (b : Nat) : Prop:=∃ (y0 y1 y2 y3 : Int) (m : Nat),0 < m∧v = mkQ y0 y1 y2 y3 m∧y0.natAbs < b∧y1.natAbs < b∧y2.natAbs < b∧y3.natAbs < b∧m < b
section
variable {k k' : World} {cs cs' : Array Value} {R : World→Value→Prop} {v v' : Q4} {x y : W4} {K L M b c : Nat}
theorem Bel.mono (h : Bel v b) (hb : b≤c) : Bel v c:=by
 obtain ⟨y0,y1,y2,y3,m,hm,e,h0,h1,h2,h3,h4⟩:=h
 exact ⟨y0,y1,y2,y3,m,hm,e,by omega,by omega,by omega,by omega,by omega⟩
theorem IntV.lt {z : Int} (h : IntV k cs z K) : z.natAbs < B64 ^ K:=by
 obtain ⟨s,A,n,c,e,h1,h2⟩:=h
 refine Nat.lt_of_lt_of_le (nw_lt _) (Nat.pow_le_pow_right B64_pos ?_)
 rw [← h1.lim.len]; exact h2
theorem SurdV.bel (h : SurdV k cs v K) (hK : 1≤K) : Bel v (B64 ^ K):=by
 obtain ⟨c0,c1,c2,c3,D,d,e,y0,y1,y2,y3,m,h1,hm,hg,hv,i0,i1,i2,i3,l,hd⟩:=h
 refine ⟨y0,y1,y2,y3,m,hm,hv,i0.lt,i1.lt,i2.lt,i3.lt,?_⟩
 by_cases e : m = 1
 ·subst e
  exact Nat.lt_of_lt_of_le (show 1 < B64 ^ 1 by decide) (Nat.pow_le_pow_right B64_pos hK)
 ·rw [if_neg e] at l
  refine Nat.lt_of_lt_of_le (nw_lt _) (Nat.pow_le_pow_right B64_pos ?_)
  rw [← l.len]; exact hd
theorem IntV.cutW {z : Int} (h : IntV k cs z K) (hz : z.natAbs < B64 ^ L) : IntV k cs z L:=by
 obtain ⟨b,A,n,c,e,h1,h2⟩:=h
 refine ⟨b,A,n,c,e,h1,?_⟩
 rw [h1.lim.len]
 exact nw_le_of hz
theorem mkRat_cross {x y : Int} {m n : Nat} (hm : 0 < m) (hn : 0 < n) (h : mkRat x m = mkRat y n) : x*n = y*m:=(Rat.mkRat_eq_iff (by omega) (by omega)).1 h
theorem SurdV.cutB (h : SurdV k cs v K) (hb : Bel v (B64 ^ L)) : SurdV k cs v L:=by
 obtain ⟨c0,c1,c2,c3,D,d,e,y0,y1,y2,y3,m,h1,hm,hg,rfl,i0,i1,i2,i3,l,hd⟩:=h
 obtain ⟨z0,z1,z2,z3,n,hn,e,b0,b1,b2,b3,b4⟩:=hb
 have e0:=mkRat_cross hm hn (congrArg Q4.a e)
 have e1:=mkRat_cross hm hn (congrArg Q4.b e)
 have e2:=mkRat_cross hm hn (congrArg Q4.c e)
 have e3:=mkRat_cross hm hn (congrArg Q4.d e)
 have dv : ∀ {y z : Int},y*n = z*m→m ∣ n*y.natAbs:=by
  intro y z h
  have:=congrArg Int.natAbs h
  rw [Int.natAbs_mul,Int.natAbs_mul,Int.natAbs_natCast,Int.natAbs_natCast] at this
  exact ⟨z.natAbs,by rw [Nat.mul_comm,this,Nat.mul_comm]⟩
 have hmn : m ∣ n:=by
  have dm : m ∣ n*m:=Nat.dvd_mul_left m n
  have:=Nat.dvd_gcd (Nat.dvd_gcd (Nat.dvd_gcd (Nat.dvd_gcd dm (dv e0)) (dv e1)) (dv e2)) (dv e3)
  rw [Nat.gcd_mul_left,Nat.gcd_mul_left,Nat.gcd_mul_left,Nat.gcd_mul_left] at this
  unfold gcd5 at hg
  rw [hg,Nat.mul_one] at this
  exact this
 have le : ∀ {y z : Int},y*n = z*m→y.natAbs≤z.natAbs:=by
  intro y z h
  obtain ⟨t,rfl⟩:=hmn
  have:=congrArg Int.natAbs h
  rw [Int.natAbs_mul,Int.natAbs_mul,Int.natAbs_natCast,Int.natAbs_natCast] at this
  have ht : 0 < t:=Nat.pos_of_mul_pos_left hn |> fun _=>Nat.pos_of_ne_zero fun e=>by subst e; simp at hn
  have h3 : y.natAbs*t*m = z.natAbs*m:=by rw [← this,Nat.mul_assoc,Nat.mul_comm t]
  have h4:=Nat.eq_of_mul_eq_mul_right hm h3
  have:=Nat.le_mul_of_pos_right y.natAbs ht
  omega
 have hmle:=Nat.le_of_dvd hn hmn
 refine ⟨c0,c1,c2,c3,D,d,_,y0,y1,y2,y3,m,h1,hm,hg,rfl,i0.cutW (Nat.lt_of_le_of_lt (le e0) b0),i1.cutW (Nat.lt_of_le_of_lt (le e1) b1),i2.cutW (Nat.lt_of_le_of_lt (le e2) b2),i3.cutW (Nat.lt_of_le_of_lt (le e3) b3),l,?_⟩
 rw [l.len]
 refine nw_le_of ?_
 split <;> omega
theorem mul_abs {a b : Nat} {x y : Int} (hx : x.natAbs < a) (hy : y.natAbs < b) : (x*y).natAbs < a*b:=by
 rw [Int.natAbs_mul]; exact Nat.mul_lt_mul'' hx hy
theorem mkQ_add (x0 x1 x2 x3 y0 y1 y2 y3 : Int) {m n : Nat} (hm : 0 < m) (hn : 0 < n) : mkQ (x0*n+y0*m) (x1*n+y1*m) (x2*n+y2*m) (x3*n+y3*m) (m*n) = (mkQ x0 x1 x2 x3 m).add (mkQ y0 y1 y2 y3 n):=by
 unfold mkQ Q4.add
 simp only [mkRat_add' _ _ hm hn]
theorem Bel.add (h : Bel v b) (h' : Bel v' c) : Bel (v.add v') (2*(b*c)):=by
 obtain ⟨x0,x1,x2,x3,m,hm,rfl,a0,a1,a2,a3,a4⟩:=h
 obtain ⟨y0,y1,y2,y3,n,hn,rfl,b0,b1,b2,b3,b4⟩:=h'
 have p : ∀ {x y : Int},x.natAbs < b→y.natAbs < c→(x*n+y*m).natAbs < 2*(b*c):=by
  intro x y hx hy
  have h1:=mul_abs (x:=x) (y:=(n : Int)) hx (by rw [Int.natAbs_natCast]; exact b4)
  have h2:=mul_abs (x:=y) (y:=(m : Int)) hy (by rw [Int.natAbs_natCast]; exact a4)
  rw [Nat.mul_comm c b] at h2
  have:=Int.natAbs_add_le (x*n) (y*m)
  omega
 have q:=Nat.mul_lt_mul'' a4 b4
 exact ⟨_,_,_,_,m*n,Nat.mul_pos hm hn,(mkQ_add _ _ _ _ _ _ _ _ hm hn).symm,p a0 b0,p a1 b1,p a2 b2,p a3 b3,by omega⟩
theorem Bel.neg (h : Bel v b) : Bel v.neg b:=by
 obtain ⟨x0,x1,x2,x3,m,hm,rfl,a0,a1,a2,a3,a4⟩:=h
 refine ⟨-x0,-x1,-x2,-x3,m,hm,?_,by omega,by omega,by omega,by omega,a4⟩
 unfold mkQ Q4.neg
 simp only [mkRat_neg']
theorem Bel.mul (h : Bel v b) (h' : Bel v' c) : Bel (v.mul v') (12*(b*c)):=by
 obtain ⟨x0,x1,x2,x3,m,hm,rfl,a0,a1,a2,a3,a4⟩:=h
 obtain ⟨y0,y1,y2,y3,n,hn,rfl,b0,b1,b2,b3,b4⟩:=h'
 have q:=Nat.mul_lt_mul'' a4 b4
 refine ⟨_,_,_,_,m*n,Nat.mul_pos hm hn,(mkQ_mul _ _ _ _ _ _ _ _ hm hn).symm,?_,?_,?_,?_,by omega⟩
 ·have h1:=mul_abs a0 b0
  have h2:=mul_abs a1 b1
  have h3:=mul_abs a2 b2
  have h4:=mul_abs a3 b3
  omega
 ·have h1:=mul_abs a0 b1
  have h2:=mul_abs a1 b0
  have h3:=mul_abs a2 b3
  have h4:=mul_abs a3 b2
  omega
 ·have h1:=mul_abs a0 b2
  have h2:=mul_abs a2 b0
  have h3:=mul_abs a1 b3
  have h4:=mul_abs a3 b1
  omega
 ·have h1:=mul_abs a0 b3
  have h2:=mul_abs a3 b0
  have h3:=mul_abs a1 b2
  have h4:=mul_abs a2 b1
  omega
theorem pow3 (K L : Nat) : 12*(B64 ^ K*B64 ^ L)≤B64 ^ (K+L+1):=by
 have e : B64 ^ (K+L+1) = B64 ^ K*B64 ^ L*B64:=by rw [Nat.pow_succ,Nat.pow_add]
 rw [e,Nat.mul_comm 12]
 exact Nat.mul_le_mul_left _ (by decide)
theorem pow2 (K L : Nat) : 2*(B64 ^ K*B64 ^ L)≤B64 ^ (K+L+1):=Nat.le_trans (Nat.mul_le_mul_right _ (by decide)) (pow3 K L)
theorem SAdd_w (hx : SurdV k cs v K) (hy : SurdV k cs' v' L) (hK1 : 1≤K) (hL1 : 1≤L) (hK : K≤100000000) (hL : L≤100000000) (C : ∀ k' ds,Up k k'→SurdV k' ds (v.add v') (K+L+1)→R k' (.agg ds)) :
 Cl k 82 #[.agg cs,.agg cs'] R :=
 SAdd_s (hx.mono (Nat.le_max_left K L)) (hy.mono (Nat.le_max_right K L)) (by omega) (by omega) fun k' ds u h=>C k' ds u (h.cutB (((hx.bel hK1).add (hy.bel hL1)).mono (pow2 K L)))
theorem SSub_w (hx : SurdV k cs v K) (hy : SurdV k cs' v' L) (hK1 : 1≤K) (hL1 : 1≤L) (hK : K≤100000000) (hL : L≤100000000) (C : ∀ k' ds,Up k k'→SurdV k' ds (v.sub v') (K+L+1)→R k' (.agg ds)) :
 Cl k 69 #[.agg cs,.agg cs'] R :=
 SSub_s (hx.mono (Nat.le_max_left K L)) (hy.mono (Nat.le_max_right K L)) (by omega) (by omega) fun k' ds u h=>C k' ds u (h.cutB (((hx.bel hK1).add (hy.bel hL1).neg).mono (pow2 K L)))
theorem SMul_w (hx : SurdV k cs v K) (hy : SurdV k cs' v' L) (hK1 : 1≤K) (hL1 : 1≤L) (hK : K≤100000000) (hL : L≤100000000) (C : ∀ k' ds,Up k k'→SurdV k' ds (v.mul v') (K+L+1)→R k' (.agg ds)) :
 Cl k 68 #[.agg cs,.agg cs'] R :=
 SMul_s (hx.mono (Nat.le_max_left K L)) (hy.mono (Nat.le_max_right K L)) (by omega) (by omega) fun k' ds u h=>C k' ds u (h.cutB (((hx.bel hK1).mul (hy.bel hL1)).mono (pow3 K L)))
theorem WaveV.cutB (h : WaveV k cs x K) (h0 : Bel x.re (B64 ^ L)) (h1 : Bel x.im (B64 ^ L)) : WaveV k cs x L:=by
 obtain ⟨c0,c1,e,a,b⟩:=h
 exact ⟨c0,c1,e,a.cutB h0,b.cutB h1⟩
theorem WaveV.bel (h : WaveV k cs x K) (hK : 1≤K) : Bel x.re (B64 ^ K)∧Bel x.im (B64 ^ K):=by
 obtain ⟨c0,c1,e,a,b⟩:=h
 exact ⟨a.bel hK,b.bel hK⟩
theorem WAdd_w (hx : WaveV k cs x K) (hy : WaveV k cs' y L) (hK1 : 1≤K) (hL1 : 1≤L) (hK : K≤30000000) (hL : L≤30000000) (C : ∀ k' ds,Up k k'→WaveV k' ds (x.add y) (K+L+1)→R k' (.agg ds)) :
 Cl k 63 #[.agg cs,.agg cs'] R :=
 WAdd_s (hx.mono (Nat.le_max_left K L)) (hy.mono (Nat.le_max_right K L)) (by omega) (by omega) fun k' ds u h=>C k' ds u (h.cutB (((hx.bel hK1).1.add (hy.bel hL1).1).mono (pow2 K L)) (((hx.bel hK1).2.add (hy.bel hL1).2).mono (pow2 K L)))
end
end Go.Proofs.YtlginncipdaifaaGreat

/- The laws of a field, for the parts of Surds and of Waves. No program. (Printed by gen/fieldz.py.) -/
namespace Go.Proofs.YtlginncipdaifaaGreat
open Num Plain
namespace Q23L
theorem add_comm (a b : Q23) : a+b = b+a:=by (refine Q23.ext' (Q2.ext' ?_ ?_) (Q2.ext' ?_ ?_) <;> (simp only [Q23.add_re,Q23.add_im,Q2.add_re,Q2.add_im]; grind))
theorem add_assoc (a b c : Q23) : a+b+c = a+(b+c):=by (refine Q23.ext' (Q2.ext' ?_ ?_) (Q2.ext' ?_ ?_) <;> (simp only [Q23.add_re,Q23.add_im,Q2.add_re,Q2.add_im]; grind))
theorem mul_comm (a b : Q23) : a*b = b*a:=by (refine Q23.ext' (Q2.ext' ?_ ?_) (Q2.ext' ?_ ?_) <;> (simp only [Q23.mul_re,Q23.mul_im,Q2.add_re,Q2.add_im,Q2.mul_re,Q2.mul_im,Q2.three_re,Q2.three_im]; grind))
theorem mul_assoc (a b c : Q23) : a*b*c = a*(b*c):=by (refine Q23.ext' (Q2.ext' ?_ ?_) (Q2.ext' ?_ ?_) <;> (simp only [Q23.mul_re,Q23.mul_im,Q2.add_re,Q2.add_im,Q2.mul_re,Q2.mul_im,Q2.three_re,Q2.three_im]; grind))
theorem add_mul (a b c : Q23) : (a+b)*c = a*c+b*c:=by (refine Q23.ext' (Q2.ext' ?_ ?_) (Q2.ext' ?_ ?_) <;> (simp only [Q23.add_re,Q23.add_im,Q23.mul_re,Q23.mul_im,Q2.add_re,Q2.add_im,Q2.mul_re,Q2.mul_im,Q2.three_re,Q2.three_im]; grind))
theorem mul_add (a b c : Q23) : a*(b+c) = a*b+a*c:=by (refine Q23.ext' (Q2.ext' ?_ ?_) (Q2.ext' ?_ ?_) <;> (simp only [Q23.add_re,Q23.add_im,Q23.mul_re,Q23.mul_im,Q2.add_re,Q2.add_im,Q2.mul_re,Q2.mul_im,Q2.three_re,Q2.three_im]; grind))
theorem sub_eq (a b : Q23) : a - b = a+-b:=by (refine Q23.ext' (Q2.ext' ?_ ?_) (Q2.ext' ?_ ?_) <;> (simp only [Q23.add_re,Q23.add_im,Q23.neg_re,Q23.neg_im,Q23.sub_re,Q23.sub_im,Q2.add_re,Q2.add_im,Q2.neg_re,Q2.neg_im,Q2.sub_re,Q2.sub_im]; grind))
theorem neg_add (a b : Q23) : -(a+b) = -a+-b:=by (refine Q23.ext' (Q2.ext' ?_ ?_) (Q2.ext' ?_ ?_) <;> (simp only [Q23.add_re,Q23.add_im,Q23.neg_re,Q23.neg_im,Q2.add_re,Q2.add_im,Q2.neg_re,Q2.neg_im]; grind))
theorem neg_neg (a : Q23) : - -a = a:=by (refine Q23.ext' (Q2.ext' ?_ ?_) (Q2.ext' ?_ ?_) <;> (simp only [Q23.neg_re,Q23.neg_im,Q2.neg_re,Q2.neg_im]; grind))
theorem neg_mul (a b : Q23) : -a*b = -(a*b):=by (refine Q23.ext' (Q2.ext' ?_ ?_) (Q2.ext' ?_ ?_) <;> (simp only [Q23.mul_re,Q23.mul_im,Q23.neg_re,Q23.neg_im,Q2.add_re,Q2.add_im,Q2.mul_re,Q2.mul_im,Q2.neg_re,Q2.neg_im,Q2.three_re,Q2.three_im]; grind))
theorem mul_neg (a b : Q23) : a*-b = -(a*b):=by (refine Q23.ext' (Q2.ext' ?_ ?_) (Q2.ext' ?_ ?_) <;> (simp only [Q23.mul_re,Q23.mul_im,Q23.neg_re,Q23.neg_im,Q2.add_re,Q2.add_im,Q2.mul_re,Q2.mul_im,Q2.neg_re,Q2.neg_im,Q2.three_re,Q2.three_im]; grind))
theorem add_left (a b c : Q23) : a+(b+c) = b+(a+c):=by (refine Q23.ext' (Q2.ext' ?_ ?_) (Q2.ext' ?_ ?_) <;> (simp only [Q23.add_re,Q23.add_im,Q2.add_re,Q2.add_im]; grind))
end Q23L
open Q23L
theorem Q4.add_comm (x y : Q4) : x.add y = y.add x:=toQ_inj (by rw [toQ_add,toQ_add,Q23L.add_comm])
theorem Q4.mul_comm (x y : Q4) : x.mul y = y.mul x:=toQ_inj (by rw [toQ_mul,toQ_mul,Q23L.mul_comm])
theorem Q4.add_assoc (x y z : Q4) : (x.add y).add z = x.add (y.add z):=toQ_inj (by simp only [toQ_add,Q23L.add_assoc])
theorem W4.add_comm (x y : W4) : x.add y = y.add x:=W4.ext' (Q4.add_comm _ _) (Q4.add_comm _ _)
theorem W4.add_assoc (x y z : W4) : (x.add y).add z = x.add (y.add z):=W4.ext' (Q4.add_assoc _ _ _) (Q4.add_assoc _ _ _)
theorem W4.mul_comm (x y : W4) : x.mul y = y.mul x:=W4.ext' (by unfold W4.mul; rw [Q4.mul_comm x.re,Q4.mul_comm x.im]) (by show (x.re.mul y.im).add (x.im.mul y.re) = (y.re.mul x.im).add (y.im.mul x.re); rw [Q4.add_comm,Q4.mul_comm x.im,Q4.mul_comm x.re])
theorem W4.mul_assoc (x y z : W4) : (x.mul y).mul z = x.mul (y.mul z):=by
 refine W4.ext' (toQ_inj ?_) (toQ_inj ?_)
 ·simp only [W4.mul,toQ_sub,toQ_mul,toQ_add,Q23L.sub_eq,Q23L.add_mul,Q23L.mul_add,Q23L.neg_mul,Q23L.mul_neg,Q23L.neg_add,Q23L.mul_assoc,Q23L.add_assoc]
  simp only [Q23L.add_assoc,Q23L.add_comm]
 ·simp only [W4.mul,toQ_sub,toQ_mul,toQ_add,Q23L.sub_eq,Q23L.add_mul,Q23L.mul_add,Q23L.neg_mul,Q23L.mul_neg,Q23L.mul_assoc,Q23L.add_assoc]
  simp only [Q23L.add_assoc,Q23L.add_comm,Q23L.add_left]
theorem W4.add_mul (x y z : W4) : (x.add y).mul z = (x.mul z).add (y.mul z):=by
 refine W4.ext' (toQ_inj ?_) (toQ_inj ?_)
 ·simp only [W4.mul,W4.add,toQ_sub,toQ_mul,toQ_add,Q23L.sub_eq,Q23L.add_mul,Q23L.neg_add,Q23L.add_assoc]
  simp only [Q23L.add_left]
 ·simp only [W4.mul,W4.add,toQ_mul,toQ_add,Q23L.add_mul,Q23L.add_assoc]
  simp only [Q23L.add_assoc,Q23L.add_comm,Q23L.add_left]
theorem W4.mul_conj (x y : W4) : (x.mul y).conj = x.conj.mul y.conj:=by
 refine W4.ext' (toQ_inj ?_) (toQ_inj ?_)
 ·simp only [W4.mul,W4.conj,toQ_sub,toQ_mul,toQ_neg,Q23L.neg_mul,Q23L.mul_neg,Q23L.neg_neg]
 ·simp only [W4.mul,W4.conj,toQ_add,toQ_mul,toQ_neg,Q23L.neg_mul,Q23L.mul_neg,Q23L.neg_add]
end Go.Proofs.YtlginncipdaifaaGreat

/- The greatest of all places, and Norms. No program. (Printed by gen/sizez.py.) -/
namespace Go.Proofs.YtlginncipdaifaaGreat
open Num Plain Q23L
noncomputable def sgd (a b : Q4) : Int:=C.sg (a.sub b).toQ
def fAt (x : W4) (k : Nat) : Q4:=(x.mul (turnW ((24 - k) % 24))).re
noncomputable def hi (x : W4) : Nat→Nat × Q4
 | 0=>(0,x.re)
 | j+1=>if 0 < sgd (fAt x (j+1)) (hi x j).2 then (j+1,fAt x (j+1)) else hi x j
noncomputable def cnt (x : W4) (s : Q4) (k : Nat) : Nat:=((List.range k).filter fun i=>decide (sgd (fAt x i) s = 0)).length
def sg2F (a b : Rat) : Int:=weighI a.num.sign b.num.sign (a*a - 2*(b*b)).num.sign
def sgF (v : Q4) : Int:=weighI (sg2F v.a v.b) (sg2F v.c v.d) (sg2F (v.a*v.a+2*(v.b*v.b) - 3*(v.c*v.c+2*(v.d*v.d))) (v.a*v.b+v.b*v.a - 3*(v.c*v.d+v.d*v.c)))
end Go.Proofs.YtlginncipdaifaaGreat

/- The orders of a waveform: sums over the places, the orders of a synthesized waveform. No program. -/
namespace Go.Proofs.YtlginncipdaifaaGreat
open Num Plain
theorem Q4.zero_add (x : Q4) : Q4.zero.add x = x:=by
 refine Q4.ext' ?_ ?_ ?_ ?_ <;> (simp only [Q4.add,Q4.zero]; grind)
theorem Q4.add_zero (x : Q4) : x.add Q4.zero = x:=by rw [Q4.add_comm,Q4.zero_add]
theorem Q4.zero_mul (x : Q4) : Q4.zero.mul x = Q4.zero:=by
 refine Q4.ext' ?_ ?_ ?_ ?_ <;> (simp only [Q4.mul,Q4.zero]; grind)
theorem Q4.mul_zero (x : Q4) : x.mul Q4.zero = Q4.zero:=by rw [Q4.mul_comm,Q4.zero_mul]
theorem Q4.one_mul (x : Q4) : (Q4.real 1).mul x = x:=by
 refine Q4.ext' ?_ ?_ ?_ ?_ <;> (simp only [Q4.mul,Q4.real]; grind)
theorem Q4.neg_zero : Q4.zero.neg = Q4.zero:=by decide +kernel
theorem Q4.sub_zero (x : Q4) : x.sub Q4.zero = x:=by
 refine Q4.ext' ?_ ?_ ?_ ?_ <;> (simp only [Q4.sub,Q4.add,Q4.neg,Q4.zero]; grind)
theorem W4.zero_add (x : W4) : W4.zero.add x = x:=W4.ext' (Q4.zero_add _) (Q4.zero_add _)
theorem W4.add_zero (x : W4) : x.add W4.zero = x:=W4.ext' (Q4.add_zero _) (Q4.add_zero _)
theorem W4.zero_mul (x : W4) : W4.zero.mul x = W4.zero:=by
 refine W4.ext' ?_ ?_ <;> simp only [W4.mul,W4.zero,Q4.zero_mul,Q4.sub_zero,Q4.add_zero]
theorem W4.mul_zero (x : W4) : x.mul W4.zero = W4.zero:=by rw [W4.mul_comm,W4.zero_mul]
theorem W4.mul_add (x y z : W4) : x.mul (y.add z) = (x.mul y).add (x.mul z):=by rw [W4.mul_comm,W4.add_mul,W4.mul_comm y,W4.mul_comm z]
theorem W4.add_left (x y z : W4) : x.add (y.add z) = y.add (x.add z):=by rw [← W4.add_assoc,W4.add_comm x,W4.add_assoc]
theorem W4.mul_left (x y z : W4) : x.mul (y.mul z) = y.mul (x.mul z):=by rw [← W4.mul_assoc,W4.mul_comm x,W4.mul_assoc]
def ofR (q : Q4) : W4:=⟨q,Q4.zero⟩
theorem ofR_mul (q : Q4) (w : W4) : (ofR q).mul w = ⟨q.mul w.re,q.mul w.im⟩:=by
 refine W4.ext' ?_ ?_ <;> simp only [W4.mul,ofR,Q4.zero_mul,Q4.sub_zero,Q4.add_zero]
theorem ofR_add (p q : Q4) : ofR (p.add q) = (ofR p).add (ofR q):=W4.ext' rfl (Q4.add_zero _).symm
theorem ofR_mulR (p q : Q4) : ofR (p.mul q) = (ofR p).mul (ofR q):=by
 rw [ofR_mul]; exact W4.ext' rfl (Q4.mul_zero _).symm
theorem ofR_zero : ofR Q4.zero = W4.zero:=rfl
def sumW (f : Nat→W4) : Nat→W4
 | 0=>W4.zero
 | n+1=>(sumW f n).add (f n)
def sumQ (f : Nat→Q4) : Nat→Q4
 | 0=>Q4.zero
 | n+1=>(sumQ f n).add (f n)
theorem sumW_congr {f g : Nat→W4} : ∀ {n : Nat},(∀ k,k < n→f k = g k)→sumW f n = sumW g n
 | 0,_=>rfl
 | n+1,h=>by
  show (sumW f n).add (f n) = (sumW g n).add (g n)
  rw [sumW_congr fun k hk=>h k (by omega),h n (by omega)]
theorem sumQ_congr {f g : Nat→Q4} : ∀ {n : Nat},(∀ k,k < n→f k = g k)→sumQ f n = sumQ g n
 | 0,_=>rfl
 | n+1,h=>by
  show (sumQ f n).add (f n) = (sumQ g n).add (g n)
  rw [sumQ_congr fun k hk=>h k (by omega),h n (by omega)]
theorem sumW_nil : ∀ n,sumW (fun _=>W4.zero) n = W4.zero
 | 0=>rfl
 | n+1=>by show (sumW _ n).add _ = _; rw [sumW_nil n,W4.add_zero]
theorem sumW_add (f g : Nat→W4) : ∀ n,sumW (fun k=>(f k).add (g k)) n = (sumW f n).add (sumW g n)
 | 0=>(W4.add_zero _).symm
 | n+1=>by
  show (sumW _ n).add ((f n).add (g n)) = ((sumW f n).add (f n)).add ((sumW g n).add (g n))
  rw [sumW_add f g n,W4.add_assoc,W4.add_assoc,W4.add_left (sumW g n)]
theorem sumW_mul (c : W4) (f : Nat→W4) : ∀ n,sumW (fun k=>c.mul (f k)) n = c.mul (sumW f n)
 | 0=>(W4.mul_zero _).symm
 | n+1=>by
  show (sumW _ n).add (c.mul (f n)) = c.mul ((sumW f n).add (f n))
  rw [sumW_mul c f n,W4.mul_add]
theorem sumW_single {f : Nat→W4} {m : Nat} : ∀ {n : Nat},m < n→(∀ j,j < n→j ≠ m→f j = W4.zero)→sumW f n = f m
 | 0,h,_=>absurd h (Nat.not_lt_zero _)
 | n+1,h,hz=>by
  show (sumW f n).add (f n) = f m
  by_cases e : m = n
  ·subst e
   rw [sumW_congr (g:=fun _=>W4.zero) fun k hk=>hz k (by omega) (by omega),sumW_nil,W4.zero_add]
  ·rw [sumW_single (n:=n) (by omega) fun j hj=>hz j (by omega),hz n (by omega) (by omega),W4.add_zero]
theorem sumW_re (f : Nat→W4) : ∀ n,(sumW f n).re = sumQ (fun k=>(f k).re) n
 | 0=>rfl
 | n+1=>by
  show ((sumW f n).re).add (f n).re = (sumQ _ n).add (f n).re
  rw [sumW_re f n]
theorem sumW_conj (f : Nat→W4) : ∀ n,(sumW f n).conj = sumW (fun k=>(f k).conj) n
 | 0=>by show W4.zero.conj = W4.zero; decide +kernel
 | n+1=>by
  show ((sumW f n).add (f n)).conj = (sumW _ n).add (f n).conj
  rw [← sumW_conj f n]
  refine W4.ext' rfl ?_
  refine Q4.ext' ?_ ?_ ?_ ?_ <;> (simp only [W4.add,W4.conj,Q4.add,Q4.neg]; grind)
theorem sumW_succ (f : Nat→W4) : ∀ n,sumW f (n+1) = (f 0).add (sumW (fun k=>f (k+1)) n)
 | 0=>by show W4.zero.add (f 0) = (f 0).add W4.zero; rw [W4.add_zero,W4.zero_add]
 | n+1=>by
  show (sumW f (n+1)).add (f (n+1)) = (f 0).add ((sumW _ n).add (f (n+1)))
  rw [sumW_succ f n,W4.add_assoc]
theorem sumW_rot1 {f : Nat→W4} {n : Nat} (h : f (n+1) = f 0) : sumW (fun k=>f (k+1)) (n+1) = sumW f (n+1):=by
 show (sumW (fun k=>f (k+1)) n).add (f (n+1)) = _
 rw [sumW_succ f n,h,W4.add_comm]
theorem sumW_rot {f : Nat→W4} (h : ∀ k,f (k+24) = f k) : ∀ c,sumW (fun k=>f (k+c)) 24 = sumW f 24
 | 0=>rfl
 | c+1=>by
  have:=sumW_rot1 (f:=fun k=>f (k+c)) (n:=23) (by show f (24+c) = f (0+c); rw [Nat.add_comm 24,h,Nat.zero_add])
  rw [← sumW_rot h c,← this]
  exact sumW_congr fun k _=>by show f (k+(c+1)) = f (k+1+c); congr 1; omega
theorem sumW_rev (f : Nat→W4) : ∀ n,sumW (fun k=>f (n - 1 - k)) n = sumW f n
 | 0=>rfl
 | n+1=>by
  rw [sumW_succ]
  show (f n).add _ = (sumW f n).add (f n)
  rw [← sumW_rev f n,W4.add_comm]
  congr 1
  exact sumW_congr fun k hk=>by show f (n - (k+1)) = f (n - 1 - k); congr 1; omega
theorem sumW_mir (f : Nat→W4) : sumW (fun k=>f ((24 - k) % 24)) 24 = sumW f 24:=by
 have h1:=sumW_rot (f:=fun k=>f ((24 - k % 24) % 24)) (fun k=>by show f _ = f _; rw [Nat.add_mod_right]) 1
 have h2 : sumW (fun k=>f ((24 - k) % 24)) 24 = sumW (fun k=>f ((24 - k % 24) % 24)) 24:=sumW_congr fun k hk=>by rw [Nat.mod_eq_of_lt hk]
 have h3 : sumW (fun k=>f ((24 - (k+1) % 24) % 24)) 24 = sumW (fun k=>f (24 - 1 - k)) 24:=sumW_congr fun k hk=>congrArg f (by omega)
 rw [h2,← h1,h3,sumW_rev]
def trn (k : Nat) : W4:=turnW (k % 24)
theorem trn_conj (a : Nat) : (trn a).conj = trn (23*a):=by
 unfold trn; rw [turn_conj _ (Nat.mod_lt _ (by decide))]; congr 1; omega
theorem trn_mod {a b : Nat} (h : a % 24 = b % 24) : trn a = trn b:=by unfold trn; rw [h]
def ordW (f : Nat→Q4) (n : Nat) : W4:=(ofR (Q4.real (1 / 24))).mul (sumW (fun k=>(ofR (f k)).mul (trn (23*n*k))) 24)
def wt (n : Nat) : Q4:=Q4.real (if n = 0∨n = 12 then 1 else 2)
def synQ (g : Nat→W4) (k : Nat) : Q4:=sumQ (fun n=>(wt n).mul ((g n).mul (trn (n*k))).re) 13
def engQ (g : Nat→W4) : Q4:=sumQ (fun n=>(wt n).mul (g n).norm) 13
theorem ordW_congr {f g : Nat→Q4} (h : ∀ k,k < 24→f k = g k) (n : Nat) : ordW f n = ordW g n:=by
 unfold ordW; rw [sumW_congr fun k hk=>by rw [h k hk]]
theorem engQ_congr {f g : Nat→W4} (h : ∀ k,k < 13→f k = g k) : engQ f = engQ g:=sumQ_congr fun k hk=>by rw [h k hk]
def oneW (n : Nat) (w : W4) (m : Nat) : W4:=if m = n then w else W4.zero
def partQ (f : Nat→Q4) (n k : Nat) : Q4:=synQ (oneW n (ordW f n)) k
theorem conj_ofR (q : Q4) : (ofR q).conj = ofR q:=W4.ext' rfl Q4.neg_zero
theorem ord_mirrored (f : Nat→Q4) (n : Nat) : ordW (fun i=>f ((24 - i) % 24)) n = (ordW f n).conj:=by
 show (ofR (Q4.real (1 / 24))).mul (sumW (fun i=>(ofR (f ((24 - i) % 24))).mul (trn (23*n*i))) 24) = ((ofR (Q4.real (1 / 24))).mul (sumW (fun i=>(ofR (f i)).mul (trn (23*n*i))) 24)).conj
 rw [W4.mul_conj,conj_ofR,sumW_conj]
 refine congrArg (W4.mul (ofR (Q4.real (1 / 24)))) ?_
 refine Eq.trans ?_ (sumW_mir fun k=>((ofR (f k)).mul (trn (23*n*k))).conj)
 refine sumW_congr fun k hk=>?_
 show _ = ((ofR (f ((24 - k) % 24))).mul (trn (23*n*((24 - k) % 24)))).conj
 rw [W4.mul_conj,conj_ofR,trn_conj,trn_mod (a:=23*n*k) (b:=23*(23*n*((24 - k) % 24)))]
 have e2 : 23*n*((24 - k) % 24) = 23*(n*((24 - k) % 24)):=Nat.mul_assoc _ _ _
 have e3 : 23*n*k = 23*(n*k):=Nat.mul_assoc _ _ _
 rw [e2,e3]
 by_cases h : k = 0
 ·subst h; rfl
 ·have e : n*(24 - k)+n*k = n*24:=by rw [← Nat.mul_add]; congr 1; omega
  rw [Nat.mod_eq_of_lt (show 24 - k < 24 by omega)]
  omega
theorem ord_linear (x : Q4) (f g : Nat→Q4) (n : Nat) : ordW (fun k=>(x.mul (f k)).add (g k)) n = ((ofR x).mul (ordW f n)).add (ordW g n):=by
 show (ofR (Q4.real (1 / 24))).mul (sumW (fun k=>(ofR ((x.mul (f k)).add (g k))).mul (trn (23*n*k))) 24) = ((ofR x).mul ((ofR (Q4.real (1 / 24))).mul (sumW (fun k=>(ofR (f k)).mul (trn (23*n*k))) 24))).add ((ofR (Q4.real (1 / 24))).mul (sumW (fun k=>(ofR (g k)).mul (trn (23*n*k))) 24))
 rw [W4.mul_left,← sumW_mul (ofR x),← W4.mul_add,← sumW_add]
 refine congrArg (W4.mul (ofR (Q4.real (1 / 24)))) ?_
 refine sumW_congr fun k _=>?_
 rw [ofR_add,ofR_mulR,W4.add_mul,W4.mul_assoc]
theorem ord_mean (f : Nat→Q4) : (ordW f 0).re = (Q4.real (1 / 24)).mul (sumQ f 24):=by
 unfold ordW
 rw [ofR_mul]
 show (Q4.real (1 / 24)).mul (sumW _ 24).re = _
 rw [sumW_re]
 refine congrArg (Q4.mul (Q4.real (1 / 24))) ?_
 refine sumQ_congr fun k _=>?_
 rw [ofR_mul,Nat.mul_zero,Nat.zero_mul]
 show (f k).mul (trn 0).re = f k
 have : (trn 0).re = Q4.real 1:=by decide +kernel
 rw [this,Q4.mul_comm,Q4.one_mul]
noncomputable def lowQ (f : Nat→Q4) : Nat→Q4
 | 0=>f 0
 | j+1=>if sgd (f (j+1)) (lowQ f j) < 0 then f (j+1) else lowQ f j
noncomputable def highQ (f : Nat→Q4) : Nat→Q4
 | 0=>f 0
 | j+1=>if 0 < sgd (f (j+1)) (highQ f j) then f (j+1) else highQ f j
noncomputable def peakQ (f : Nat→Q4) : Q4:=(highQ f 23).sub (lowQ f 23)
end Go.Proofs.YtlginncipdaifaaGreat

/- Waveforms and spectra of the program. -/
namespace Go.Proofs.YtlginncipdaifaaGreat
open Go.RowKit Num Plain
open Sy (Up Sees CallsG Seg)
section
variable {k k' : World} {R : World→Value→Prop} {K L : Nat} {cs cs' ds : Array Value} {f g F : Nat→Q4} {p q : Nat→W4} {x y : W4} {v v' : Q4}
def RoundV (k : World) (cs : Array Value) (f : Nat→Q4) (K : Nat) : Prop:=ArrV 24 9 (fun a v=>SurdV k a v K) cs f
def SpecV (k : World) (cs : Array Value) (p : Nat→W4) (K : Nat) : Prop:=ArrV 13 18 (fun a w=>WaveV k a w K) cs p
theorem RoundV.up (h : RoundV k cs f K) (u : Up k k') : RoundV k' cs f K:=ArrV.mono h fun _ _ h=>h.up u
theorem RoundV.mono (h : RoundV k cs f K) (hL : K≤L) : RoundV k cs f L:=ArrV.mono h fun _ _ h=>h.mono hL
theorem RoundV.seg (h : RoundV k cs f K) : Seg 216 cs:=ArrV.seg h fun _ _ h=>h.seg
theorem SpecV.up (h : SpecV k cs p K) (u : Up k k') : SpecV k' cs p K:=ArrV.mono h fun _ _ h=>h.up u
theorem SpecV.seg (h : SpecV k cs p K) : Seg 234 cs:=ArrV.seg h fun _ _ h=>h.seg
theorem RoundV.zero : RoundV k (zArr 24 zS) (fun _=>Q4.zero) K:=ArrV.zero (P:=fun a v=>SurdV k a v K) (z:=zS) rfl Q4.zero (SurdV.nil (Nat.zero_le _))
theorem SpecV.zero : SpecV k (zArr 13 (zS ++ zS)) (fun _=>W4.zero) K:=ArrV.zero (P:=fun a w=>WaveV k a w K) (z:=zS ++ zS) rfl W4.zero WaveV.nil
theorem castS (h : SurdV k cs v K) (e : v = v') : SurdV k cs v' K:=e ▸ h
theorem oplace_s {n : Int} (C : ∀ k',Up k k'→R k' (.int .i64 (plc n : Int))) :
 Cl k 106 #[.int .i64 n] R :=
 fun _ u0=>oplace_vc fun k1 u1=>by rw [plc_eq]; exact C k1 (u0.trans u1)
theorem otimes_s (hx : SurdV k cs v K) (hy : WaveV k cs' y L) (hK1 : 1≤K) (hL1 : 1≤L) (hK : K≤100000000) (hL : L≤100000000) (C : ∀ k' ds,Up k k'→WaveV k' ds ((ofR v).mul y) (K+L+1)→R k' (.agg ds)) :
 Cl k 138 #[.agg cs,.agg cs'] R:=by
 intro k0 u0
 rw [ofR_mul] at C
 refine otimes_vc hx.seg hy.seg (WRe_s (hy.up u0) fun k1 d1 u1 h1=>⟨d1,h1.seg,rfl,?_⟩)
 refine SMul_w ((hx.up u0).up u1) h1 hK1 hL1 hK hL fun k2 d2 u2 h2=>⟨d2,h2.seg,rfl,?_⟩
 refine WIm_s (((hy.up u0).up u1).up u2) fun k3 d3 u3 h3=>⟨d3,h3.seg,rfl,?_⟩
 refine SMul_w ((((hx.up u0).up u1).up u2).up u3) h3 hK1 hL1 hK hL fun k4 d4 u4 h4=>⟨d4,h4.seg,rfl,?_⟩
 refine pair_s ((h2.up u3).up u4) h4 fun k5 d5 u5 h5=>⟨d5,h5.seg,rfl,fun k6 u6=>?_⟩
 exact C k6 d5 ((((((u0.trans u1).trans u2).trans u3).trans u4).trans u5).trans u6) (h5.up u6)
theorem opart_s {n : Int} (h0 : -9223372036854775808≤n) (h1 : n < 9223372036854775808) (C : ∀ k' ds,Up k k'→SurdV k' ds (Q4.real ((1 : Int) / (n : Rat))) 1→R k' (.agg ds)) :
 Cl k 96 #[.int .i64 n] R:=by
 intro k0 u0
 refine opart_vc (QNew_s (by decide) (by decide) h0 h1 fun k1 d1 u1 q1=>⟨d1,q1.seg,_,rfl,?_⟩)
 refine SOf_s (SurdV.nil (K:=1) (Nat.zero_le _)) q1 fun k2 d2 u2 h2=>⟨d2,h2.seg,rfl,fun k3 u3=>?_⟩
 exact C k3 d2 (((u0.trans u1).trans u2).trans u3) (h2.up u3)
theorem owhole_s {n : Int} (h0 : -9223372036854775808≤n) (h1 : n < 9223372036854775808) (C : ∀ k' ds,Up k k'→SurdV k' ds (Q4.real (n : Rat)) 1→R k' (.agg ds)) :
 Cl k 101 #[.int .i64 n] R:=by
 intro k0 u0
 refine owhole_vc (QInt_s h0 h1 fun k1 d1 u1 q1=>⟨d1,q1.seg,rfl,?_⟩)
 refine SOf_s (SurdV.nil (K:=1) (Nat.zero_le _)) q1 fun k2 d2 u2 h2=>⟨d2,h2.seg,rfl,fun k3 u3=>?_⟩
 exact C k3 d2 (((u0.trans u1).trans u2).trans u3) (h2.up u3)
theorem plc_ord {n j : Nat} (hn : n < 13) (hj : j < 24) : turnW (plc (IntKind.wrap .i64 (IntKind.wrap .i64 (0 - (n : Int))*(j : Int)))) = trn (23*n*j):=by
 have hp : n*j≤12*23:=Nat.mul_le_mul (by omega) (by omega)
 have e1 : IntKind.wrap .i64 (0 - (n : Int)) = - (n : Int):=by rw [IntKind.wrap_i64]; omega
 have e2 : -(n : Int)*(j : Int) = -((n*j : Nat) : Int):=by rw [Int.neg_mul,Int.natCast_mul]
 rw [e1,e2,Nat.mul_assoc]
 generalize n*j = t at hp
 have e3 : IntKind.wrap .i64 (-(t : Int)) = -(t : Int):=by rw [IntKind.wrap_i64]; omega
 rw [e3]
 unfold trn plc
 congr 1
 omega
theorem oord_s {n : Nat} (hx : RoundV k cs f K) (hn : n < 13) (hK1 : 1≤K) (hK : K≤100000) (C : ∀ k' ds,Up k k'→WaveV k' ds (ordW f n) (24*K+75)→R k' (.agg ds)) :
 Cl k 90 #[.agg cs,.int .i64 (n : Int)] R:=by
 intro k0 u0
 replace hx:=hx.up u0
 replace C:=fun k' ds u=>C k' ds (u0.trans u)
 refine oorder_vc hx.seg ⟨fun m k' vs=>∃ j c,j+m = 24∧vs = [.int .i64 (j : Int),.agg c]∧WaveV k' c (sumW (fun i=>(ofR (f i)).mul (trn (23*n*i))) j) (1+j*(K+3)),⟨24,fun k' u=>⟨0,_,rfl,rfl,WaveV.nil⟩⟩,?_⟩
 rintro m k1 vs u1 ⟨j,c,hj,rfl,hc⟩
 refine ⟨_,c,hc.seg,rfl,fun hlt=>?_,fun hge=>?_⟩
 ·have hlt:=lt24 hlt
  refine ⟨ix24 hlt,xturn_s fun k2 d2 u2 hT=>⟨d2,hT.seg,rfl,?_⟩⟩
  rw [plc_ord hn hlt] at hT
  have hje:=Nat.mul_le_mul_right (K+3) (Nat.le_of_lt hlt)
  have hjs : (j+1)*(K+3) = j*(K+3)+(K+3):=Nat.succ_mul _ _
  refine otimes_s (ArrV.get ((hx.up u1).up u2) hlt) hT hK1 (by decide) (by omega) (by decide) fun k3 d3 u3 h3=>⟨d3,h3.seg,rfl,?_⟩
  refine WAdd_w ((hc.up u2).up u3) h3 (by omega) (by omega) (by omega) (by omega) fun k4 d4 u4 h4=>⟨d4,h4.seg,rfl,fun k5 u5=>?_⟩
  exact ⟨m - 1,by omega,j+1,d4,by omega,by rw [wup (by omega)],(h4.up u5).mono (by omega)⟩
 ·have hge:=ge24 hge
  have e : j = 24:=by omega
  subst e
  refine opart_s (n:=24) (by decide) (by decide) fun k2 d2 u2 h2=>⟨d2,h2.seg,rfl,?_⟩
  refine otimes_s h2 (hc.up u2) (by decide) (by omega) (by decide) (by omega) fun k3 d3 u3 h3=>⟨d3,h3.seg,rfl,fun k4 u4=>?_⟩
  exact C k4 d3 (((u1.trans u2).trans u3).trans u4) ((h3.up u4).mono (by omega))
theorem analyze_s (hx : RoundV k cs f K) (hK1 : 1≤K) (hK : K≤100000) (C : ∀ k' ds,Up k k'→SpecV k' ds (ordW f) (24*K+75)→R k' (.agg ds)) :
 Cl k 31 #[.agg cs] R:=by
 intro k0 u0
 replace hx:=hx.up u0
 replace C:=fun k' ds u=>C k' ds (u0.trans u)
 refine oAnalyze_vc hx.seg ⟨fun m k' vs=>∃ j c,j+m = 13∧vs = [.int .i64 (j : Int),.agg c]∧SpecV k' c (cut j (ordW f) fun _=>W4.zero) (24*K+75),⟨13,fun k' u=>⟨0,_,rfl,rfl,ArrV.start SpecV.zero⟩⟩,?_⟩
 rintro m k1 vs u1 ⟨j,c,hj,rfl,hc⟩
 refine ⟨_,c,hc.seg,rfl,fun hlt=>?_,fun hge=>?_⟩
 ·have hlt:=lt13 hlt
  refine oord_s (hx.up u1) hlt hK1 hK fun k2 d2 u2 h2=>⟨d2,h2.seg,rfl,ix13 hlt,fun k3 u3=>?_⟩
  exact ⟨m - 1,by omega,j+1,_,by omega,by rw [wup (by omega)],ArrV.step ((hc.up u2).up u3) hlt h2.seg.1 (h2.up u3)⟩
 ·exact fun k2 u2=>C k2 c (u1.trans u2) (ArrV.done (hc.up u2) (ge13 hge))
theorem weight_s {n : Nat} (_hn : n < 13) (C : ∀ k' ds,Up k k'→SurdV k' ds (wt n) 1→R k' (.agg ds)) :
 Cl k 83 #[.int .i64 (n : Int)] R:=by
 intro k0 u0
 unfold wt at C
 refine oweight_vc ⟨fun h=>?_,fun h=>⟨fun h'=>?_,fun h'=>?_⟩⟩
 ·have h : n = 0:=by have:=eq_of_beq h; omega
  rw [if_pos (Or.inl h)] at C
  exact owhole_s (by decide) (by decide) fun k1 d1 u1 h1=>⟨d1,h1.seg,rfl,fun k2 u2=>C k2 d1 ((u0.trans u1).trans u2) (h1.up u2)⟩
 ·have h' : n = 12:=by have:=eq_of_beq h'; omega
  rw [if_pos (Or.inr h')] at C
  exact owhole_s (by decide) (by decide) fun k1 d1 u1 h1=>⟨d1,h1.seg,rfl,fun k2 u2=>C k2 d1 ((u0.trans u1).trans u2) (h1.up u2)⟩
 ·have h0 : ¬ ((n : Int) = 0):=fun e=>by rw [e] at h; exact absurd h (by decide)
  have h2 : ¬ ((n : Int) = 12):=fun e=>by rw [e] at h'; exact absurd h' (by decide)
  rw [if_neg (by omega)] at C
  exact owhole_s (by decide) (by decide) fun k1 d1 u1 h1=>⟨d1,h1.seg,rfl,fun k2 u2=>C k2 d1 ((u0.trans u1).trans u2) (h1.up u2)⟩
theorem energy_s (hx : SpecV k cs p K) (hK1 : 1≤K) (hK : K≤1000000) (C : ∀ k' ds,Up k k'→SurdV k' ds (engQ p) (52*K+157)→R k' (.agg ds)) :
 Cl k 25 #[.agg cs] R:=by
 intro k0 u0
 replace hx:=hx.up u0
 replace C:=fun k' ds u=>C k' ds (u0.trans u)
 refine oEnergy_vc hx.seg ⟨fun m k' vs=>∃ j c,j+m = 13∧vs = [.int .i64 (j : Int),.agg c]∧SurdV k' c (sumQ (fun n=>(wt n).mul (p n).norm) j) (1+j*(4*K+12)),⟨13,fun k' u=>⟨0,_,rfl,rfl,SurdV.nil (Nat.zero_le _)⟩⟩,?_⟩
 rintro m k1 vs u1 ⟨j,c,hj,rfl,hc⟩
 refine ⟨_,c,hc.seg,rfl,fun hlt=>?_,fun hge=>?_⟩
 ·have hlt:=lt13 hlt
  refine ⟨ix13 hlt,weight_s hlt fun k2 d2 u2 h2=>⟨d2,h2.seg,rfl,?_⟩⟩
  have hje:=Nat.mul_le_mul_right (4*K+12) (Nat.le_of_lt hlt)
  have hjs : (j+1)*(4*K+12) = j*(4*K+12)+(4*K+12):=Nat.succ_mul _ _
  refine WNorm_s (ArrV.get ((hx.up u1).up u2) hlt) hK1 (by omega) fun k3 d3 u3 h3=>⟨d3,h3.seg,rfl,?_⟩
  refine SMul_w (h2.up u3) h3 (by decide) (by omega) (by decide) (by omega) fun k4 d4 u4 h4=>⟨d4,h4.seg,rfl,?_⟩
  refine SAdd_w (((hc.up u2).up u3).up u4) h4 (by omega) (by omega) (by omega) (by omega) fun k5 d5 u5 h5=>⟨d5,h5.seg,rfl,fun k6 u6=>?_⟩
  exact ⟨m - 1,by omega,j+1,d5,by omega,by rw [wup (by omega)],(h5.up u6).mono (by omega)⟩
 ·have e : j = 13:=by have:=ge13 hge; omega
  subst e
  exact fun k2 u2=>C k2 c (u1.trans u2) ((hc.up u2).mono (by omega))
theorem plc_neg {j : Nat} (hj : j < 24) : plc (IntKind.wrap .i64 (0 - (j : Int))) = (24 - j) % 24:=by
 have e : IntKind.wrap .i64 (0 - (j : Int)) = 0 - (j : Int):=by rw [IntKind.wrap_i64]; omega
 rw [e]; unfold plc; omega
def trQ (f : Nat→Q4) (c i : Nat) : Q4:=f ((i+(24 - c)) % 24)
def miQ (f : Nat→Q4) (i : Nat) : Q4:=f ((24 - i) % 24)
theorem mirrored_s (hx : RoundV k cs f K) (C : ∀ k' ds,Up k k'→RoundV k' ds (miQ f) K→R k' (.agg ds)) :
 Cl k 49 #[.agg cs] R:=by
 intro k0 u0
 replace hx:=hx.up u0
 replace C:=fun k' ds u=>C k' ds (u0.trans u)
 refine oMirrored_vc hx.seg ⟨fun m k' vs=>∃ j c,j+m = 24∧vs = [.int .i64 (j : Int),.agg c]∧RoundV k' c (cut j (miQ f) fun _=>Q4.zero) K,⟨24,fun k' u=>⟨0,_,rfl,rfl,ArrV.start RoundV.zero⟩⟩,?_⟩
 rintro m k1 vs u1 ⟨j,c,hj,rfl,hc⟩
 refine ⟨_,c,hc.seg,rfl,fun hlt=>?_,fun hge=>?_⟩
 ·have hlt:=lt24 hlt
  have hp : (24 - j) % 24 < 24:=Nat.mod_lt _ (by decide)
  refine oplace_s fun k2 u2=>⟨_,rfl,?_⟩
  rw [plc_neg hlt]
  refine ⟨ix24 hp,ix24 hlt,fun k3 u3=>⟨m - 1,by omega,j+1,_,by omega,by rw [wup (by omega)],?_⟩⟩
  have he:=ArrV.get (((hx.up u1).up u2).up u3) hp
  exact ArrV.step ((hc.up u2).up u3) hlt (SurdV.seg he).1 he
 ·exact fun k2 u2=>C k2 c (u1.trans u2) (ArrV.done (hc.up u2) (ge24 hge))
def Mix (k : World) (cs : Array Value) (f : Nat→Q4 × Nat) : Prop:=ArrV 24 9 (fun a p=>SurdV k a p.1 p.2) cs f
theorem Mix.up {f : Nat→Q4 × Nat} (h : Mix k cs f) (u : Up k k') : Mix k' cs f:=ArrV.mono h fun _ _ h=>h.up u
theorem Mix.seg {f : Nat→Q4 × Nat} (h : Mix k cs f) : Seg 216 cs:=ArrV.seg h fun _ _ h=>h.seg
theorem Mix.round (h : Mix k cs fun i=>(f i,K)) : RoundV k cs f K:=h
theorem oscaled_s (hx : RoundV k cs f K) (hy : SurdV k cs' v L) (hK1 : 1≤K) (hL1 : 1≤L) (hK : K≤100000000) (hL : L≤100000000) (C : ∀ k' ds,Up k k'→RoundV k' ds (fun i=>v.mul (f i)) (K+L+1)→R k' (.agg ds)) :
 Cl k 53 #[.agg cs,.agg cs'] R:=by
 intro k0 u0
 replace hx:=hx.up u0
 replace hy:=hy.up u0
 replace C:=fun k' ds u=>C k' ds (u0.trans u)
 refine oScaled_vc hx.seg hy.seg ⟨fun m k' vs=>∃ j c,j+m = 24∧vs = [.int .i64 (j : Int),.agg c]∧Mix k' c (cut j (fun i=>(v.mul (f i),K+L+1)) fun i=>(f i,K)),⟨24,fun k' u=>⟨0,_,rfl,rfl,ArrV.start (G:=fun i=>(f i,K)) (hx.up u)⟩⟩,?_⟩
 rintro m k1 vs u1 ⟨j,c,hj,rfl,hc⟩
 refine ⟨_,c,hc.seg,rfl,fun hlt=>?_,fun hge=>?_⟩
 ·have hlt:=lt24 hlt
  refine ⟨ix24 hlt,?_⟩
  refine SMul_w (L:=K) (v':=f j) (hy.up u1) (ArrV.at hc hlt) hL1 hK1 hL hK fun k2 d2 u2 h2=>⟨d2,h2.seg,rfl,ix24 hlt,fun k3 u3=>?_⟩
  exact ⟨m - 1,by omega,j+1,_,by omega,by rw [wup (by omega)],ArrV.step ((hc.up u2).up u3) hlt h2.seg.1 ((h2.up u3).mono (by omega))⟩
 ·exact fun k2 u2=>C k2 c (u1.trans u2) (Mix.round (ArrV.done (F:=fun i=>(v.mul (f i),K+L+1)) (hc.up u2) (ge24 hge)))
theorem mean_s (hx : RoundV k cs f K) (hK1 : 1≤K) (hK : K≤100000) (C : ∀ k' ds,Up k k'→SurdV k' ds (ordW f 0).re (24*K+75)→R k' (.agg ds)) :
 Cl k 95 #[.agg cs] R:=by
 intro k0 u0
 refine omean_vc hx.seg (oord_s (n:=0) (hx.up u0) (by decide) hK1 hK fun k1 d1 u1 h1=>⟨d1,h1.seg,rfl,?_⟩)
 exact WRe_s h1 fun k2 d2 u2 h2=>⟨d2,h2.seg,rfl,fun k3 u3=>C k3 d2 (((u0.trans u1).trans u2).trans u3) (h2.up u3)⟩
def cone (f g : Nat→Q4) : Q4:=(Q4.real (1 / 2)).mul ((ordW f 0).re.add (ordW g 0).re)
def steer (f g : Nat→Q4) : Q4:=(Q4.real (1 / 2)).mul ((ordW f 0).re.sub (ordW g 0).re)
theorem sides_s {c0 c1 c2 : Array Value} (h0 : Seg 216 c0) (hx : RoundV k c1 f K) (hy : RoundV k c2 g K) (hK1 : 1≤K) (hK : K≤100000) (C : ∀ k' ds es,Up k k'→SurdV k' ds (cone f g) (48*K+153)→SurdV k' es (steer f g) (48*K+153)→R k' (.tuple #[.agg ds,.agg es])) :
 Cl k 36 #[.agg (c0.toList ++ (c1.toList ++ (c2.toList ++ ([])))).toArray] R:=by
 intro k0 u0
 replace hx:=hx.up u0
 replace hy:=hy.up u0
 replace C:=fun k' ds es u=>C k' ds es (u0.trans u)
 have e2 : ((1 : Int) : Rat) / ((2 : Int) : Rat) = 1 / 2:=rfl
 refine oSides_vc h0 hx.seg hy.seg (mean_s hx hK1 hK fun k1 d1 u1 h1=>⟨d1,h1.seg,rfl,?_⟩)
 refine mean_s (hy.up u1) hK1 hK fun k2 d2 u2 h2=>⟨d2,h2.seg,rfl,?_⟩
 refine opart_s (n:=2) (by decide) (by decide) fun k3 d3 u3 h3=>⟨d3,h3.seg,rfl,?_⟩
 refine SAdd_w ((h1.up u2).up u3) (h2.up u3) (by omega) (by omega) (by omega) (by omega) fun k4 d4 u4 h4=>⟨d4,h4.seg,rfl,?_⟩
 refine SMul_w (h3.up u4) h4 (by decide) (by omega) (by decide) (by omega) fun k5 d5 u5 h5=>⟨d5,h5.seg,rfl,?_⟩
 refine opart_s (n:=2) (by decide) (by decide) fun k6 d6 u6 h6=>⟨d6,h6.seg,rfl,?_⟩
 have u36:=(((u3.trans u4).trans u5).trans u6)
 refine SSub_w ((h1.up u2).up u36) (h2.up u36) (by omega) (by omega) (by omega) (by omega) fun k7 d7 u7 h7=>⟨d7,h7.seg,rfl,?_⟩
 refine SMul_w (h6.up u7) h7 (by decide) (by omega) (by decide) (by omega) fun k8 d8 u8 h8=>⟨d8,h8.seg,rfl,fun k9 u9=>?_⟩
 exact C k9 d5 d8 ((((u1.trans u2).trans u36).trans u7).trans (u8.trans u9)) (((((h5.up u6).up u7).up u8).up u9).mono (by omega)) ((h8.up u9).mono (by omega))
end
end Go.Proofs.YtlginncipdaifaaGreat

/- What is to be shown of the calls of some functions. (Printed by gen/vc.py.) -/
namespace Go.Proofs.YtlginncipdaifaaGreat
open Go.RowKit
open Value (agg slice int bool tuple)
open Sy (Up Sees CallsG Seg execFn_use)
set_option maxRecDepth 100000
variable {k : World} {R : World→Value→Prop}
theorem oRev1_vc {cs0 : Array Value} (hcs0 : Seg 216 cs0)
 (h : Cl k 49 #[agg cs0] fun k1 r0=>Gt 216 r0 fun cs1 =>
 Cl k1 101 #[int .i64 (-1)] fun k3 r2=>Gt 9 r2 fun cs2 =>
 Cl k3 53 #[agg cs1,agg cs2] fun k5 r4=>Gt 216 r4 fun cs3 =>
 ∀ k6,Up k5 k6→R k6 (agg cs3)) :
  CallsG Tryz.prog 100 #[agg cs0] k R :=
  execFn_use (cfg:={ opq:=[72,32] }) (args:=[.agg [.seg 0 216]]) (vals:=[agg cs0]) (kinds:=[.seg 216]) (by kernel_rfl) ⟨⟨cs0,rfl,hcs0⟩,trivial⟩ (by kernel_rfl) (by kernel_rfl) h
theorem oReversed_vc {cs0 cs1 cs2 : Array Value} (hcs0 : Seg 216 cs0) (hcs1 : Seg 216 cs1) (hcs2 : Seg 216 cs2)
 (h : Cl k 49 #[agg cs0] fun k1 r0=>Gt 216 r0 fun cs3 =>
 Cl k1 100 #[agg cs2] fun k3 r2=>Gt 216 r2 fun cs4 =>
 Cl k3 100 #[agg cs1] fun k5 r4=>Gt 216 r4 fun cs5 =>
 ∀ k6,Up k5 k6→R k6 (agg (cs3.toList ++ (cs4.toList ++ (cs5.toList ++ ([])))).toArray)) :
  CallsG Tryz.prog 38 #[agg (cs0.toList ++ (cs1.toList ++ (cs2.toList ++ ([])))).toArray] k R :=
  execFn_use (cfg:={ opq:=[72,32] }) (args:=[.agg [.seg 0 216,.seg 1 216,.seg 2 216]]) (vals:=[agg cs0,agg cs1,agg cs2]) (kinds:=[.seg 216,.seg 216,.seg 216]) (by kernel_rfl) ⟨⟨cs0,rfl,hcs0⟩,⟨⟨cs1,rfl,hcs1⟩,⟨⟨cs2,rfl,hcs2⟩,trivial⟩⟩⟩ (by kernel_rfl) (by kernel_rfl) h
theorem rzero_vc
 (h : Cl k 132 #[int .i64 0] fun k1 r0=>Gt 3 r0 fun cs0 =>
 Cl k1 131 #[agg cs0] fun k3 r2=>Gt 12 r2 fun cs1 =>
 ∀ k4,Up k3 k4→R k4 (agg cs1)) :
  CallsG Tryz.prog 84 #[] k R :=
  execFn_use (cfg:={ opq:=[39,37] }) (args:=[]) (vals:=[]) (kinds:=[]) (by kernel_rfl) trivial (by kernel_rfl) (by kernel_rfl) h
theorem rmean_vc {cs0 : Array Value} (hcs0 : Seg 288 cs0)
 (h : Cl k 84 #[] fun k1 r0=>Gt 12 r0 fun cs1 =>
 ∃ I2 : Nat→World→List Value→Prop,(∃ m2,∀ k2,Up k1 k2→I2 m2 k2 [int .i64 0,agg cs1]) ∧
 ∀ m2 k2 vs2,Up k1 k2→I2 m2 k2 vs2→∃ n2,∃ cs3,Seg 12 cs3∧some [int .i64 n2,agg cs3] = some vs2 ∧
 ((decide ((n2 : Int) < 24)) = true →
 ((decide ((0 : Int)≤n2∧(n2 : Int) < 24)) = true ∧
 (Cl k2 85 #[agg cs3,agg (Sy.pickL cs0 (Int.toNat n2*12+0) 12).toArray] fun k4 r3=>Gt 12 r3 fun cs4 =>
 ∀ k5,Up k4 k5→∃ m,m < m2∧I2 m k5 [int .i64 (IntKind.wrap .i64 (n2+1)),agg cs4]))) ∧
 ((decide ((n2 : Int) < 24)) = false →
 (Cl k2 98 #[int .i64 1,int .i64 24] fun k7 r6=>Gt 12 r6 fun cs4 =>
 Cl k7 86 #[agg cs4,agg cs3] fun k9 r8=>Gt 12 r8 fun cs5 =>
 ∀ k10,Up k9 k10→R k10 (agg cs5)))) :
  CallsG Tryz.prog 97 #[agg cs0] k R :=
  execFn_use (cfg:={ opq:=[76,39],loops:=[(0,[.tmp 4 false [.int .i64],.blk 2 [.seg 12]])] }) (args:=[.agg [.seg 0 288]]) (vals:=[agg cs0]) (kinds:=[.seg 288]) (by kernel_rfl) ⟨⟨cs0,rfl,hcs0⟩,trivial⟩ (by kernel_rfl) (by kernel_rfl) h
theorem rSides_vc {cs0 cs1 cs2 : Array Value} (hcs0 : Seg 288 cs0) (hcs1 : Seg 288 cs1) (hcs2 : Seg 288 cs2)
 (h : Cl k 97 #[agg cs1] fun k1 r0=>Gt 12 r0 fun cs3 =>
 Cl k1 97 #[agg cs2] fun k3 r2=>Gt 12 r2 fun cs4 =>
 Cl k3 98 #[int .i64 1,int .i64 2] fun k5 r4=>Gt 12 r4 fun cs5 =>
 Cl k5 85 #[agg cs3,agg cs4] fun k7 r6=>Gt 12 r6 fun cs6 =>
 Cl k7 86 #[agg cs5,agg cs6] fun k9 r8=>Gt 12 r8 fun cs7 =>
 Cl k9 99 #[agg cs3,agg cs4] fun k11 r10=>Gt 12 r10 fun cs8 =>
 Cl k11 86 #[agg cs5,agg cs8] fun k13 r12=>Gt 12 r12 fun cs9 =>
 ∀ k14,Up k13 k14→R k14 (tuple #[agg cs7,agg cs9])) :
  CallsG Tryz.prog 37 #[agg (cs0.toList ++ (cs1.toList ++ (cs2.toList ++ ([])))).toArray] k R :=
  execFn_use (cfg:={ opq:=[76,39] }) (args:=[.agg [.seg 0 288,.seg 1 288,.seg 2 288]]) (vals:=[agg cs0,agg cs1,agg cs2]) (kinds:=[.seg 288,.seg 288,.seg 288]) (by kernel_rfl) ⟨⟨cs0,rfl,hcs0⟩,⟨⟨cs1,rfl,hcs1⟩,⟨⟨cs2,rfl,hcs2⟩,trivial⟩⟩⟩ (by kernel_rfl) (by kernel_rfl) h
theorem rReversed_vc {cs0 cs1 cs2 : Array Value} (hcs0 : Seg 288 cs0) (hcs1 : Seg 288 cs1) (hcs2 : Seg 288 cs2)
 (h : Cl k 98 #[int .i64 (-1),int .i64 1] fun k1 r0=>Gt 12 r0 fun cs3 =>
 Cl k1 50 #[agg cs0] fun k3 r2=>Gt 288 r2 fun cs4 =>
 Cl k3 50 #[agg cs2] fun k5 r4=>Gt 288 r4 fun cs5 =>
 Cl k5 55 #[agg cs5,agg cs3] fun k7 r6=>Gt 288 r6 fun cs6 =>
 Cl k7 50 #[agg cs1] fun k9 r8=>Gt 288 r8 fun cs7 =>
 Cl k9 55 #[agg cs7,agg cs3] fun k11 r10=>Gt 288 r10 fun cs8 =>
 ∀ k12,Up k11 k12→R k12 (agg (cs4.toList ++ (cs6.toList ++ (cs8.toList ++ ([])))).toArray)) :
  CallsG Tryz.prog 39 #[agg (cs0.toList ++ (cs1.toList ++ (cs2.toList ++ ([])))).toArray] k R :=
  execFn_use (cfg:={ opq:=[76,39] }) (args:=[.agg [.seg 0 288,.seg 1 288,.seg 2 288]]) (vals:=[agg cs0,agg cs1,agg cs2]) (kinds:=[.seg 288,.seg 288,.seg 288]) (by kernel_rfl) ⟨⟨cs0,rfl,hcs0⟩,⟨⟨cs1,rfl,hcs1⟩,⟨⟨cs2,rfl,hcs2⟩,trivial⟩⟩⟩ (by kernel_rfl) (by kernel_rfl) h
theorem lsameRound_vc {cs0 cs1 : Array Value} (hcs0 : Seg 216 cs0) (hcs1 : Seg 216 cs1)
 (h : ∃ I0 : Nat→World→List Value→Prop,(∃ m0,∀ k0,Up k k0→I0 m0 k0 [int .i64 0]) ∧
 ∀ m0 k0 vs0,Up k k0→I0 m0 k0 vs0→∃ n2,some [int .i64 n2] = some vs0 ∧
 ((decide ((n2 : Int) < 24)) = true →
 ((decide ((0 : Int)≤n2∧(n2 : Int) < 24)) = true ∧
 ((decide ((0 : Int)≤n2∧(n2 : Int) < 24)) = true ∧
 (Cl k0 40 #[agg (Sy.pickL cs0 (Int.toNat n2*9+0) 9).toArray,agg (Sy.pickL cs1 (Int.toNat n2*9+0) 9).toArray] fun k2 r1=>∃ b3,some (bool b3) = some r1 ∧
 ((!b3) = true →
 (∀ k3,Up k2 k3→R k3 (bool false))) ∧
 ((!b3) = false →
 (∀ k4,Up k2 k4→∃ m,m < m0∧I0 m k4 [int .i64 (IntKind.wrap .i64 (n2+1))])))))) ∧
 ((decide ((n2 : Int) < 24)) = false →
 (∀ k5,Up k0 k5→R k5 (bool true)))) :
   CallsG Tryz.prog 42 #[agg cs0,agg cs1] k R :=
  execFn_use (cfg:={ opq:=[72,32],loops:=[(0,[.tmp 6 false [.int .i64]])] }) (args:=[.agg [.seg 0 216],.agg [.seg 1 216]]) (vals:=[agg cs0,agg cs1]) (kinds:=[.seg 216,.seg 216]) (by kernel_rfl) ⟨⟨cs0,rfl,hcs0⟩,⟨⟨cs1,rfl,hcs1⟩,trivial⟩⟩ (by kernel_rfl) (by kernel_rfl) h
end Go.Proofs.YtlginncipdaifaaGreat

/- Waveforms and spectra of the reference. -/
namespace Go.Proofs.YtlginncipdaifaaGreat
open Go.RowKit Num Plain W32
open Sy (Up Sees CallsG Seg)
section
variable {k k' : World} {R : World→Value→Prop} {K L : Nat} {cs cs' ds : Array Value} {f g F : Nat→Q4} {p q : Nat→W4} {x y : W4} {v v' : Q4}
def RoundQ (k : World) (cs : Array Value) (f : Nat→Q4) (K : Nat) : Prop:=ArrV 24 12 (fun a v=>SQ k a v K) cs f
def SpecQ (k : World) (cs : Array Value) (p : Nat→W4) (K : Nat) : Prop:=ArrV 13 24 (fun a w=>WQ k a w K) cs p
def MixQ (k : World) (cs : Array Value) (f : Nat→Option (Q4 × Nat)) : Prop:=ArrV 24 12 (optP 12 fun a p=>SQ k a p.1 p.2) cs f
def SpecM (k : World) (cs : Array Value) (p : Nat→Option W4) (K : Nat) : Prop:=ArrV 13 24 (optP 24 fun a w=>WQ k a w K) cs p
theorem RoundQ.up (h : RoundQ k cs f K) (u : Up k k') : RoundQ k' cs f K:=ArrV.mono h fun _ _ h=>h.up u
theorem RoundQ.seg (h : RoundQ k cs f K) : Seg 288 cs:=ArrV.seg h fun _ _ h=>h.seg
theorem MixQ.up {f : Nat→Option (Q4 × Nat)} (h : MixQ k cs f) (u : Up k k') : MixQ k' cs f:=ArrV.mono h fun _ v h=>by
 cases v with
 | none=>exact h
 | some v=>exact SQ.up h u
theorem MixQ.seg {f : Nat→Option (Q4 × Nat)} (h : MixQ k cs f) : Seg 288 cs:=ArrV.seg h fun _ _ h=>optP.seg (fun _ h=>SQ.seg h) h
theorem MixQ.round (h : MixQ k cs fun i=>some (f i,K)) : RoundQ k cs f K:=h
theorem MixQ.zero : MixQ k (zArr 24 zT) fun _=>none:=ArrV.zero (P:=optP 12 fun a (p : Q4 × Nat)=>SQ k a p.1 p.2) (z:=zT) rfl none ⟨rfl,by simp [zT,Value.scalar,Value.noWord]⟩
theorem castQ (h : SQ k cs v K) (e : v = v') : SQ k cs v' K:=e ▸ h
theorem rplace_v {n : Int} (C : ∀ k',Up k k'→R k' (.int .i64 (plc n : Int))) :
 Cl k 107 #[.int .i64 n] R :=
 fun _ u0=>rplace_vc fun k1 u1=>by rw [plc_eq]; exact C k1 (u0.trans u1)
theorem rfraction_v {n d : Int} (hn : In64 n) (hd : In64 d) (C : ∀ k' ds,Up k k'→SQ k' ds (Q4.real ((n : Rat) / (d : Rat))) 2→R k' (.agg ds)) :
 Cl k 98 #[.int .i64 n,.int .i64 d] R:=by
 intro k0 u0
 refine rfraction_vc (new_v hn hd fun k1 d1 u1 q1=>⟨d1,q1.seg,_,rfl,?_⟩)
 refine real_v q1 (by decide) fun k2 d2 u2 h2=>⟨d2,h2.seg,rfl,fun k3 u3=>?_⟩
 exact C k3 d2 (((u0.trans u1).trans u2).trans u3) (h2.up u3)
theorem rzero_v (C : ∀ k' ds,Up k k'→SQ k' ds Q4.zero 2→R k' (.agg ds)) :
 Cl k 84 #[] R:=by
 intro k0 u0
 refine rzero_vc (whole_v (z:=0) (by decide) (by decide) fun k1 d1 u1 q1=>⟨d1,q1.seg,rfl,?_⟩)
 refine real_v q1 (by decide) fun k2 d2 u2 h2=>⟨d2,h2.seg,rfl,fun k3 u3=>?_⟩
 exact C k3 d2 (((u0.trans u1).trans u2).trans u3) (castQ (h2.up u3) rfl)
def trO (f : Nat→Q4) (K c j i : Nat) : Option (Q4 × Nat):=if (i+(24 - c)) % 24 < j then some (trQ f c i,K) else none
def miO (f : Nat→Q4) (K j i : Nat) : Option (Q4 × Nat):=if (24 - i) % 24 < j then some (miQ f i,K) else none
theorem rmirrored_v (hx : RoundQ k cs f K) (C : ∀ k' ds,Up k k'→RoundQ k' ds (miQ f) K→R k' (.agg ds)) :
 Cl k 50 #[.agg cs] R:=by
 intro k0 u0
 replace hx:=hx.up u0
 replace C:=fun k' ds u=>C k' ds (u0.trans u)
 refine rMirrored_vc hx.seg ⟨fun m k' vs=>∃ j c,j+m = 24∧vs = [.int .i64 (j : Int),.agg c]∧MixQ k' c (miO f K j),⟨24,fun k' u=>⟨0,_,rfl,rfl,MixQ.zero⟩⟩,?_⟩
 rintro m k1 vs u1 ⟨j,c,hj,rfl,hc⟩
 refine ⟨_,c,hc.seg,rfl,fun hlt=>?_,fun hge=>?_⟩
 ·have hlt:=lt24 hlt
  refine ⟨ix24 hlt,rplace_v fun k2 u2=>⟨_,rfl,?_⟩⟩
  rw [plc_neg hlt]
  have hp : (24 - j) % 24 < 24:=Nat.mod_lt _ (by decide)
  refine ⟨ix24 hp,fun k3 u3=>⟨m - 1,by omega,j+1,_,by omega,by rw [wup (by omega)],?_⟩⟩
  have he : SQ k3 _ (f j) K:=ArrV.get (((hx.up u1).up u2).up u3) hlt
  have e1 : (24 - (24 - j) % 24) % 24 = j:=by omega
  refine ArrV.set (g:=miO f K (j+1)) ((hc.up u2).up u3) hp he.seg.1 ?_ fun i hi hne=>?_
  ·unfold miO miQ
   rw [e1,if_pos (Nat.lt_succ_self j)]
   exact he
  ·unfold miO
   by_cases h : (24 - i) % 24 < j
   ·rw [if_pos h,if_pos (by omega)]
   ·rw [if_neg h,if_neg (by omega)]
 ·exact fun k2 u2=>C k2 c (u1.trans u2) (MixQ.round (ArrV.congr (hc.up u2) fun i hi=>if_pos (by have:=ge24 hge; omega)))
theorem rscaled_v (hx : RoundQ k cs f K) (hy : SQ k cs' v L) (hK : 4*(L+K)+22≤10000000000) (C : ∀ k' ds,Up k k'→RoundQ k' ds (fun i=>v.mul (f i)) (4*(L+K)+22)→R k' (.agg ds)) :
 Cl k 55 #[.agg cs,.agg cs'] R:=by
 intro k0 u0
 replace hx:=hx.up u0
 replace hy:=hy.up u0
 replace C:=fun k' ds u=>C k' ds (u0.trans u)
 refine rScaled_vc hx.seg hy.seg ⟨fun m k' vs=>∃ j c,j+m = 24∧vs = [.int .i64 (j : Int),.agg c]∧MixQ k' c (cut j (fun i=>some (v.mul (f i),4*(L+K)+22)) fun i=>some (f i,K)),⟨24,fun k' u=>⟨0,_,rfl,rfl,ArrV.start (G:=fun i=>some (f i,K)) (hx.up u)⟩⟩,?_⟩
 rintro m k1 vs u1 ⟨j,c,hj,rfl,hc⟩
 refine ⟨_,c,hc.seg,rfl,fun hlt=>?_,fun hge=>?_⟩
 ·have hlt:=lt24 hlt
  refine ⟨ix24 hlt,?_⟩
  refine smul_v (L:=K) (v':=f j) (hy.up u1) (ArrV.at hc hlt) hK fun k2 d2 u2 h2=>⟨d2,h2.seg,rfl,ix24 hlt,fun k3 u3=>?_⟩
  exact ⟨m - 1,by omega,j+1,_,by omega,by rw [wup (by omega)],ArrV.step ((hc.up u2).up u3) hlt h2.seg.1 (h2.up u3)⟩
 ·exact fun k2 u2=>C k2 c (u1.trans u2) (MixQ.round (ArrV.done (F:=fun i=>some (v.mul (f i),4*(L+K)+22)) (hc.up u2) (ge24 hge)))
end
end Go.Proofs.YtlginncipdaifaaGreat

/- The laws' own functions on waveforms; the examples of the chapter. -/
namespace Go.Proofs.YtlginncipdaifaaGreat
open Go.RowKit Num Plain W32
open Sy (Up Sees CallsG Seg)
section
variable {k k' : World} {R : World→Value→Prop} {K L : Nat} {cs cs' ds : Array Value} {f g F : Nat→Q4} {p q : Nat→W4} {x y : W4} {v v' : Q4}
def IsQuad (a : Array Value) (v : Q4) : Prop:=∃ n0 n1 n2 n3 n4 n5 n6 n7 : Int,(In64 n0∧In64 n1∧In64 n2∧In64 n3∧In64 n4∧In64 n5∧In64 n6∧In64 n7)∧a = #[.int .i64 n0,.int .i64 n1,.int .i64 n2,.int .i64 n3,.int .i64 n4,.int .i64 n5,.int .i64 n6,.int .i64 n7]∧v = ⟨ofQ n0 n1,ofQ n2 n3,ofQ n4 n5,ofQ n6 n7⟩
theorem IsQuad.seg (h : IsQuad cs v) : Seg 8 cs:=by
 obtain ⟨n0,n1,n2,n3,n4,n5,n6,n7,_,rfl,_⟩:=h
 exact ⟨rfl,by simp [Value.scalar,Value.noWord]⟩
theorem rounds_s (hx : ArrV 24 8 IsQuad cs f) (C : ∀ k' ds es,Up k k'→RoundV k' ds f 6→RoundQ k' es f 2→R k' (.tuple #[.agg ds,.agg es])) :
 Cl k 33 #[.agg cs] R:=by
 intro k0 u0
 replace C:=fun k' ds es u=>C k' ds es (u0.trans u)
 refine lRounds_vc (ArrV.seg hx fun _ _ h=>h.seg) ⟨fun m k' vs=>∃ j c d,j+m = 24∧vs = [.int .i64 (j : Int),.agg c,.agg d]∧RoundV k' c (cut j f fun _=>Q4.zero) 6∧MixQ k' d (cut j (fun i=>some (f i,2)) fun _=>none),⟨24,fun k' u=>⟨0,_,_,rfl,rfl,ArrV.start RoundV.zero,ArrV.start MixQ.zero⟩⟩,?_⟩
 rintro m k1 vs u1 ⟨j,c,d,hj,rfl,hc,hd⟩
 refine ⟨_,c,hc.seg,d,hd.seg,rfl,fun hlt=>?_,fun hge=>?_⟩
 ·have hlt:=lt24 hlt
  obtain ⟨n0,n1,n2,n3,n4,n5,n6,n7,⟨h0,h1,h2,h3,h4,h5,h6,h7⟩,e,ev⟩:=ArrV.get hx hlt
  rw [e]
  refine ⟨ix24 hlt,OfQuad_s h0 h1 h2 h3 h4 h5 h6 h7 fun k2 d2 u2 a2=>⟨d2,a2.seg,rfl,ix24 hlt,?_⟩⟩
  refine squad_v h0 h1 h2 h3 h4 h5 h6 h7 fun k3 d3 u3 a3=>⟨d3,a3.seg,rfl,ix24 hlt,fun k4 u4=>?_⟩
  rw [← ev] at a2 a3
  have u:=(u2.trans u3).trans u4
  exact ⟨m - 1,by omega,j+1,_,_,by omega,by rw [wup (by omega)],ArrV.step (hc.up u) hlt a2.seg.1 ((a2.up u3).up u4),ArrV.step (hd.up u) hlt a3.seg.1 (a3.up u4)⟩
 ·exact fun k2 u2=>C k2 c d (u1.trans u2) (ArrV.done (hc.up u2) (ge24 hge)) (MixQ.round (ArrV.done (F:=fun i=>some (f i,2)) (hd.up u2) (ge24 hge)))
theorem isRound_s (hx : RoundV k cs f K) (hy : RoundQ k cs' g L) (e : ∀ i,i < 24→f i = g i) (hK1 : 1≤K) (hK : K≤268435456) (hL : L≤10000000000) (C : ∀ k',Up k k'→R k' (.bool true)) :
 Cl k 23 #[.agg cs,.agg cs'] R:=by
 intro k0 u0
 replace hx:=hx.up u0
 replace hy:=hy.up u0
 refine lisRound_vc hx.seg hy.seg ⟨fun m k' vs=>∃ j,j+m = 24∧vs = [.int .i64 ((j : Nat) : Int)],⟨24,fun k' u=>⟨0,rfl,rfl⟩⟩,?_⟩
 rintro m k1 vs u1 ⟨j,hj,rfl⟩
 refine ⟨_,rfl,fun hlt=>?_,fun hge=>fun k2 u2=>C k2 ((u0.trans u1).trans u2)⟩
 have hlt:=lt24 hlt
 refine ⟨ix24 hlt,ix24 hlt,?_⟩
 refine isSurd_s (castS (ArrV.get (hx.up u1) hlt) (e j hlt)) hK1 hK (ArrV.get (hy.up u1) hlt) hL fun k2 u2=>⟨_,rfl,fun h=>(nomatch h),fun _ k3 u3=>?_⟩
 exact ⟨m - 1,by omega,j+1,by omega,by rw [wup (by omega)]⟩
theorem first_round (h : SurdV k ds v K) : RoundV k (ds.toList ++ (List.replicate 23 zS).flatten).toArray (fun i=>if i = 0 then v else Q4.zero) K:=by
 have h0:=ArrV.set (n:=24) (s:=9) (i:=0) (g:=fun i=>if i = 0 then v else Q4.zero) (RoundV.zero (k:=k) (K:=K)) (by decide) h.seg.1 h (fun j _ hj=>(if_neg hj).symm)
 have hl : ds.toList.length = 9:=by rw [Array.length_toList]; exact h.seg.1
 have e : (ds.toList ++ (List.replicate 23 zS).flatten).toArray = Sy.over (zArr 24 zS) (Int.toNat ((0 : Nat) : Int)*9+0) ds.toList:=by
  have z : (zArr 24 zS).toList = zS ++ (List.replicate 23 zS).flatten:=by unfold zArr; rw [show 24 = 23+1 from rfl,List.replicate_succ,List.flatten_cons]
  rw [← Array.toList_inj,Sy.over_eq _ _ _ (by rw [hl]; have:=(RoundV.zero (k:=k) (K:=K)).seg.1; omega),hl,z,show Int.toNat ((0 : Nat) : Int)*9+0 = 0 from rfl,List.take_zero,Nat.zero_add,List.nil_append,List.drop_left' (show zS.length = 9 from rfl)]
 rw [e]; exact h0
theorem dec_two (n a b : Nat) (h : n = 10*a+b) (ha : 0 < a) (ha' : a < 10) (hb : b < 10) : dec n = [UInt8.ofNat (48+a),UInt8.ofNat (48+b)]:=by
 unfold dec
 rw [if_neg (by omega),dig_pos (by omega),dig_pos (n:=n / 10) (by omega),show n / 10 / 10 = 0 by omega,dig_zero,show n / 10 % 10 = a by omega,show n % 10 = b by omega]
 rfl
theorem dec_1 : dec 1 = [49]:=by
 unfold dec
 rw [if_neg (by omega),dig_pos (by omega),show 1 / 10 = 0 from rfl,dig_zero]
 rfl
theorem real_text (q : Rat) (h : q ≠ 0) : surdText (Q4.real q) = ratText q:=by
 have hn : ratText q ≠ []:=by
  unfold ratText
  intro e
  have e1:=List.append_eq_nil_iff.1 (List.append_eq_nil_iff.1 e).2
  have:=dec_len (q.num.natAbs)
  have h2 : dec q.num.natAbs ≠ []:=by
   unfold dec
   split
   ·simp
   ·rename_i hq; rw [dig_pos hq]; simp
  exact h2 e1.1
 have p1 : addPart [] q [] = ratText q:=by
  unfold addPart
  rw [if_neg h,if_neg (by simp),List.append_nil]; rfl
 have p3 : ∀ s m : List UInt8,addPart s 0 m = s:=fun s m=>by
  unfold addPart
  rw [if_pos rfl]
 unfold surdText Q4.real
 simp only [body]
 rw [p1,p3,p3,p3,if_neg hn]
theorem text_24 : surdText (Q4.real (1 / 24)) = [49,47,50,52]:=by
 rw [real_text _ (by decide +kernel)]
 unfold ratText
 rw [show ((1 / 24 : Rat)).num = 1 by decide +kernel,show ((1 / 24 : Rat)).den = 24 by decide +kernel,if_neg (by decide),if_neg (by decide),show (1 : Int).natAbs = 1 from rfl,dec_1,dec_two 24 2 4 rfl (by decide) (by decide) (by decide)]
 rfl
theorem text_10 : surdText (Q4.real 10) = [49,48]:=by
 rw [real_text _ (by decide +kernel)]
 unfold ratText
 rw [show (10 : Rat).num = 10 from rfl,show (10 : Rat).den = 1 from rfl,if_neg (by decide),if_pos rfl,show (10 : Int).natAbs = 10 from rfl,dec_two 10 1 0 rfl (by decide) (by decide) (by decide)]
 rfl
theorem text_20 : surdText (Q4.real 20) = [50,48]:=by
 rw [real_text _ (by decide +kernel)]
 unfold ratText
 rw [show (20 : Rat).num = 20 from rfl,show (20 : Rat).den = 1 from rfl,if_neg (by decide),if_pos rfl,show (20 : Int).natAbs = 20 from rfl,dec_two 20 2 0 rfl (by decide) (by decide) (by decide)]
 rfl
theorem txt {l : List UInt8} (h : surdText v = l) : (ByteArray.toList (str (surdText v)) == ByteArray.toList ⟨l.toArray⟩) = true:=by
 rw [h]; exact beq_self_eq_true _
def unitF (i : Nat) : Q4:=if i = 0 then Q4.real 1 else Q4.zero
theorem unit_ord (n : Nat) : ordW unitF n = ofR (Q4.real (1 / 24)):=by
 unfold ordW
 rw [sumW_single (m:=0) (by decide) fun j _ hj=>by unfold unitF; rw [if_neg hj,ofR_zero,W4.zero_mul]]
 have e : (ofR (unitF 0)).mul (trn (23*n*0)) = W4.real 1:=by rw [Nat.mul_zero]; decide +kernel
 rw [e]; decide +kernel
theorem unit_eng : engQ (ordW unitF) = Q4.real (1 / 24):=by
 rw [engQ_congr (g:=fun _=>ofR (Q4.real (1 / 24))) fun n _=>unit_ord n]
 decide +kernel
theorem cone_10 : cone (fun _=>Q4.real 30) (fun _=>Q4.real (-10)) = Q4.real 10:=by
 unfold cone; rw [ord_mean,ord_mean]; decide +kernel
theorem steer_20 : steer (fun _=>Q4.real 30) (fun _=>Q4.real (-10)) = Q4.real 20:=by
 unfold steer; rw [ord_mean,ord_mean]; decide +kernel
theorem lawake_s (C : ∀ k',Up k k'→R k' (.bool true)) : Cl k 32 #[] R:=by
 intro k0 u0
 replace C:=fun k' u=>C k' (u0.trans u)
 refine lawake_vc (QInt_s (z:=1) (by omega) (by omega) fun k1 d1 u1 h1=>⟨d1,h1.seg,rfl,?_⟩)
 refine SOf_s (SurdV.nil (K:=1) (Nat.zero_le _)) h1 fun k2 d2 u2 h2=>⟨d2,h2.seg,rfl,?_⟩
 refine analyze_s (K:=1) (f:=unitF) (first_round h2) (by decide) (by decide) fun k3 d3 u3 h3=>⟨d3,h3.seg,rfl,?_⟩
 replace C:=fun k' u=>C k' (((u1.trans u2).trans u3).trans u)
 clear u1 u2 u3 h1 h2
 refine ⟨fun m k' vs=>∃ j a b c,j+m = 24∧vs = [.int .i64 (j : Int),.agg (a.toList ++ (b.toList ++ (c.toList ++ ([])))).toArray]∧Seg 216 a∧RoundV k' b (cut j (fun _=>Q4.real 30) fun _=>Q4.zero) 1∧RoundV k' c (cut j (fun _=>Q4.real (-10)) fun _=>Q4.zero) 1,⟨24,fun k' u=>⟨0,zArr 24 zS,zArr 24 zS,zArr 24 zS,rfl,rfl,(RoundV.zero (k:=k') (K:=1)).seg,ArrV.start RoundV.zero,ArrV.start RoundV.zero⟩⟩,?_⟩
 rintro m k4 vs u4 ⟨j,a,b,c,hj,rfl,ha,hb,hc⟩
 refine ⟨_,a,ha,b,hb.seg,c,hc.seg,rfl,fun hlt=>?_,fun hge=>?_⟩
 ·have hlt:=lt24 hlt
  refine ⟨ix24 hlt,ix24 hlt,QInt_s (z:=30) (by omega) (by omega) fun k5 d5 u5 h5=>⟨d5,h5.seg,rfl,?_⟩⟩
  refine SOf_s (ArrV.at (hb.up u5) hlt) h5 fun k6 d6 u6 h6=>⟨d6,h6.seg,rfl,ix24 hlt,?_⟩
  refine QInt_s (z:=-10) (by omega) (by omega) fun k7 d7 u7 h7=>⟨d7,h7.seg,rfl,?_⟩
  refine SOf_s (ArrV.at (((hc.up u5).up u6).up u7) hlt) h7 fun k8 d8 u8 h8=>⟨d8,h8.seg,rfl,ix24 hlt,fun k9 u9=>?_⟩
  have u59:=(((u5.trans u6).trans u7).trans u8).trans u9
  exact ⟨m - 1,by omega,j+1,_,_,_,by omega,by rw [wup (by omega)],ha,ArrV.step (hb.up u59) hlt h6.seg.1 (((h6.up u7).up u8).up u9),ArrV.step (hc.up u59) hlt h8.seg.1 (h8.up u9)⟩
 ·have hb : RoundV k4 b (fun _=>Q4.real 30) 1:=ArrV.done hb (ge24 hge)
  have hc : RoundV k4 c (fun _=>Q4.real (-10)) 1:=ArrV.done hc (ge24 hge)
  refine sides_s ha hb hc (by decide) (by decide) fun k5 d5 e5 u5 h5 g5=>⟨d5,h5.seg,e5,g5.seg,rfl,?_⟩
  rw [cone_10] at h5
  rw [steer_20] at g5
  refine energy_s ((h3.up u4).up u5) (by decide) (by decide) fun k6 d6 u6 h6=>⟨d6,h6.seg,rfl,?_⟩
  rw [unit_eng] at h6
  refine SText_s h6 (by decide) (by decide) fun k7 u7=>⟨_,rfl,fun _=>?_,fun h=>absurd (txt text_24) (by rw [h]; decide)⟩
  have h3' : WaveV k7 (Sy.pickL d3 (Int.toNat 0*0+90) 18).toArray (ordW unitF 5) (24*1+75):=ArrV.get (i:=5) ((((h3.up u4).up u5).up u6).up u7) (by decide)
  rw [unit_ord] at h3'
  refine WRe_s h3' fun k8 d8 u8 h8=>⟨d8,h8.seg,rfl,?_⟩
  refine SText_s (v:=Q4.real (1 / 24)) h8 (by decide) (by decide) fun k9 u9=>⟨_,rfl,fun _=>?_,fun h=>absurd (txt text_24) (by rw [h]; decide)⟩
  have u69:=((u6.trans u7).trans u8).trans u9
  refine SText_s (h5.up u69) (by decide) (by decide) fun k10 u10=>⟨_,rfl,fun _=>?_,fun h=>absurd (txt text_10) (by rw [h]; decide)⟩
  refine SText_s ((g5.up u69).up u10) (by decide) (by decide) fun k11 u11=>⟨_,rfl,fun k12 u12=>?_⟩
  have:=C k12 (((((u4.trans u5).trans u69).trans u10).trans u11).trans u12)
  rw [show (ByteArray.toList (str (surdText (Q4.real 20))) == ByteArray.toList ⟨#[50,48]⟩) = true from txt text_20]
  exact this
end
end Go.Proofs.YtlginncipdaifaaGreat

/- What OrdersMeasures computes. -/
namespace Go.Proofs.YtlginncipdaifaaGreat
open Go.RowKit Num Plain W32
open Sy (Up Sees CallsG Seg)
section
variable {k k' : World} {R : World→Value→Prop} {K L : Nat} {cs cs' cs'' : Array Value} {f g h : Nat→Q4}
def okP (a b : Int) : Prop:=(0≤a∧a < 24)∧(0≤b∧b < 24)
instance {a b : Int} : Decidable (okP a b):=by unfold okP; infer_instance
def measQ (f g h : Nat→Q4) (a b : Int) (i : Nat) : Q4:=((trQ f (plc a) i).add (trQ g (plc b) i)).add (h i)
end
end Go.Proofs.YtlginncipdaifaaGreat

/- Waveforms of spectra; the parts of a waveform. -/
namespace Go.Proofs.YtlginncipdaifaaGreat
open Go.RowKit Num Plain W32
open Sy (Up Sees CallsG Seg)
section
variable {k k' : World} {R : World→Value→Prop} {K L : Nat} {cs cs' ds : Array Value} {f g : Nat→Q4} {p q : Nat→W4} {x y : W4} {v v' : Q4}
def oneO (j : Nat) (a : Q4 × Nat) (F : Nat→Option (Q4 × Nat)) (i : Nat) : Option (Q4 × Nat):=if i = j then some a else F i
theorem sameRound_s (hx : RoundV k cs f K) (hy : RoundV k cs' g K) (e : ∀ i,i < 24→f i = g i) (hK1 : 1≤K) (hK : K≤134217727) (C : ∀ k',Up k k'→R k' (.bool true)) :
 Cl k 42 #[.agg cs,.agg cs'] R:=by
 intro k0 u0
 replace hx:=hx.up u0
 replace hy:=hy.up u0
 refine lsameRound_vc hx.seg hy.seg ⟨fun m k' vs=>∃ j,j+m = 24∧vs = [.int .i64 ((j : Nat) : Int)],⟨24,fun k' u=>⟨0,rfl,rfl⟩⟩,?_⟩
 rintro m k1 vs u1 ⟨j,hj,rfl⟩
 refine ⟨_,rfl,fun hlt=>?_,fun hge=>fun k2 u2=>C k2 ((u0.trans u1).trans u2)⟩
 have hlt:=lt24 hlt
 refine ⟨ix24 hlt,ix24 hlt,?_⟩
 refine SSame_t (ArrV.get (hx.up u1) hlt) (ArrV.get (hy.up u1) hlt) (e j hlt) hK1 hK fun k2 u2=>⟨_,rfl,fun h=>(nomatch h),fun _ k3 u3=>?_⟩
 exact ⟨m - 1,by omega,j+1,by omega,by rw [wup (by omega)]⟩
end
end Go.Proofs.YtlginncipdaifaaGreat

/- What OrdersSynthesizes computes. -/
namespace Go.Proofs.YtlginncipdaifaaGreat
open Go.RowKit Num Plain W32
open Sy (Up Sees CallsG Seg)
section
variable {k k' : World} {R : World→Value→Prop} {K L : Nat} {cs cs' ds es : Array Value} {f g : Nat→Q4} {p q : Nat→W4} {x y : W4} {v v' : Q4}
def IsPair (a : Array Value) (w : W4) : Prop:=∃ n0 n1 n2 n3 n4 n5 n6 n7 n8 n9 n10 n11 n12 n13 n14 n15 : Int,(In64 n0∧In64 n1∧In64 n2∧In64 n3∧In64 n4∧In64 n5∧In64 n6∧In64 n7∧In64 n8∧In64 n9∧In64 n10∧In64 n11∧In64 n12∧In64 n13∧In64 n14∧In64 n15)∧a = #[.int .i64 n0,.int .i64 n1,.int .i64 n2,.int .i64 n3,.int .i64 n4,.int .i64 n5,.int .i64 n6,.int .i64 n7,.int .i64 n8,.int .i64 n9,.int .i64 n10,.int .i64 n11,.int .i64 n12,.int .i64 n13,.int .i64 n14,.int .i64 n15]∧w = ⟨⟨ofQ n0 n1,ofQ n2 n3,ofQ n4 n5,ofQ n6 n7⟩,⟨ofQ n8 n9,ofQ n10 n11,ofQ n12 n13,ofQ n14 n15⟩⟩
def realEnds (p : Nat→W4) (n : Nat) : W4:=if n = 0∨n = 12 then ofR (p n).re else p n
end
end Go.Proofs.YtlginncipdaifaaGreat

/- What is to be shown of the calls of some functions. (Printed by gen/vc.py.) -/
namespace Go.Proofs.YtlginncipdaifaaGreat
open Go.RowKit
open Value (agg slice int bool tuple)
open Sy (Up Sees CallsG Seg execFn_use)
set_option maxRecDepth 100000
variable {k : World} {R : World→Value→Prop}
end Go.Proofs.YtlginncipdaifaaGreat

/- The greatest differences; what OrdersTurnings computes. -/
namespace Go.Proofs.YtlginncipdaifaaGreat
open Go.RowKit Num Plain W32
open Sy (Up Sees CallsG Seg)
section
variable {k k' : World} {R : World→Value→Prop} {K L : Nat} {cs cs' ds es : Array Value} {f g : Nat→Q4} {p q : Nat→W4} {x y : W4} {v v' : Q4}
theorem ord_mi (f : Nat→Q4) (n : Nat) : ordW (miQ f) n = (ordW f n).conj:=ord_mirrored f n
end
end Go.Proofs.YtlginncipdaifaaGreat

/- What is to be shown of the calls of some functions. (Printed by gen/vc.py.) -/
namespace Go.Proofs.YtlginncipdaifaaGreat
open Go.RowKit
open Value (agg slice int bool tuple)
open Sy (Up Sees CallsG Seg execFn_use)
set_option maxRecDepth 100000
variable {k : World} {R : World→Value→Prop}
theorem osides_vc {cs0 cs1 cs2 : Array Value} (hcs0 : Seg 192 cs0) (hcs1 : Seg 192 cs1) (hcs2 : Seg 192 cs2)
 (h : ∃ cs3,Seg 648 cs3∧some (agg ((zArr 24 zS).toList ++ ((zArr 24 zS).toList ++ ((zArr 24 zS).toList ++ ([])))).toArray) = some (agg cs3) ∧
 ∃ cs4,Seg 864 cs4∧some (agg ((zArr 24 zT).toList ++ ((zArr 24 zT).toList ++ ((zArr 24 zT).toList ++ ([])))).toArray) = some (agg cs4) ∧
 Cl k 33 #[agg cs0] fun k1 r0=>∃ cs5,Seg 216 cs5∧∃ cs6,Seg 288 cs6∧some (tuple #[agg cs5,agg cs6]) = some r0 ∧
 Cl k1 33 #[agg cs1] fun k3 r2=>∃ cs7,Seg 216 cs7∧∃ cs8,Seg 288 cs8∧some (tuple #[agg cs7,agg cs8]) = some r2 ∧
 Cl k3 33 #[agg cs2] fun k5 r4=>∃ cs9,Seg 216 cs9∧∃ cs10,Seg 288 cs10∧some (tuple #[agg cs9,agg cs10]) = some r4 ∧
 Cl k5 36 #[agg (cs5.toList ++ (cs7.toList ++ (cs9.toList ++ ([])))).toArray] fun k7 r6=>∃ cs11,Seg 9 cs11∧∃ cs12,Seg 9 cs12∧some (tuple #[agg cs11,agg cs12]) = some r6 ∧
 Cl k7 37 #[agg (cs6.toList ++ (cs8.toList ++ (cs10.toList ++ ([])))).toArray] fun k9 r8=>∃ cs13,Seg 12 cs13∧∃ cs14,Seg 12 cs14∧some (tuple #[agg cs13,agg cs14]) = some r8 ∧
 Cl k9 38 #[agg (cs5.toList ++ (cs7.toList ++ (cs9.toList ++ ([])))).toArray] fun k11 r10=>∃ cs15,Seg 216 cs15∧∃ cs16,Seg 216 cs16∧∃ cs17,Seg 216 cs17∧some (agg (cs15.toList ++ (cs16.toList ++ (cs17.toList ++ ([])))).toArray) = some r10 ∧
 Cl k11 39 #[agg (cs6.toList ++ (cs8.toList ++ (cs10.toList ++ ([])))).toArray] fun k13 r12=>∃ cs18,Seg 288 cs18∧∃ cs19,Seg 288 cs19∧∃ cs20,Seg 288 cs20∧some (agg (cs18.toList ++ (cs19.toList ++ (cs20.toList ++ ([])))).toArray) = some r12 ∧
 Cl k13 17 #[agg cs11,agg cs13] fun k15 r14=>∃ b21,some (bool b21) = some r14 ∧
 ((!b21) = true →
 (∀ k16,Up k15 k16→R k16 (bool false))) ∧
 ((!b21) = false →
 (Cl k15 17 #[agg cs12,agg cs14] fun k18 r17=>∃ b22,some (bool b22) = some r17 ∧
 ((!b22) = true →
 (∀ k19,Up k18 k19→R k19 (bool false))) ∧
 ((!b22) = false →
 (Cl k18 23 #[agg cs15,agg cs18] fun k21 r20=>∃ b23,some (bool b23) = some r20 ∧
 ((!b23) = true →
 (∀ k22,Up k21 k22→R k22 (bool false))) ∧
 ((!b23) = false →
 (Cl k21 23 #[agg cs16,agg cs19] fun k24 r23=>∃ b24,some (bool b24) = some r23 ∧
 ((!b24) = true →
 (∀ k25,Up k24 k25→R k25 (bool false))) ∧
 ((!b24) = false →
 (Cl k24 23 #[agg cs17,agg cs20] fun k27 r26=>∃ b25,some (bool b25) = some r26 ∧
 ((!b25) = true →
 (∀ k28,Up k27 k28→R k28 (bool false))) ∧
 ((!b25) = false →
 (Cl k27 36 #[agg (cs15.toList ++ (cs16.toList ++ (cs17.toList ++ ([])))).toArray] fun k30 r29=>∃ cs26,Seg 9 cs26∧∃ cs27,Seg 9 cs27∧some (tuple #[agg cs26,agg cs27]) = some r29 ∧
 Cl k30 38 #[agg (cs15.toList ++ (cs16.toList ++ (cs17.toList ++ ([])))).toArray] fun k32 r31=>∃ cs28,Seg 216 cs28∧∃ cs29,Seg 216 cs29∧∃ cs30,Seg 216 cs30∧some (agg (cs28.toList ++ (cs29.toList ++ (cs30.toList ++ ([])))).toArray) = some r31 ∧
 ∃ cs31,Seg 648 cs31∧some (agg ((zArr 24 zS).toList ++ ((zArr 24 zS).toList ++ ((zArr 24 zS).toList ++ ([])))).toArray) = some (agg cs31) ∧
 Cl k32 41 #[agg cs11] fun k34 r33=>Gt 9 r33 fun cs32 =>
 Cl k34 40 #[agg cs26,agg cs32] fun k36 r35=>∃ b33,some (bool b33) = some r35 ∧
 ((!b33) = true →
 (∀ k37,Up k36 k37→R k37 (bool false))) ∧
 ((!b33) = false →
 (Cl k36 40 #[agg cs27,agg cs12] fun k39 r38=>∃ b34,some (bool b34) = some r38 ∧
 ((!b34) = true →
 (∀ k40,Up k39 k40→R k40 (bool false))) ∧
 ((!b34) = false →
 (Cl k39 42 #[agg cs28,agg cs5] fun k42 r41=>∃ b35,some (bool b35) = some r41 ∧
 ((!b35) = true →
 (∀ k43,Up k42 k43→R k43 (bool false))) ∧
 ((!b35) = false →
 (Cl k42 42 #[agg cs29,agg cs7] fun k45 r44=>∃ b36,some (bool b36) = some r44 ∧
 ((!b36) = true →
 (∀ k46,Up k45 k46→R k46 (bool false))) ∧
 ((!b36) = false →
 (Cl k45 42 #[agg cs30,agg cs9] fun k48 r47=>∃ b37,some (bool b37) = some r47 ∧
 ((!b37) = true →
 (∀ k49,Up k48 k49→R k49 (bool false))) ∧
 ((!b37) = false →
 (Cl k48 31 #[agg cs5] fun k51 r50=>Gt 234 r50 fun cs38 =>
 Cl k51 31 #[agg cs15] fun k53 r52=>Gt 234 r52 fun cs39 =>
 ∃ I54 : Nat→World→List Value→Prop,(∃ m54,∀ k54,Up k53 k54→I54 m54 k54 [int .i64 0]) ∧
 ∀ m54 k54 vs54,Up k53 k54→I54 m54 k54 vs54→∃ n40,some [int .i64 n40] = some vs54 ∧
 ((decide ((n40 : Int) < 13)) = true →
 ((decide ((0 : Int)≤n40∧(n40 : Int) < 13)) = true ∧
 ((decide ((0 : Int)≤n40∧(n40 : Int) < 13)) = true ∧
 (Cl k54 44 #[agg (Sy.pickL cs38 (Int.toNat n40*18+0) 18).toArray] fun k56 r55=>Gt 18 r55 fun cs41 =>
 Cl k56 43 #[agg (Sy.pickL cs39 (Int.toNat n40*18+0) 18).toArray,agg cs41] fun k58 r57=>∃ b42,some (bool b42) = some r57 ∧
 ((!b42) = true →
 (∀ k59,Up k58 k59→R k59 (bool false))) ∧
 ((!b42) = false →
 (∀ k60,Up k58 k60→∃ m,m < m54∧I54 m k60 [int .i64 (IntKind.wrap .i64 (n40+1))])))))) ∧
 ((decide ((n40 : Int) < 13)) = false →
 (Cl k54 32 #[] fun k62 r61=>∃ b41,some (bool b41) = some r61 ∧
 ∀ k63,Up k62 k63→R k63 (bool b41)))))))))))))))))))))))) :
  CallsG Tryz.prog 6 #[agg (cs0.toList ++ (cs1.toList ++ (cs2.toList ++ ([])))).toArray] k R :=
  execFn_use (cfg:={ opq:=[87,72,76,66,32,34,39],loops:=[(0,[.tmp 137 false [.int .i64]])],big:=60 }) (args:=[.agg [.seg 0 192,.seg 1 192,.seg 2 192]]) (vals:=[agg cs0,agg cs1,agg cs2]) (kinds:=[.seg 192,.seg 192,.seg 192]) (by kernel_rfl) ⟨⟨cs0,rfl,hcs0⟩,⟨⟨cs1,rfl,hcs1⟩,⟨⟨cs2,rfl,hcs2⟩,trivial⟩⟩⟩ (by kernel_rfl) (by kernel_rfl) h
end Go.Proofs.YtlginncipdaifaaGreat

/- What OrdersSides computes. -/
namespace Go.Proofs.YtlginncipdaifaaGreat
open Go.RowKit Num Plain W32
open Sy (Up Sees CallsG Seg)
section
variable {k k' : World} {R : World→Value→Prop} {K L : Nat} {cs cs' ds es c0 c1 c2 : Array Value} {f g h r : Nat→Q4} {p q : Nat→W4}
theorem seg_cat3 {l m n : Nat} (h0 : Seg l c0) (h1 : Seg m c1) (h2 : Seg n c2) : Seg (l+(m+n)) (c0.toList ++ (c1.toList ++ (c2.toList ++ ([])))).toArray:=by
 have:=seg_cat2 h1 h2
 unfold cat2 at this
 have:=seg_cat2 h0 this
 unfold cat2 at this
 rwa [List.append_nil] at this
def reQ (f : Nat→Q4) (i : Nat) : Q4:=(Q4.real (-1)).mul (miQ f i)
theorem rev1_s (hx : RoundV k cs f K) (hK1 : 1≤K) (hK : K≤1000000) (C : ∀ k' ds,Up k k'→RoundV k' ds (reQ f) (K+2)→R k' (.agg ds)) :
 Cl k 100 #[.agg cs] R:=by
 intro k0 u0
 refine oRev1_vc (hx.up u0).seg (mirrored_s (hx.up u0) fun k1 d1 u1 h1=>⟨d1,h1.seg,rfl,?_⟩)
 refine owhole_s (n:=-1) (by decide) (by decide) fun k2 d2 u2 h2=>⟨d2,h2.seg,rfl,?_⟩
 refine oscaled_s (h1.up u2) h2 hK1 (by decide) (by omega) (by decide) fun k3 d3 u3 h3=>⟨d3,h3.seg,rfl,fun k4 u4=>?_⟩
 exact C k4 d3 ((((u0.trans u1).trans u2).trans u3).trans u4) (RoundV.mono (h3.up u4) (by omega))
theorem reversed_s (hx : RoundV k c0 f K) (hy : RoundV k c1 g K) (hz : RoundV k c2 h K) (hK1 : 1≤K) (hK : K≤1000000) (C : ∀ k' a b c,Up k k'→RoundV k' a (miQ f) K→RoundV k' b (reQ h) (K+2)→RoundV k' c (reQ g) (K+2)→R k' (.agg (a.toList ++ (b.toList ++ (c.toList ++ ([])))).toArray)) :
 Cl k 38 #[.agg (c0.toList ++ (c1.toList ++ (c2.toList ++ ([])))).toArray] R:=by
 intro k0 u0
 refine oReversed_vc hx.seg hy.seg hz.seg (mirrored_s (hx.up u0) fun k1 d1 u1 h1=>⟨d1,h1.seg,rfl,?_⟩)
 refine rev1_s ((hz.up u0).up u1) hK1 hK fun k2 d2 u2 h2=>⟨d2,h2.seg,rfl,?_⟩
 refine rev1_s (((hy.up u0).up u1).up u2) hK1 hK fun k3 d3 u3 h3=>⟨d3,h3.seg,rfl,fun k4 u4=>?_⟩
 exact C k4 d1 d2 d3 ((((u0.trans u1).trans u2).trans u3).trans u4) (((h1.up u2).up u3).up u4) ((h2.up u3).up u4) (h3.up u4)
theorem rmean_v (hx : RoundQ k cs f K) (hK : K≤1000000) (C : ∀ k' ds,Up k k'→SQ k' ds (ordW f 0).re (96*K+134)→R k' (.agg ds)) :
 Cl k 97 #[.agg cs] R:=by
 intro k0 u0
 rw [ord_mean] at C
 replace hx:=hx.up u0
 replace C:=fun k' ds u=>C k' ds (u0.trans u)
 refine rmean_vc hx.seg (rzero_v fun k1 d1 u1 h1=>⟨d1,h1.seg,rfl,?_⟩)
 refine ⟨fun m k' vs=>∃ j c,j+m = 24∧vs = [.int .i64 (j : Int),.agg c]∧SQ k' c (sumQ f j) (2+j*(K+1)),⟨24,fun k' u=>⟨0,_,rfl,rfl,(h1.up u).mono (by omega)⟩⟩,?_⟩
 rintro m k2 vs u2 ⟨j,c,hj,rfl,hc⟩
 replace hx:=(hx.up u1).up u2
 refine ⟨_,c,hc.seg,rfl,fun hlt=>?_,fun hge=>?_⟩
 ·have hlt:=lt24 hlt
  have hje:=Nat.mul_le_mul_right (K+1) (Nat.le_of_lt hlt)
  have hjs : (j+1)*(K+1) = j*(K+1)+(K+1):=Nat.succ_mul _ _
  refine ⟨ix24 hlt,sadd_v hc (ArrV.get hx hlt) (by omega) fun k3 d3 u3 h3=>⟨d3,h3.seg,rfl,fun k4 u4=>?_⟩⟩
  exact ⟨m - 1,by omega,j+1,d3,by omega,by rw [wup (by omega)],SQ.mono (h3.up u4) (by omega)⟩
 ·have e : j = 24:=by have:=ge24 hge; omega
  subst e
  refine rfraction_v (n:=1) (d:=24) ⟨by decide,by decide⟩ ⟨by decide,by decide⟩ fun k3 d3 u3 h3=>⟨d3,h3.seg,rfl,?_⟩
  refine smul_v h3 (hc.up u3) (by omega) fun k4 d4 u4 h4=>⟨d4,h4.seg,rfl,fun k5 u5=>?_⟩
  exact C k5 d4 ((((u1.trans u2).trans u3).trans u4).trans u5) (SQ.mono (h4.up u5) (by omega))
theorem rsides_v (h0 : Seg 288 c0) (hx : RoundQ k c1 f K) (hy : RoundQ k c2 g K) (hK : K≤100000) (C : ∀ k' ds es,Up k k'→SQ k' ds (cone f g) (768*K+1200)→SQ k' es (steer f g) (768*K+1200)→R k' (.tuple #[.agg ds,.agg es])) :
 Cl k 37 #[.agg (c0.toList ++ (c1.toList ++ (c2.toList ++ ([])))).toArray] R:=by
 intro k0 u0
 replace hx:=hx.up u0
 replace hy:=hy.up u0
 replace C:=fun k' ds es u=>C k' ds es (u0.trans u)
 refine rSides_vc h0 hx.seg hy.seg (rmean_v hx (by omega) fun k1 d1 u1 h1=>⟨d1,h1.seg,rfl,?_⟩)
 refine rmean_v (hy.up u1) (by omega) fun k2 d2 u2 h2=>⟨d2,h2.seg,rfl,?_⟩
 refine rfraction_v (n:=1) (d:=2) ⟨by decide,by decide⟩ ⟨by decide,by decide⟩ fun k3 d3 u3 h3=>⟨d3,h3.seg,rfl,?_⟩
 refine sadd_v ((h1.up u2).up u3) (h2.up u3) (by omega) fun k4 d4 u4 h4=>⟨d4,h4.seg,rfl,?_⟩
 refine smul_v (h3.up u4) h4 (by omega) fun k5 d5 u5 h5=>⟨d5,h5.seg,rfl,?_⟩
 have u35:=(u3.trans u4).trans u5
 refine ssub_v ((h1.up u2).up u35) (h2.up u35) (by omega) fun k7 d7 u7 h7=>⟨d7,h7.seg,rfl,?_⟩
 refine smul_v (((h3.up u4).up u5).up u7) h7 (by omega) fun k8 d8 u8 h8=>⟨d8,h8.seg,rfl,fun k9 u9=>?_⟩
 exact C k9 d5 d8 ((((u1.trans u2).trans u35).trans u7).trans (u8.trans u9)) (SQ.mono (((h5.up u7).up u8).up u9) (by omega)) (SQ.mono (h8.up u9) (by omega))
theorem rreversed_v (hx : RoundQ k c0 f K) (hy : RoundQ k c1 g K) (hz : RoundQ k c2 h K) (hK : K≤1000000) (C : ∀ k' a b c,Up k k'→RoundQ k' a (miQ f) K→RoundQ k' b (reQ h) (4*(2+K)+22)→RoundQ k' c (reQ g) (4*(2+K)+22)→R k' (.agg (a.toList ++ (b.toList ++ (c.toList ++ ([])))).toArray)) :
 Cl k 39 #[.agg (c0.toList ++ (c1.toList ++ (c2.toList ++ ([])))).toArray] R:=by
 intro k0 u0
 have e : Q4.real (((-1 : Int) : Rat) / ((1 : Int) : Rat)) = Q4.real (-1):=by decide +kernel
 refine rReversed_vc hx.seg hy.seg hz.seg (rfraction_v (n:=-1) (d:=1) ⟨by decide,by decide⟩ ⟨by decide,by decide⟩ fun k1 d1 u1 h1=>⟨d1,h1.seg,rfl,?_⟩)
 rw [e] at h1
 refine rmirrored_v ((hx.up u0).up u1) fun k2 d2 u2 h2=>⟨d2,h2.seg,rfl,?_⟩
 refine rmirrored_v (((hz.up u0).up u1).up u2) fun k3 d3 u3 h3=>⟨d3,h3.seg,rfl,?_⟩
 refine rscaled_v h3 ((h1.up u2).up u3) (by omega) fun k4 d4 u4 h4=>⟨d4,h4.seg,rfl,?_⟩
 have u14:=((u1.trans u2).trans u3).trans u4
 refine rmirrored_v ((hy.up u0).up u14) fun k5 d5 u5 h5=>⟨d5,h5.seg,rfl,?_⟩
 refine rscaled_v h5 (h1.up (((u2.trans u3).trans u4).trans u5)) (by omega) fun k6 d6 u6 h6=>⟨d6,h6.seg,rfl,fun k7 u7=>?_⟩
 exact C k7 d2 d4 d6 ((((u0.trans u14).trans u5).trans u6).trans u7) (h2.up ((((u3.trans u4).trans u5).trans u6).trans u7)) (((h4.up u5).up u6).up u7) (h6.up u7)
theorem re_mean (f : Nat→Q4) : (ordW (reQ f) 0).re = (ordW f 0).re.neg:=by
 have e : ordW (reQ f) 0 = (ofR (Q4.real (-1))).mul ((ordW f 0).conj):=by
  rw [← ord_mi]
  have:=ord_linear (Q4.real (-1)) (miQ f) (fun _=>Q4.zero) 0
  have z : ordW (fun _=>Q4.zero) 0 = W4.zero:=by decide +kernel
  rw [z,W4.add_zero] at this
  rw [← this]
  exact ordW_congr (fun k _=>by rw [Q4.add_zero]; rfl) 0
 rw [e,ofR_mul]
 show (Q4.real (-1)).mul (ordW f 0).re = _
 refine Q4.ext' ?_ ?_ ?_ ?_ <;> (simp only [Q4.mul,Q4.real,Q4.neg]; grind)
theorem re_cone (f g : Nat→Q4) : cone (reQ g) (reQ f) = (cone f g).neg:=by
 unfold cone
 rw [re_mean,re_mean]
 refine Q4.ext' ?_ ?_ ?_ ?_ <;> (simp only [Q4.mul,Q4.real,Q4.neg,Q4.add]; grind)
theorem re_steer (f g : Nat→Q4) : steer (reQ g) (reQ f) = steer f g:=by
 unfold steer
 rw [re_mean,re_mean]
 refine Q4.ext' ?_ ?_ ?_ ?_ <;> (simp only [Q4.mul,Q4.real,Q4.neg,Q4.sub,Q4.add]; grind)
theorem mi_mi (f : Nat→Q4) {i : Nat} (hi : i < 24) : miQ (miQ f) i = f i:=by
 unfold miQ
 congr 1
 omega
theorem re_re (f : Nat→Q4) {i : Nat} (hi : i < 24) : reQ (reQ f) i = f i:=by
 have e : miQ (reQ f) i = (Q4.real (-1)).mul (miQ (miQ f) i):=rfl
 unfold reQ at *
 rw [e,mi_mi f hi]
 refine Q4.ext' ?_ ?_ ?_ ?_ <;> (simp only [Q4.mul,Q4.real]; grind)
theorem osides_s (hx : ArrV 24 8 IsQuad c0 r) (hy : ArrV 24 8 IsQuad c1 f) (hz : ArrV 24 8 IsQuad c2 g) (C : ∀ k',Up k k'→R k' (.bool true)) :
 Cl k 6 #[.agg (c0.toList ++ (c1.toList ++ (c2.toList ++ ([])))).toArray] R:=by
 intro k0 u0
 have sz : Seg 648 ((zArr 24 zS).toList ++ ((zArr 24 zS).toList ++ ((zArr 24 zS).toList ++ ([])))).toArray:=by
  have h:=(RoundV.zero (k:=k) (K:=0)).seg
  exact seg_cat3 h h h
 have st : Seg 864 ((zArr 24 zT).toList ++ ((zArr 24 zT).toList ++ ((zArr 24 zT).toList ++ ([])))).toArray:=by
  have h:=(MixQ.zero (k:=k)).seg
  exact seg_cat3 h h h
 refine osides_vc (ArrV.seg hx fun _ _ h=>h.seg) (ArrV.seg hy fun _ _ h=>h.seg) (ArrV.seg hz fun _ _ h=>h.seg) ⟨_,sz,rfl,_,st,rfl,?_⟩
 refine rounds_s hx fun k1 a0 b0 u1 ha0 hb0=>⟨a0,ha0.seg,b0,hb0.seg,rfl,?_⟩
 refine rounds_s hy fun k2 a1 b1 u2 ha1 hb1=>⟨a1,ha1.seg,b1,hb1.seg,rfl,?_⟩
 refine rounds_s hz fun k3 a2 b2 u3 ha2 hb2=>⟨a2,ha2.seg,b2,hb2.seg,rfl,?_⟩
 replace C:=fun k' u=>C k' ((((u0.trans u1).trans u2).trans u3).trans u)
 replace ha0:=(ha0.up u2).up u3
 replace hb0:=(hb0.up u2).up u3
 replace ha1:=ha1.up u3
 replace hb1:=hb1.up u3
 clear u0 u1 u2 u3
 refine sides_s ha0.seg ha1 ha2 (by decide) (by decide) fun k4 co sp u4 hco hsp=>⟨co,hco.seg,sp,hsp.seg,rfl,?_⟩
 refine rsides_v hb0.seg (hb1.up u4) (hb2.up u4) (by decide) fun k5 do' sq u5 hdo hsq=>⟨do',hdo.seg,sq,hsq.seg,rfl,?_⟩
 have u45:=u4.trans u5
 refine reversed_s (ha0.up u45) (ha1.up u45) (ha2.up u45) (by decide) (by decide) fun k6 r0 r1 r2 u6 hr0 hr1 hr2=>⟨r0,hr0.seg,r1,hr1.seg,r2,hr2.seg,rfl,?_⟩
 refine rreversed_v ((hb0.up u45).up u6) ((hb1.up u45).up u6) ((hb2.up u45).up u6) (by decide) fun k7 s0 s1 s2 u7 hs0 hs1 hs2=>⟨s0,hs0.seg,s1,hs1.seg,s2,hs2.seg,rfl,?_⟩
 have u47:=(u45.trans u6).trans u7
 have u57:=(u5.trans u6).trans u7
 replace hco:=hco.up u57
 replace hsp:=hsp.up u57
 replace hdo:=(hdo.up u6).up u7
 replace hsq:=(hsq.up u6).up u7
 replace hr0:=hr0.up u7
 replace hr1:=hr1.up u7
 replace hr2:=hr2.up u7
 replace ha0:=ha0.up u47
 replace ha1:=ha1.up u47
 replace ha2:=ha2.up u47
 replace C:=fun k' u=>C k' (u47.trans u)
 clear u4 u5 u6 u7 u45 u47 u57 hb0 hb1 hb2
 refine isSurd_s hco (by decide) (by decide) hdo (by decide) fun k8 u8=>⟨_,rfl,fun h=>(nomatch h),fun _=>?_⟩
 refine isSurd_s (hsp.up u8) (by decide) (by decide) (hsq.up u8) (by decide) fun k9 u9=>⟨_,rfl,fun h=>(nomatch h),fun _=>?_⟩
 refine isRound_s ((hr0.up u8).up u9) ((hs0.up u8).up u9) (fun _ _=>rfl) (by decide) (by decide) (by decide) fun k10 u10=>⟨_,rfl,fun h=>(nomatch h),fun _=>?_⟩
 have u810:=(u8.trans u9).trans u10
 refine isRound_s (hr1.up u810) (hs1.up u810) (fun _ _=>rfl) (by decide) (by decide) (by decide) fun k11 u11=>⟨_,rfl,fun h=>(nomatch h),fun _=>?_⟩
 refine isRound_s ((hr2.up u810).up u11) ((hs2.up u810).up u11) (fun _ _=>rfl) (by decide) (by decide) (by decide) fun k12 u12=>⟨_,rfl,fun h=>(nomatch h),fun _=>?_⟩
 have u812:=(u810.trans u11).trans u12
 replace hco:=hco.up u812
 replace hsp:=hsp.up u812
 replace hr0:=hr0.up u812
 replace hr1:=hr1.up u812
 replace hr2:=hr2.up u812
 replace ha0:=ha0.up u812
 replace ha1:=ha1.up u812
 replace ha2:=ha2.up u812
 replace C:=fun k' u=>C k' (u812.trans u)
 clear u8 u9 u10 u11 u12 u810 u812 hdo hsq hs0 hs1 hs2
 refine sides_s hr0.seg hr1 hr2 (by decide) (by decide) fun k13 u v u13 hu hv=>⟨u,hu.seg,v,hv.seg,rfl,?_⟩
 refine reversed_s ((hr0.up u13).mono (by decide)) (hr1.up u13) (hr2.up u13) (by decide) (by decide) fun k14 t0 t1 t2 u14 ht0 ht1 ht2=>⟨t0,ht0.seg,t1,ht1.seg,t2,ht2.seg,rfl,_,sz,rfl,?_⟩
 have u1314:=u13.trans u14
 refine SNeg_s (hco.up u1314) (by decide) fun k15 e15 u15 h15=>⟨e15,h15.seg,rfl,?_⟩
 refine SSame_t (K:=1000) (SurdV.mono ((hu.up u14).up u15) (by decide)) (h15.mono (by decide)) (re_cone f g) (by decide) (by decide) fun k16 u16=>⟨_,rfl,fun h=>(nomatch h),fun _=>?_⟩
 have u1516:=u15.trans u16
 refine SSame_t (K:=1000) (SurdV.mono ((hv.up u14).up u1516) (by decide)) (SurdV.mono ((hsp.up u1314).up u1516) (by decide)) (re_steer f g) (by decide) (by decide) fun k17 u17=>⟨_,rfl,fun h=>(nomatch h),fun _=>?_⟩
 have u1517:=u1516.trans u17
 have u1317:=u1314.trans u1517
 refine sameRound_s (K:=100) (RoundV.mono (ht0.up u1517) (by decide)) (RoundV.mono (ha0.up u1317) (by decide)) (fun i hi=>mi_mi r hi) (by decide) (by decide) fun k18 u18=>⟨_,rfl,fun h=>(nomatch h),fun _=>?_⟩
 refine sameRound_s (K:=100) (RoundV.mono ((ht1.up u1517).up u18) (by decide)) (RoundV.mono ((ha1.up u1317).up u18) (by decide)) (fun i hi=>re_re f hi) (by decide) (by decide) fun k19 u19=>⟨_,rfl,fun h=>(nomatch h),fun _=>?_⟩
 have u1819:=u18.trans u19
 refine sameRound_s (K:=100) (RoundV.mono ((ht2.up u1517).up u1819) (by decide)) (RoundV.mono ((ha2.up u1317).up u1819) (by decide)) (fun i hi=>re_re g hi) (by decide) (by decide) fun k20 u20=>⟨_,rfl,fun h=>(nomatch h),fun _=>?_⟩
 have u1320:=(u1317.trans u1819).trans u20
 refine analyze_s (ha0.up u1320) (by decide) (by decide) fun k21 w21 u21 h21=>⟨w21,h21.seg,rfl,?_⟩
 refine analyze_s ((hr0.up u1320).up u21) (by decide) (by decide) fun k22 w22 u22 h22=>⟨w22,h22.seg,rfl,?_⟩
 replace h21:=h21.up u22
 replace C:=fun k' u=>C k' (((u1320.trans u21).trans u22).trans u)
 refine ⟨fun m k' vs=>∃ j,j+m = 13∧vs = [.int .i64 ((j : Nat) : Int)],⟨13,fun k' u=>⟨0,rfl,rfl⟩⟩,?_⟩
 rintro m k23 vs u23 ⟨j,hj,rfl⟩
 refine ⟨_,rfl,fun hlt=>?_,fun hge=>?_⟩
 ·have hlt:=lt13 hlt
  refine ⟨ix13 hlt,ix13 hlt,WConj_s (ArrV.get (h21.up u23) hlt) (by decide) fun k24 e24 u24 h24=>⟨e24,h24.seg,rfl,?_⟩⟩
  refine WSame_t (ArrV.get ((h22.up u23).up u24) hlt) h24 (ord_mi r j) (by decide) (by decide) fun k25 u25=>⟨_,rfl,fun h=>(nomatch h),fun _ k26 u26=>?_⟩
  exact ⟨m - 1,by omega,j+1,by omega,by rw [wup (by omega)]⟩
 ·exact lawake_s fun k24 u24=>⟨_,rfl,fun k25 u25=>C k25 ((u23.trans u24).trans u25)⟩
end
end Go.Proofs.YtlginncipdaifaaGreat

