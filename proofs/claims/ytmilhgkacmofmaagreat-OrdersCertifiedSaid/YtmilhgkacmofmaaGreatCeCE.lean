/- Several texts in one. (Printed by prep.py.) -/
import Derived.Test.YtmilhgkacmofmaaGreatCeSy14
import Derived.Test.YtmilhgkacmofmaaGreatCeVS
import Derived.Test.YtmilhgkacmofmaaGreatProg
import Derived.Test.YtmilhgkacmofmaaGreatCeTB
import Derived.Test.YtmilhgkacmofmaaGreatCeQ5
import Derived.Test.YtmilhgkacmofmaaGreatCeS4
namespace Go.Proofs.YtmilhgkacmofmaaGreat
open Go.RowKit
open Sy (Seg)
def zS : List Value:=[.bool false,.slice none 0 0,.bool false,.slice none 0 0,.bool false,.slice none 0 0,.bool false,.slice none 0 0,.slice none 0 0]
def zT : List Value:=[.bool false,.slice none 0 0,.slice none 0 0,.bool false,.slice none 0 0,.slice none 0 0,.bool false,.slice none 0 0,.slice none 0 0,.bool false,.slice none 0 0,.slice none 0 0]
def zArr (n : Nat) (z : List Value) : Array Value:=(List.replicate n z).flatten.toArray
def elt (cs : Array Value) (s i : Nat) : Array Value:=(Sy.pickL cs (i*s+0) s).toArray
structure Arr (n s : Nat) (E : Nat→Array Value→Prop) (cs : Array Value) : Prop where
 size : cs.size = n*s
 el : ∀ i,i < n→E i (elt cs s i)
section
variable {n s i : Nat} {E E' : Nat→Array Value→Prop} {cs ys : Array Value}
theorem over_get : ∀ (l : List Value) (cs : Array Value) (o q : Nat),o+l.length≤cs.size→(Sy.over cs o l)[q]? = if o≤q∧q < o+l.length then l[q - o]? else cs[q]?:=by
 intro l cs o q h
 rw [← Array.getElem?_toList,Sy.over_eq l cs o h,← Array.getElem?_toList]
 have hl : cs.toList.length = cs.size:=Array.length_toList
 simp only [List.getElem?_append,List.length_append,List.length_take,List.getElem?_take,List.getElem?_drop,hl]
 have e : min o cs.size = o:=by omega
 rw [e]
 by_cases h1 : q < o
 ·rw [if_pos (by omega),if_pos h1,if_pos h1,if_neg (by omega)]
 ·by_cases h2 : q < o+l.length
  ·rw [if_pos h2,if_neg h1,if_pos ⟨by omega,h2⟩]
  ·rw [if_neg h2,if_neg (by omega)]
   congr 1
   omega
theorem elt_get (cs : Array Value) (s i q : Nat) (hq : q < s) (hs : (i+1)*s≤cs.size) : (elt cs s i)[q]? = cs[i*s+q]?:=by
 have hm : (i+1)*s = i*s+s:=Nat.succ_mul _ _
 unfold elt Sy.pickL
 rw [← Array.getElem?_toList,List.getElem?_map,List.getElem?_range hq,Nat.add_zero]
 simp only [Option.map_some]
 rw [Array.getElem?_eq_getElem (by omega)]
 rfl
theorem elt_size (cs : Array Value) (s i : Nat) : (elt cs s i).size = s:=by simp [elt,Sy.pickL]
theorem elt_ext {a : Array Value} (ha : a.size = s) (h : ∀ q,q < s→(elt cs s i)[q]? = a[q]?) : elt cs s i = a:=by
 apply Array.ext_getElem?
 intro q
 by_cases hq : q < s
 ·exact h q hq
 ·rw [Array.getElem?_eq_none (by rw [elt_size]; omega),Array.getElem?_eq_none (by omega)]
theorem elt_over {j : Nat} (hs : cs.size = n*s) (hi : i < n) (hj : j < n) (hy : ys.size = s) : elt (Sy.over cs (i*s+0) ys.toList) s j = if j = i then ys else elt cs s j:=by
 have h1 : (i+1)*s≤n*s:=Nat.mul_le_mul_right s hi
 have h2 : (j+1)*s≤n*s:=Nat.mul_le_mul_right s hj
 have h3 : (i+1)*s = i*s+s:=Nat.succ_mul _ _
 have h4 : (j+1)*s = j*s+s:=Nat.succ_mul _ _
 have hl : ys.toList.length = s:=by simpa using hy
 by_cases e : j = i
 ·subst e
  rw [if_pos rfl]
  refine elt_ext hy fun q hq=>?_
  rw [elt_get _ _ _ _ hq (by rw [Sy.over_size]; omega),over_get _ _ _ _ (by omega),if_pos ⟨by omega,by omega⟩]
  rw [← Array.getElem?_toList]
  congr 1
  omega
 ·rw [if_neg e]
  refine elt_ext (elt_size _ _ _) fun q hq=>?_
  rw [elt_get _ _ _ _ hq (by rw [Sy.over_size]; omega),over_get _ _ _ _ (by omega),elt_get _ _ _ _ hq (by omega),if_neg]
  rintro ⟨a,b⟩
  rcases Nat.lt_or_gt_of_ne e with e | e
  ·have:=Nat.mul_le_mul_right s e
   have h5 : (j.succ)*s = j*s+s:=Nat.succ_mul _ _
   omega
  ·have:=Nat.mul_le_mul_right s e
   have h5 : (i.succ)*s = i*s+s:=Nat.succ_mul _ _
   omega
theorem Arr.mono (h : Arr n s E cs) (hE : ∀ i a,i < n→E i a→E' i a) : Arr n s E' cs:=⟨h.size,fun i hi=>hE i _ hi (h.el i hi)⟩
theorem Arr.get (h : Arr n s E cs) (hi : i < n) : E i (Sy.pickL cs (Int.toNat (i : Int)*s+0) s).toArray:=h.el i hi
theorem Arr.set (h : Arr n s E cs) (hi : i < n) (hy : ys.size = s) (h1 : E' i ys) (h2 : ∀ j a,j < n→j ≠ i→E j a→E' j a) : Arr n s E' (Sy.over cs (Int.toNat (i : Int)*s+0) ys.toList):=by
 refine ⟨by rw [Sy.over_size]; exact h.size,fun j hj=>?_⟩
 show E' j (elt (Sy.over cs (i*s+0) ys.toList) s j)
 rw [elt_over h.size hi hj hy]
 split
 ·rename_i e; subst e; exact h1
 ·rename_i e; exact h2 j _ hj e (h.el j hj)
theorem Arr.seg (h : Arr n s E cs) (hE : ∀ i a,i < n→E i a→Seg s a) : Seg (n*s) cs:=by
 refine ⟨h.size,fun u hu=>?_⟩
 obtain ⟨p,hp,rfl⟩:=List.getElem_of_mem hu
 have hp' : p < n*s:=by rw [← h.size]; simpa using hp
 have hs : 0 < s:=Nat.pos_of_ne_zero fun e=>by subst e; omega
 have hi : p / s < n:=(Nat.div_lt_iff_lt_mul hs).2 hp'
 have hsg:=hE _ _ hi (h.el _ hi)
 have hq:=Nat.mod_lt p hs
 have hd:=Nat.div_add_mod p s
 have e : (elt cs s (p / s))[p % s]? = cs[p]?:=by
  have h1 : (p / s+1)*s≤n*s:=Nat.mul_le_mul_right s hi
  rw [elt_get _ _ _ _ hq (by rw [h.size]; exact h1)]
  congr 1
  rw [Nat.mul_comm]; exact hd
 have hc : cs[p]? = some cs.toList[p]:=by rw [← Array.getElem?_toList]; exact List.getElem?_eq_getElem hp
 refine hsg.2 _ ?_
 rw [hc,← Array.getElem?_toList] at e
 exact List.mem_of_getElem? e
theorem Arr.rep {a : Array Value} (n : Nat) (ha : a.size = s) (h : ∀ i,i < n→E i a) : Arr n s E (List.replicate n a.toList).flatten.toArray:=by
 have hl : ∀ m,(List.replicate m a.toList).flatten.length = m*s:=fun m=>by
  induction m with
  | zero=>simp
  | succ m ih=>rw [List.replicate_succ,List.flatten_cons,List.length_append,ih,Array.length_toList,ha,Nat.succ_mul,Nat.add_comm]
 have hg : ∀ m i q,i < m→q < s→(List.replicate m a.toList).flatten[i*s+q]? = a[q]?:=by
  intro m
  induction m with
  | zero=>intro i q hi; omega
  | succ m ih =>
   intro i q hi hq
   rw [List.replicate_succ,List.flatten_cons,List.getElem?_append,Array.length_toList,ha]
   cases i with
   | zero=>rw [if_pos (by omega),Nat.zero_mul,Nat.zero_add,Array.getElem?_toList]
   | succ i =>
    have h3 : (i+1)*s = i*s+s:=Nat.succ_mul _ _
    rw [if_neg (by omega)]
    have:=ih i q (by omega) hq
    rw [← this]
    congr 1
    omega
 refine ⟨by simpa using hl n,fun i hi=>?_⟩
 have e : elt (List.replicate n a.toList).flatten.toArray s i = a:=by
  refine elt_ext ha fun q hq=>?_
  have h1 : (i+1)*s≤n*s:=Nat.mul_le_mul_right s hi
  rw [elt_get _ _ _ _ hq (by simpa [hl] using h1)]
  have:=hg n i q hi hq
  rw [← Array.getElem?_toList]
  exact this
 rw [e]; exact h i hi
end
def ArrV {α : Type} (n s : Nat) (P : Array Value→α→Prop) (cs : Array Value) (f : Nat→α) : Prop:=Arr n s (fun i a=>P a (f i)) cs
def cut {α : Type} (j : Nat) (F G : Nat→α) (i : Nat) : α:=if i < j then F i else G i
section
variable {α : Type} {n s i j : Nat} {P Q : Array Value→α→Prop} {cs ys : Array Value} {f g F G : Nat→α}
theorem ArrV.get (h : ArrV n s P cs f) (hi : i < n) : P (Sy.pickL cs (Int.toNat (i : Int)*s+0) s).toArray (f i):=Arr.get h hi
theorem ArrV.mono (h : ArrV n s P cs f) (hP : ∀ a v,P a v→Q a v) : ArrV n s Q cs f:=Arr.mono h fun _ _ _=>hP _ _
theorem ArrV.congr (h : ArrV n s P cs f) (e : ∀ i,i < n→f i = g i) : ArrV n s P cs g:=Arr.mono h fun i _ hi h=>by rw [← e i hi]; exact h
theorem ArrV.seg (h : ArrV n s P cs f) (hP : ∀ a v,P a v→Seg s a) : Seg (n*s) cs:=Arr.seg h fun _ _ _=>hP _ _
theorem ArrV.set (h : ArrV n s P cs f) (hi : i < n) (hs : ys.size = s) (hy : P ys (g i)) (e : ∀ j,j < n→j ≠ i→f j = g j) : ArrV n s P (Sy.over cs (Int.toNat (i : Int)*s+0) ys.toList) g :=
 Arr.set h hi hs hy fun j _ hj hne h=>by rw [← e j hj hne]; exact h
theorem ArrV.step (h : ArrV n s P cs (cut j F G)) (hj : j < n) (hs : ys.size = s) (hy : P ys (F j)) : ArrV n s P (Sy.over cs (Int.toNat (j : Int)*s+0) ys.toList) (cut (j+1) F G) :=
 ArrV.set h hj hs (by unfold cut; rw [if_pos (Nat.lt_succ_self j)]; exact hy) fun i _ hne=>by
  unfold cut
  by_cases c : i < j
  ·rw [if_pos c,if_pos (by omega)]
  ·rw [if_neg c,if_neg (by omega)]
theorem ArrV.start (h : ArrV n s P cs G) : ArrV n s P cs (cut 0 F G):=h.congr fun _ _=>(if_neg (Nat.not_lt_zero _)).symm
theorem ArrV.done (h : ArrV n s P cs (cut j F G)) (hj : n≤j) : ArrV n s P cs F:=h.congr fun _ hi=>if_pos (by omega)
theorem ArrV.at (h : ArrV n s P cs (cut j F G)) (hj : j < n) : P (Sy.pickL cs (Int.toNat (j : Int)*s+0) s).toArray (G j):=by
 have:=h.get hj
 unfold cut at this
 rwa [if_neg (Nat.lt_irrefl j)] at this
theorem ArrV.zero {z : List Value} (hz : z.length = s) (v : α) (h : P z.toArray v) : ArrV n s P (zArr n z) fun _=>v:=Arr.rep (a:=z.toArray) n (by simpa using hz) fun _ _=>h
def optP (s : Nat) (P : Array Value→α→Prop) (a : Array Value) : Option α→Prop
 | none=>Seg s a
 | some v=>P a v
theorem optP.seg {a : Array Value} {v : Option α} (hP : ∀ v,P a v→Seg s a) (h : optP s P a v) : Seg s a:=by
 cases v with
 | none=>exact h
 | some v=>exact hP v h
end
theorem ix24 {j : Nat} (h : j < 24) : decide ((0 : Int)≤(j : Int)∧(j : Int) < 24) = true:=decide_eq_true ⟨by omega,by omega⟩
theorem ix13 {j : Nat} (h : j < 13) : decide ((0 : Int)≤(j : Int)∧(j : Int) < 13) = true:=decide_eq_true ⟨by omega,by omega⟩
theorem lt24 {j : Nat} (h : decide ((j : Int) < 24) = true) : j < 24:=by have:=of_decide_eq_true h; omega
theorem ge24 {j : Nat} (h : decide ((j : Int) < 24) = false) : 24≤j:=by have:=of_decide_eq_false h; omega
theorem lt13 {j : Nat} (h : decide ((j : Int) < 13) = true) : j < 13:=by have:=of_decide_eq_true h; omega
theorem ge13 {j : Nat} (h : decide ((j : Int) < 13) = false) : 13≤j:=by have:=of_decide_eq_false h; omega
theorem wup {j : Nat} (h : j < 100) : IntKind.wrap .i64 ((j : Int)+1) = ((j+1 : Nat) : Int):=by rw [IntKind.wrap_i64]; omega
end Go.Proofs.YtmilhgkacmofmaaGreat

namespace Go.Proofs.YtmilhgkacmofmaaGreat
open Go.RowKit
open Value (agg slice int bool tuple)
open Sy (Up Sees CallsG Seg execFn_use)
set_option maxRecDepth 100000
variable {k : World} {R : World→Value→Prop}
theorem otimes_vc {cs0 cs1 : Array Value} (hcs0 : Seg 9 cs0) (hcs1 : Seg 18 cs1)
 (h : Cl k 50 #[agg cs1] fun k1 r0=>Gt 9 r0 fun cs2 =>
 Cl k1 86 #[agg cs0,agg cs2] fun k3 r2=>Gt 9 r2 fun cs3 =>
 Cl k3 100 #[agg cs1] fun k5 r4=>Gt 9 r4 fun cs4 =>
 Cl k5 86 #[agg cs0,agg cs4] fun k7 r6=>Gt 9 r6 fun cs5 =>
 Cl k7 16 #[agg cs3,agg cs5] fun k9 r8=>Gt 18 r8 fun cs6 =>
 ∀ k10,Up k9 k10→R k10 (agg cs6)) :
  CallsG Tryz.prog 53 #[agg cs0,agg cs1] k R :=
  execFn_use (cfg:={ opq:=[35,48] }) (args:=[.agg [.seg 0 9],.agg [.seg 1 18]]) (vals:=[agg cs0,agg cs1]) (kinds:=[.seg 9,.seg 18]) (by kernel_rfl) ⟨⟨cs0,rfl,hcs0⟩,⟨⟨cs1,rfl,hcs1⟩,trivial⟩⟩ (by kernel_rfl) (by kernel_rfl) h
theorem opart_vc {n0 : Int}
 (h : Cl k 35 #[int .i64 1,int .i64 n0] fun k1 r0=>∃ cs1,Seg 3 cs1∧∃ n2,some (tuple #[agg cs1,int .i64 n2]) = some r0 ∧
 Cl k1 26 #[agg #[bool false,slice none 0 0,bool false,slice none 0 0,bool false,slice none 0 0,bool false,slice none 0 0,slice none 0 0],agg cs1] fun k3 r2=>Gt 9 r2 fun cs3 =>
 ∀ k4,Up k3 k4→R k4 (agg cs3)) :
  CallsG Tryz.prog 54 #[int .i64 n0] k R :=
  execFn_use (cfg:={ opq:=[35,63] }) (args:=[.one (.var 0)]) (vals:=[int .i64 n0]) (kinds:=[.int .i64]) (by kernel_rfl) ⟨⟨_,rfl⟩,trivial⟩ (by kernel_rfl) (by kernel_rfl) h
theorem owhole_vc {n0 : Int}
 (h : Cl k 34 #[int .i64 n0] fun k1 r0=>Gt 3 r0 fun cs1 =>
 Cl k1 26 #[agg #[bool false,slice none 0 0,bool false,slice none 0 0,bool false,slice none 0 0,bool false,slice none 0 0,slice none 0 0],agg cs1] fun k3 r2=>Gt 9 r2 fun cs2 =>
 ∀ k4,Up k3 k4→R k4 (agg cs2)) :
  CallsG Tryz.prog 31 #[int .i64 n0] k R :=
  execFn_use (cfg:={ opq:=[35,63] }) (args:=[.one (.var 0)]) (vals:=[int .i64 n0]) (kinds:=[.int .i64]) (by kernel_rfl) ⟨⟨_,rfl⟩,trivial⟩ (by kernel_rfl) (by kernel_rfl) h
theorem oorder_vc {cs0 : Array Value} {n1 : Int} (hcs0 : Seg 216 cs0)
 (h : ∃ I0 : Nat→World→List Value→Prop,(∃ m0,∀ k0,Up k k0→I0 m0 k0 [int .i64 0,agg #[bool false,slice none 0 0,bool false,slice none 0 0,bool false,slice none 0 0,bool false,slice none 0 0,slice none 0 0,bool false,slice none 0 0,bool false,slice none 0 0,bool false,slice none 0 0,bool false,slice none 0 0,slice none 0 0]]) ∧
 ∀ m0 k0 vs0,Up k k0→I0 m0 k0 vs0→∃ n2,∃ cs3,Seg 18 cs3∧some [int .i64 n2,agg cs3] = some vs0 ∧
 ((decide ((n2 : Int) < 24)) = true →
 ((decide ((0 : Int)≤n2∧(n2 : Int) < 24)) = true ∧
 (Cl k0 30 #[int .i64 (IntKind.wrap .i64 ((IntKind.wrap .i64 (0 - n1))*n2))] fun k2 r1=>Gt 18 r1 fun cs4 =>
 Cl k2 53 #[agg (Sy.pickL cs0 (Int.toNat n2*9+0) 9).toArray,agg cs4] fun k4 r3=>Gt 18 r3 fun cs5 =>
 Cl k4 52 #[agg cs3,agg cs5] fun k6 r5=>Gt 18 r5 fun cs6 =>
 ∀ k7,Up k6 k7→∃ m,m < m0∧I0 m k7 [int .i64 (IntKind.wrap .i64 (n2+1)),agg cs6]))) ∧
 ((decide ((n2 : Int) < 24)) = false →
 (Cl k0 54 #[int .i64 24] fun k9 r8=>Gt 9 r8 fun cs4 =>
 Cl k9 53 #[agg cs4,agg cs3] fun k11 r10=>Gt 18 r10 fun cs5 =>
 ∀ k12,Up k11 k12→R k12 (agg cs5)))) :
  CallsG Tryz.prog 17 #[agg cs0,int .i64 n1] k R :=
  execFn_use (cfg:={ opq:=[37,35,48],loops:=[(0,[.tmp 9 false [.int .i64],.blk 2 [.seg 18]])] }) (args:=[.agg [.seg 0 216],.one (.var 1)]) (vals:=[agg cs0,int .i64 n1]) (kinds:=[.seg 216,.int .i64]) (by kernel_rfl) ⟨⟨cs0,rfl,hcs0⟩,⟨⟨_,rfl⟩,trivial⟩⟩ (by kernel_rfl) (by kernel_rfl) h
theorem oAnalyze_vc {cs0 : Array Value} (hcs0 : Seg 216 cs0)
 (h : ∃ I0 : Nat→World→List Value→Prop,(∃ m0,∀ k0,Up k k0→I0 m0 k0 [int .i64 0,agg (zArr 13 (zS ++ zS))]) ∧
 ∀ m0 k0 vs0,Up k k0→I0 m0 k0 vs0→∃ n1,∃ cs2,Seg 234 cs2∧some [int .i64 n1,agg cs2] = some vs0 ∧
 ((decide ((n1 : Int) < 13)) = true →
 (Cl k0 17 #[agg cs0,int .i64 n1] fun k2 r1=>Gt 18 r1 fun cs3 =>
 (decide ((0 : Int)≤n1∧(n1 : Int) < 13)) = true ∧
 (∀ k3,Up k2 k3→∃ m,m < m0∧I0 m k3 [int .i64 (IntKind.wrap .i64 (n1+1)),agg (Sy.over cs2 (Int.toNat n1*18+0) cs3.toList)]))) ∧
 ((decide ((n1 : Int) < 13)) = false →
 (∀ k4,Up k0 k4→R k4 (agg cs2)))) :
   CallsG Tryz.prog 7 #[agg cs0] k R :=
  execFn_use (cfg:={ opq:=[37,58,35,48],loops:=[(0,[.tmp 5 false [.int .i64],.blk 2 [.seg 234]])] }) (args:=[.agg [.seg 0 216]]) (vals:=[agg cs0]) (kinds:=[.seg 216]) (by kernel_rfl) ⟨⟨cs0,rfl,hcs0⟩,trivial⟩ (by kernel_rfl) (by kernel_rfl) h
theorem oweight_vc {n0 : Int}
 (h : (((n0 : Int) == 0) = true →
 (Cl k 31 #[int .i64 1] fun k1 r0=>Gt 9 r0 fun cs1 =>
 ∀ k2,Up k1 k2→R k2 (agg cs1))) ∧
 (((n0 : Int) == 0) = false →
 ((((n0 : Int) == 12) = true →
 (Cl k 31 #[int .i64 1] fun k4 r3=>Gt 9 r3 fun cs1 =>
 ∀ k5,Up k4 k5→R k5 (agg cs1))) ∧
 (((n0 : Int) == 12) = false →
 (Cl k 31 #[int .i64 2] fun k7 r6=>Gt 9 r6 fun cs1 =>
 ∀ k8,Up k7 k8→R k8 (agg cs1)))))) :
  CallsG Tryz.prog 88 #[int .i64 n0] k R :=
  execFn_use (cfg:={ opq:=[35] }) (args:=[.one (.var 0)]) (vals:=[int .i64 n0]) (kinds:=[.int .i64]) (by kernel_rfl) ⟨⟨_,rfl⟩,trivial⟩ (by kernel_rfl) (by kernel_rfl) h
theorem oEnergy_vc {cs0 : Array Value} (hcs0 : Seg 234 cs0)
 (h : ∃ I0 : Nat→World→List Value→Prop,(∃ m0,∀ k0,Up k k0→I0 m0 k0 [int .i64 0,agg #[bool false,slice none 0 0,bool false,slice none 0 0,bool false,slice none 0 0,bool false,slice none 0 0,slice none 0 0]]) ∧
 ∀ m0 k0 vs0,Up k k0→I0 m0 k0 vs0→∃ n1,∃ cs2,Seg 9 cs2∧some [int .i64 n1,agg cs2] = some vs0 ∧
 ((decide ((n1 : Int) < 13)) = true →
 ((decide ((0 : Int)≤n1∧(n1 : Int) < 13)) = true ∧
 (Cl k0 88 #[int .i64 n1] fun k2 r1=>Gt 9 r1 fun cs3 =>
 Cl k2 89 #[agg (Sy.pickL cs0 (Int.toNat n1*18+0) 18).toArray] fun k4 r3=>Gt 9 r3 fun cs4 =>
 Cl k4 86 #[agg cs3,agg cs4] fun k6 r5=>Gt 9 r5 fun cs5 =>
 Cl k6 87 #[agg cs2,agg cs5] fun k8 r7=>Gt 9 r7 fun cs6 =>
 ∀ k9,Up k8 k9→∃ m,m < m0∧I0 m k9 [int .i64 (IntKind.wrap .i64 (n1+1)),agg cs6]))) ∧
 ((decide ((n1 : Int) < 13)) = false →
 (∀ k10,Up k0 k10→R k10 (agg cs2)))) :
   CallsG Tryz.prog 48 #[agg cs0] k R :=
  execFn_use (cfg:={ opq:=[58,35,48],loops:=[(0,[.tmp 7 false [.int .i64],.blk 2 [.seg 9]])] }) (args:=[.agg [.seg 0 234]]) (vals:=[agg cs0]) (kinds:=[.seg 234]) (by kernel_rfl) ⟨⟨cs0,rfl,hcs0⟩,trivial⟩ (by kernel_rfl) (by kernel_rfl) h
theorem omean_vc {cs0 : Array Value} (hcs0 : Seg 216 cs0)
 (h : Cl k 17 #[agg cs0,int .i64 0] fun k1 r0=>Gt 18 r0 fun cs1 =>
 Cl k1 50 #[agg cs1] fun k3 r2=>Gt 9 r2 fun cs2 =>
 ∀ k4,Up k3 k4→R k4 (agg cs2)) :
  CallsG Tryz.prog 85 #[agg cs0] k R :=
  execFn_use (cfg:={ opq:=[37,35,48] }) (args:=[.agg [.seg 0 216]]) (vals:=[agg cs0]) (kinds:=[.seg 216]) (by kernel_rfl) ⟨⟨cs0,rfl,hcs0⟩,trivial⟩ (by kernel_rfl) (by kernel_rfl) h
theorem oSides_vc {cs0 cs1 cs2 : Array Value} (hcs0 : Seg 216 cs0) (hcs1 : Seg 216 cs1) (hcs2 : Seg 216 cs2)
 (h : Cl k 85 #[agg cs1] fun k1 r0=>Gt 9 r0 fun cs3 =>
 Cl k1 85 #[agg cs2] fun k3 r2=>Gt 9 r2 fun cs4 =>
 Cl k3 54 #[int .i64 2] fun k5 r4=>Gt 9 r4 fun cs5 =>
 Cl k5 87 #[agg cs3,agg cs4] fun k7 r6=>Gt 9 r6 fun cs6 =>
 Cl k7 86 #[agg cs5,agg cs6] fun k9 r8=>Gt 9 r8 fun cs7 =>
 Cl k9 54 #[int .i64 2] fun k11 r10=>Gt 9 r10 fun cs8 =>
 Cl k11 67 #[agg cs3,agg cs4] fun k13 r12=>Gt 9 r12 fun cs9 =>
 Cl k13 86 #[agg cs8,agg cs9] fun k15 r14=>Gt 9 r14 fun cs10 =>
 ∀ k16,Up k15 k16→R k16 (tuple #[agg cs7,agg cs10])) :
  CallsG Tryz.prog 47 #[agg (cs0.toList ++ (cs1.toList ++ (cs2.toList ++ ([])))).toArray] k R :=
  execFn_use (cfg:={ opq:=[37,35] }) (args:=[.agg [.seg 0 216,.seg 1 216,.seg 2 216]]) (vals:=[agg cs0,agg cs1,agg cs2]) (kinds:=[.seg 216,.seg 216,.seg 216]) (by kernel_rfl) ⟨⟨cs0,rfl,hcs0⟩,⟨⟨cs1,rfl,hcs1⟩,⟨⟨cs2,rfl,hcs2⟩,trivial⟩⟩⟩ (by kernel_rfl) (by kernel_rfl) h
theorem rtimes_vc {cs0 cs1 cs2 : Array Value} (hcs0 : Seg 12 cs0) (hcs1 : Seg 12 cs1) (hcs2 : Seg 12 cs2)
 (h : Cl k 57 #[agg cs0,agg cs1] fun k1 r0=>Gt 12 r0 fun cs3 =>
 Cl k1 57 #[agg cs0,agg cs2] fun k3 r2=>Gt 12 r2 fun cs4 =>
 ∀ k4,Up k3 k4→R k4 (agg (cs3.toList ++ (cs4.toList ++ ([]))).toArray)) :
  CallsG Tryz.prog 20 #[agg cs0,agg (cs1.toList ++ (cs2.toList ++ ([]))).toArray] k R :=
  execFn_use (cfg:={ opq:=[42] }) (args:=[.agg [.seg 0 12],.agg [.seg 1 12,.seg 2 12]]) (vals:=[agg cs0,agg cs1,agg cs2]) (kinds:=[.seg 12,.seg 12,.seg 12]) (by kernel_rfl) ⟨⟨cs0,rfl,hcs0⟩,⟨⟨cs1,rfl,hcs1⟩,⟨⟨cs2,rfl,hcs2⟩,trivial⟩⟩⟩ (by kernel_rfl) (by kernel_rfl) h
theorem rfraction_vc {n0 n1 : Int}
 (h : Cl k 46 #[int .i64 n0,int .i64 n1] fun k1 r0=>∃ cs2,Seg 3 cs2∧∃ n3,some (tuple #[agg cs2,int .i64 n3]) = some r0 ∧
 Cl k1 44 #[agg cs2] fun k3 r2=>Gt 12 r2 fun cs4 =>
 ∀ k4,Up k3 k4→R k4 (agg cs4)) :
  CallsG Tryz.prog 22 #[int .i64 n0,int .i64 n1] k R :=
  execFn_use (cfg:={ opq:=[42,40] }) (args:=[.one (.var 0),.one (.var 1)]) (vals:=[int .i64 n0,int .i64 n1]) (kinds:=[.int .i64,.int .i64]) (by kernel_rfl) ⟨⟨_,rfl⟩,⟨⟨_,rfl⟩,trivial⟩⟩ (by kernel_rfl) (by kernel_rfl) h
theorem lRounds_vc {cs0 : Array Value} (hcs0 : Seg 192 cs0)
 (h : ∃ I0 : Nat→World→List Value→Prop,(∃ m0,∀ k0,Up k k0→I0 m0 k0 [int .i64 0,agg (zArr 24 zS),agg (zArr 24 zT)]) ∧
 ∀ m0 k0 vs0,Up k k0→I0 m0 k0 vs0→∃ n1,∃ cs2,Seg 216 cs2∧∃ cs3,Seg 288 cs3∧some [int .i64 n1,agg cs2,agg cs3] = some vs0 ∧
 ((decide ((n1 : Int) < 24)) = true →
 ((decide ((0 : Int)≤n1∧(n1 : Int) < 24)) = true ∧
 (Cl k0 14 #[agg (Sy.pickL cs0 (Int.toNat n1*8+0) 8).toArray] fun k2 r1=>Gt 9 r1 fun cs4 =>
 (decide ((0 : Int)≤n1∧(n1 : Int) < 24)) = true ∧
 (Cl k2 15 #[agg (Sy.pickL cs0 (Int.toNat n1*8+0) 8).toArray] fun k4 r3=>Gt 12 r3 fun cs5 =>
 (decide ((0 : Int)≤n1∧(n1 : Int) < 24)) = true ∧
 (∀ k5,Up k4 k5→∃ m,m < m0∧I0 m k5 [int .i64 (IntKind.wrap .i64 (n1+1)),agg (Sy.over cs2 (Int.toNat n1*9+0) cs4.toList),agg (Sy.over cs3 (Int.toNat n1*12+0) cs5.toList)]))))) ∧
 ((decide ((n1 : Int) < 24)) = false →
 (∀ k6,Up k0 k6→R k6 (tuple #[agg cs2,agg cs3])))) :
   CallsG Tryz.prog 4 #[agg cs0] k R :=
  execFn_use (cfg:={ opq:=[27,37,44,35,42],loops:=[(0,[.tmp 9 false [.int .i64],.blk 3 [.seg 216],.blk 4 [.seg 288]])] }) (args:=[.agg [.seg 0 192]]) (vals:=[agg cs0]) (kinds:=[.seg 192]) (by kernel_rfl) ⟨⟨cs0,rfl,hcs0⟩,trivial⟩ (by kernel_rfl) (by kernel_rfl) h
theorem lawake_vc
 (h : Cl k 34 #[int .i64 1] fun k1 r0=>Gt 3 r0 fun cs0 =>
 Cl k1 26 #[agg #[bool false,slice none 0 0,bool false,slice none 0 0,bool false,slice none 0 0,bool false,slice none 0 0,slice none 0 0],agg cs0] fun k3 r2=>Gt 9 r2 fun cs1 =>
 Cl k3 7 #[agg (cs1.toList ++ (List.replicate 23 zS).flatten).toArray] fun k5 r4=>Gt 234 r4 fun cs2 =>
 ∃ I6 : Nat→World→List Value→Prop,(∃ m6,∀ k6,Up k5 k6→I6 m6 k6 [int .i64 0,agg ((zArr 24 zS).toList ++ ((zArr 24 zS).toList ++ ((zArr 24 zS).toList ++ ([])))).toArray]) ∧
 ∀ m6 k6 vs6,Up k5 k6→I6 m6 k6 vs6→∃ n3,∃ cs4,Seg 216 cs4∧∃ cs5,Seg 216 cs5∧∃ cs6,Seg 216 cs6∧some [int .i64 n3,agg (cs4.toList ++ (cs5.toList ++ (cs6.toList ++ ([])))).toArray] = some vs6 ∧
 ((decide ((n3 : Int) < 24)) = true →
 ((decide ((0 : Int)≤n3∧(n3 : Int) < 24)) = true ∧
 ((decide ((0 : Int)≤n3∧(n3 : Int) < 24)) = true ∧
 (Cl k6 34 #[int .i64 30] fun k8 r7=>Gt 3 r7 fun cs7 =>
 Cl k8 26 #[agg (Sy.pickL cs5 (Int.toNat n3*9+0) 9).toArray,agg cs7] fun k10 r9=>Gt 9 r9 fun cs8 =>
 (decide ((0 : Int)≤n3∧(n3 : Int) < 24)) = true ∧
 (Cl k10 34 #[int .i64 (-10)] fun k12 r11=>Gt 3 r11 fun cs9 =>
 Cl k12 26 #[agg (Sy.pickL cs6 (Int.toNat n3*9+0) 9).toArray,agg cs9] fun k14 r13=>Gt 9 r13 fun cs10 =>
 (decide ((0 : Int)≤n3∧(n3 : Int) < 24)) = true ∧
 (∀ k15,Up k14 k15→∃ m,m < m6∧I6 m k15 [int .i64 (IntKind.wrap .i64 (n3+1)),agg (cs4.toList ++ ((Sy.over cs5 (Int.toNat n3*9+0) cs8.toList).toList ++ ((Sy.over cs6 (Int.toNat n3*9+0) cs10.toList).toList ++ ([])))).toArray])))))) ∧
 ((decide ((n3 : Int) < 24)) = false →
 (Cl k6 47 #[agg (cs4.toList ++ (cs5.toList ++ (cs6.toList ++ ([])))).toArray] fun k17 r16=>∃ cs7,Seg 9 cs7∧∃ cs8,Seg 9 cs8∧some (tuple #[agg cs7,agg cs8]) = some r16 ∧
 Cl k17 48 #[agg cs2] fun k19 r18=>Gt 9 r18 fun cs9 =>
 Cl k19 49 #[agg cs9] fun k21 r20=>∃ s10,some (Value.string s10) = some r20 ∧
 ((ByteArray.toList s10 == ByteArray.toList ⟨#[49,47,50,52]⟩) = true →
 (Cl k21 50 #[agg (Sy.pickL cs2 (Int.toNat 0*0+90) 18).toArray] fun k23 r22=>Gt 9 r22 fun cs11 =>
 Cl k23 49 #[agg cs11] fun k25 r24=>∃ s12,some (Value.string s12) = some r24 ∧
 ((ByteArray.toList s12 == ByteArray.toList ⟨#[49,47,50,52]⟩) = true →
 (Cl k25 49 #[agg cs7] fun k27 r26=>∃ s13,some (Value.string s13) = some r26 ∧
 ((ByteArray.toList s13 == ByteArray.toList ⟨#[49,48]⟩) = true →
 (Cl k27 49 #[agg cs8] fun k29 r28=>∃ s14,some (Value.string s14) = some r28 ∧
 ∀ k30,Up k29 k30→R k30 (bool (ByteArray.toList s14 == ByteArray.toList ⟨#[50,48]⟩)))) ∧
 ((ByteArray.toList s13 == ByteArray.toList ⟨#[49,48]⟩) = false →
 (∀ k31,Up k27 k31→R k31 (bool false))))) ∧
 ((ByteArray.toList s12 == ByteArray.toList ⟨#[49,47,50,52]⟩) = false →
 (∀ k32,Up k25 k32→R k32 (bool false))))) ∧
 ((ByteArray.toList s10 == ByteArray.toList ⟨#[49,47,50,52]⟩) = false →
 (∀ k33,Up k21 k33→R k33 (bool false)))))) :
   CallsG Tryz.prog 13 #[] k R :=
  execFn_use (cfg:={ opq:=[37,58,35,48,63],loops:=[(0,[.tmp 14 false [.int .i64],.blk 2 [.seg 216,.seg 216,.seg 216]])] }) (args:=[]) (vals:=[]) (kinds:=[]) (by kernel_rfl) trivial (by kernel_rfl) (by kernel_rfl) h
end Go.Proofs.YtmilhgkacmofmaaGreat

namespace Go.Proofs.YtmilhgkacmofmaaGreat
open Go.RowKit Num
open Sy (Up Sees CallsG Seg)
def Bel (v : Q4) (b : Nat) : Prop:=∃ (y0 y1 y2 y3 : Int) (m : Nat),0 < m∧v = mkQ y0 y1 y2 y3 m∧y0.natAbs < b∧y1.natAbs < b∧y2.natAbs < b∧y3.natAbs < b∧m < b
section
variable {k k' : World} {cs cs' : Array Value} {R : World→Value→Prop} {v v' : Q4} {x y : W4} {K L M b c : Nat}
theorem Bel.mono (h : Bel v b) (hb : b≤c) : Bel v c:=by
 obtain ⟨y0,y1,y2,y3,m,hm,e,h0,h1,h2,h3,h4⟩:=h
 exact ⟨y0,y1,y2,y3,m,hm,e,by omega,by omega,by omega,by omega,by omega⟩
theorem IntV.lt {z : Int} (h : IntV k cs z K) : z.natAbs < B64 ^ K:=by
 obtain ⟨s,A,n,c,e,h1,h2⟩:=h
 refine Nat.lt_of_lt_of_le (nw_lt _) (Nat.pow_le_pow_right B64_pos ?_)
 rw [← h1.lim.len]; exact h2
theorem SurdV.bel (h : SurdV k cs v K) (hK : 1≤K) : Bel v (B64 ^ K):=by
 obtain ⟨c0,c1,c2,c3,D,d,e,y0,y1,y2,y3,m,h1,hm,hg,hv,i0,i1,i2,i3,l,hd⟩:=h
 refine ⟨y0,y1,y2,y3,m,hm,hv,i0.lt,i1.lt,i2.lt,i3.lt,?_⟩
 by_cases e : m = 1
 ·subst e
  exact Nat.lt_of_lt_of_le (show 1 < B64 ^ 1 by decide) (Nat.pow_le_pow_right B64_pos hK)
 ·rw [if_neg e] at l
  refine Nat.lt_of_lt_of_le (nw_lt _) (Nat.pow_le_pow_right B64_pos ?_)
  rw [← l.len]; exact hd
theorem IntV.cutW {z : Int} (h : IntV k cs z K) (hz : z.natAbs < B64 ^ L) : IntV k cs z L:=by
 obtain ⟨b,A,n,c,e,h1,h2⟩:=h
 refine ⟨b,A,n,c,e,h1,?_⟩
 rw [h1.lim.len]
 exact nw_le_of hz
theorem mkRat_cross {x y : Int} {m n : Nat} (hm : 0 < m) (hn : 0 < n) (h : mkRat x m = mkRat y n) : x*n = y*m:=(Rat.mkRat_eq_iff (by omega) (by omega)).1 h
theorem SurdV.cutB (h : SurdV k cs v K) (hb : Bel v (B64 ^ L)) : SurdV k cs v L:=by
 obtain ⟨c0,c1,c2,c3,D,d,e,y0,y1,y2,y3,m,h1,hm,hg,rfl,i0,i1,i2,i3,l,hd⟩:=h
 obtain ⟨z0,z1,z2,z3,n,hn,e,b0,b1,b2,b3,b4⟩:=hb
 have e0:=mkRat_cross hm hn (congrArg Q4.a e)
 have e1:=mkRat_cross hm hn (congrArg Q4.b e)
 have e2:=mkRat_cross hm hn (congrArg Q4.c e)
 have e3:=mkRat_cross hm hn (congrArg Q4.d e)
 have dv : ∀ {y z : Int},y*n = z*m→m ∣ n*y.natAbs:=by
  intro y z h
  have:=congrArg Int.natAbs h
  rw [Int.natAbs_mul,Int.natAbs_mul,Int.natAbs_natCast,Int.natAbs_natCast] at this
  exact ⟨z.natAbs,by rw [Nat.mul_comm,this,Nat.mul_comm]⟩
 have hmn : m ∣ n:=by
  have dm : m ∣ n*m:=Nat.dvd_mul_left m n
  have:=Nat.dvd_gcd (Nat.dvd_gcd (Nat.dvd_gcd (Nat.dvd_gcd dm (dv e0)) (dv e1)) (dv e2)) (dv e3)
  rw [Nat.gcd_mul_left,Nat.gcd_mul_left,Nat.gcd_mul_left,Nat.gcd_mul_left] at this
  unfold gcd5 at hg
  rw [hg,Nat.mul_one] at this
  exact this
 have le : ∀ {y z : Int},y*n = z*m→y.natAbs≤z.natAbs:=by
  intro y z h
  obtain ⟨t,rfl⟩:=hmn
  have:=congrArg Int.natAbs h
  rw [Int.natAbs_mul,Int.natAbs_mul,Int.natAbs_natCast,Int.natAbs_natCast] at this
  have ht : 0 < t:=Nat.pos_of_mul_pos_left hn |> fun _=>Nat.pos_of_ne_zero fun e=>by subst e; simp at hn
  have h3 : y.natAbs*t*m = z.natAbs*m:=by rw [← this,Nat.mul_assoc,Nat.mul_comm t]
  have h4:=Nat.eq_of_mul_eq_mul_right hm h3
  have:=Nat.le_mul_of_pos_right y.natAbs ht
  omega
 have hmle:=Nat.le_of_dvd hn hmn
 refine ⟨c0,c1,c2,c3,D,d,_,y0,y1,y2,y3,m,h1,hm,hg,rfl,i0.cutW (Nat.lt_of_le_of_lt (le e0) b0),i1.cutW (Nat.lt_of_le_of_lt (le e1) b1),i2.cutW (Nat.lt_of_le_of_lt (le e2) b2),i3.cutW (Nat.lt_of_le_of_lt (le e3) b3),l,?_⟩
 rw [l.len]
 refine nw_le_of ?_
 split <;> omega
theorem mul_abs {a b : Nat} {x y : Int} (hx : x.natAbs < a) (hy : y.natAbs < b) : (x*y).natAbs < a*b:=by
 rw [Int.natAbs_mul]; exact Nat.mul_lt_mul'' hx hy
theorem mkQ_add (x0 x1 x2 x3 y0 y1 y2 y3 : Int) {m n : Nat} (hm : 0 < m) (hn : 0 < n) : mkQ (x0*n+y0*m) (x1*n+y1*m) (x2*n+y2*m) (x3*n+y3*m) (m*n) = (mkQ x0 x1 x2 x3 m).add (mkQ y0 y1 y2 y3 n):=by
 unfold mkQ Q4.add
 simp only [mkRat_add' _ _ hm hn]
theorem Bel.add (h : Bel v b) (h' : Bel v' c) : Bel (v.add v') (2*(b*c)):=by
 obtain ⟨x0,x1,x2,x3,m,hm,rfl,a0,a1,a2,a3,a4⟩:=h
 obtain ⟨y0,y1,y2,y3,n,hn,rfl,b0,b1,b2,b3,b4⟩:=h'
 have p : ∀ {x y : Int},x.natAbs < b→y.natAbs < c→(x*n+y*m).natAbs < 2*(b*c):=by
  intro x y hx hy
  have h1:=mul_abs (x:=x) (y:=(n : Int)) hx (by rw [Int.natAbs_natCast]; exact b4)
  have h2:=mul_abs (x:=y) (y:=(m : Int)) hy (by rw [Int.natAbs_natCast]; exact a4)
  rw [Nat.mul_comm c b] at h2
  have:=Int.natAbs_add_le (x*n) (y*m)
  omega
 have q:=Nat.mul_lt_mul'' a4 b4
 exact ⟨_,_,_,_,m*n,Nat.mul_pos hm hn,(mkQ_add _ _ _ _ _ _ _ _ hm hn).symm,p a0 b0,p a1 b1,p a2 b2,p a3 b3,by omega⟩
theorem Bel.neg (h : Bel v b) : Bel v.neg b:=by
 obtain ⟨x0,x1,x2,x3,m,hm,rfl,a0,a1,a2,a3,a4⟩:=h
 refine ⟨-x0,-x1,-x2,-x3,m,hm,?_,by omega,by omega,by omega,by omega,a4⟩
 unfold mkQ Q4.neg
 simp only [mkRat_neg']
theorem Bel.mul (h : Bel v b) (h' : Bel v' c) : Bel (v.mul v') (12*(b*c)):=by
 obtain ⟨x0,x1,x2,x3,m,hm,rfl,a0,a1,a2,a3,a4⟩:=h
 obtain ⟨y0,y1,y2,y3,n,hn,rfl,b0,b1,b2,b3,b4⟩:=h'
 have q:=Nat.mul_lt_mul'' a4 b4
 refine ⟨_,_,_,_,m*n,Nat.mul_pos hm hn,(mkQ_mul _ _ _ _ _ _ _ _ hm hn).symm,?_,?_,?_,?_,by omega⟩
 ·have h1:=mul_abs a0 b0
  have h2:=mul_abs a1 b1
  have h3:=mul_abs a2 b2
  have h4:=mul_abs a3 b3
  omega
 ·have h1:=mul_abs a0 b1
  have h2:=mul_abs a1 b0
  have h3:=mul_abs a2 b3
  have h4:=mul_abs a3 b2
  omega
 ·have h1:=mul_abs a0 b2
  have h2:=mul_abs a2 b0
  have h3:=mul_abs a1 b3
  have h4:=mul_abs a3 b1
  omega
 ·have h1:=mul_abs a0 b3
  have h2:=mul_abs a3 b0
  have h3:=mul_abs a1 b2
  have h4:=mul_abs a2 b1
  omega
theorem pow3 (K L : Nat) : 12*(B64 ^ K*B64 ^ L)≤B64 ^ (K+L+1):=by
 have e : B64 ^ (K+L+1) = B64 ^ K*B64 ^ L*B64:=by rw [Nat.pow_succ,Nat.pow_add]
 rw [e,Nat.mul_comm 12]
 exact Nat.mul_le_mul_left _ (by decide)
theorem pow2 (K L : Nat) : 2*(B64 ^ K*B64 ^ L)≤B64 ^ (K+L+1):=Nat.le_trans (Nat.mul_le_mul_right _ (by decide)) (pow3 K L)
theorem SAdd_w (hx : SurdV k cs v K) (hy : SurdV k cs' v' L) (hK1 : 1≤K) (hL1 : 1≤L) (hK : K≤100000000) (hL : L≤100000000) (C : ∀ k' ds,Up k k'→SurdV k' ds (v.add v') (K+L+1)→R k' (.agg ds)) :
 Cl k 87 #[.agg cs,.agg cs'] R :=
 SAdd_s (hx.mono (Nat.le_max_left K L)) (hy.mono (Nat.le_max_right K L)) (by omega) (by omega) fun k' ds u h=>C k' ds u (h.cutB (((hx.bel hK1).add (hy.bel hL1)).mono (pow2 K L)))
theorem SSub_w (hx : SurdV k cs v K) (hy : SurdV k cs' v' L) (hK1 : 1≤K) (hL1 : 1≤L) (hK : K≤100000000) (hL : L≤100000000) (C : ∀ k' ds,Up k k'→SurdV k' ds (v.sub v') (K+L+1)→R k' (.agg ds)) :
 Cl k 67 #[.agg cs,.agg cs'] R :=
 SSub_s (hx.mono (Nat.le_max_left K L)) (hy.mono (Nat.le_max_right K L)) (by omega) (by omega) fun k' ds u h=>C k' ds u (h.cutB (((hx.bel hK1).add (hy.bel hL1).neg).mono (pow2 K L)))
theorem SMul_w (hx : SurdV k cs v K) (hy : SurdV k cs' v' L) (hK1 : 1≤K) (hL1 : 1≤L) (hK : K≤100000000) (hL : L≤100000000) (C : ∀ k' ds,Up k k'→SurdV k' ds (v.mul v') (K+L+1)→R k' (.agg ds)) :
 Cl k 86 #[.agg cs,.agg cs'] R :=
 SMul_s (hx.mono (Nat.le_max_left K L)) (hy.mono (Nat.le_max_right K L)) (by omega) (by omega) fun k' ds u h=>C k' ds u (h.cutB (((hx.bel hK1).mul (hy.bel hL1)).mono (pow3 K L)))
theorem WaveV.cutB (h : WaveV k cs x K) (h0 : Bel x.re (B64 ^ L)) (h1 : Bel x.im (B64 ^ L)) : WaveV k cs x L:=by
 obtain ⟨c0,c1,e,a,b⟩:=h
 exact ⟨c0,c1,e,a.cutB h0,b.cutB h1⟩
theorem WaveV.bel (h : WaveV k cs x K) (hK : 1≤K) : Bel x.re (B64 ^ K)∧Bel x.im (B64 ^ K):=by
 obtain ⟨c0,c1,e,a,b⟩:=h
 exact ⟨a.bel hK,b.bel hK⟩
theorem WAdd_w (hx : WaveV k cs x K) (hy : WaveV k cs' y L) (hK1 : 1≤K) (hL1 : 1≤L) (hK : K≤30000000) (hL : L≤30000000) (C : ∀ k' ds,Up k k'→WaveV k' ds (x.add y) (K+L+1)→R k' (.agg ds)) :
 Cl k 52 #[.agg cs,.agg cs'] R :=
 WAdd_s (hx.mono (Nat.le_max_left K L)) (hy.mono (Nat.le_max_right K L)) (by omega) (by omega) fun k' ds u h=>C k' ds u (h.cutB (((hx.bel hK1).1.add (hy.bel hL1).1).mono (pow2 K L)) (((hx.bel hK1).2.add (hy.bel hL1).2).mono (pow2 K L)))
theorem pow4 (K L : Nat) : 2*(12*(B64 ^ K*B64 ^ L)*(12*(B64 ^ K*B64 ^ L)))≤B64 ^ (2*K+2*L+3) :=
 Nat.le_trans (Nat.mul_le_mul_left 2 (Nat.mul_le_mul (pow3 K L) (pow3 K L))) (Nat.le_trans (pow2 _ _) (Nat.pow_le_pow_right B64_pos (by omega)))
theorem WMul_w (hx : WaveV k cs x K) (hy : WaveV k cs' y L) (hK1 : 1≤K) (hL1 : 1≤L) (hK : K≤30000000) (hL : L≤30000000) (C : ∀ k' ds,Up k k'→WaveV k' ds (x.mul y) (2*K+2*L+3)→R k' (.agg ds)) :
 Cl k 69 #[.agg cs,.agg cs'] R :=
 WMul_s (hx.mono (Nat.le_max_left K L)) (hy.mono (Nat.le_max_right K L)) (by omega) (by omega) fun k' ds u h=>C k' ds u (h.cutB ((((hx.bel hK1).1.mul (hy.bel hL1).1).add ((hx.bel hK1).2.mul (hy.bel hL1).2).neg).mono (pow4 K L)) ((((hx.bel hK1).1.mul (hy.bel hL1).2).add ((hx.bel hK1).2.mul (hy.bel hL1).1)).mono (pow4 K L)))
end
end Go.Proofs.YtmilhgkacmofmaaGreat

namespace Go.Proofs.YtmilhgkacmofmaaGreat
open Num Plain
namespace Q23L
theorem add_comm (a b : Q23) : a+b = b+a:=by (refine Q23.ext' (Q2.ext' ?_ ?_) (Q2.ext' ?_ ?_) <;> (simp only [Q23.add_re,Q23.add_im,Q2.add_re,Q2.add_im]; grind))
theorem mul_comm (a b : Q23) : a*b = b*a:=by (refine Q23.ext' (Q2.ext' ?_ ?_) (Q2.ext' ?_ ?_) <;> (simp only [Q23.mul_re,Q23.mul_im,Q2.add_re,Q2.add_im,Q2.mul_re,Q2.mul_im,Q2.three_re,Q2.three_im]; grind))
theorem sub_eq (a b : Q23) : a - b = a+-b:=by (refine Q23.ext' (Q2.ext' ?_ ?_) (Q2.ext' ?_ ?_) <;> (simp only [Q23.add_re,Q23.add_im,Q23.neg_re,Q23.neg_im,Q23.sub_re,Q23.sub_im,Q2.add_re,Q2.add_im,Q2.neg_re,Q2.neg_im,Q2.sub_re,Q2.sub_im]; grind))
end Q23L
open Q23L
theorem Q4.add_comm (x y : Q4) : x.add y = y.add x:=toQ_inj (by rw [toQ_add,toQ_add,Q23L.add_comm])
theorem Q4.mul_comm (x y : Q4) : x.mul y = y.mul x:=toQ_inj (by rw [toQ_mul,toQ_mul,Q23L.mul_comm])
end Go.Proofs.YtmilhgkacmofmaaGreat

namespace Go.Proofs.YtmilhgkacmofmaaGreat
open Num Plain Q23L
noncomputable def sgd (a b : Q4) : Int:=C.sg (a.sub b).toQ
def fAt (x : W4) (k : Nat) : Q4:=(x.mul (turnW ((24 - k) % 24))).re
noncomputable def hi (x : W4) : Nat→Nat × Q4
 | 0=>(0,x.re)
 | j+1=>if 0 < sgd (fAt x (j+1)) (hi x j).2 then (j+1,fAt x (j+1)) else hi x j
noncomputable def cnt (x : W4) (s : Q4) (k : Nat) : Nat:=((List.range k).filter fun i=>decide (sgd (fAt x i) s = 0)).length
def sg2F (a b : Rat) : Int:=weighI a.num.sign b.num.sign (a*a - 2*(b*b)).num.sign
def sgF (v : Q4) : Int:=weighI (sg2F v.a v.b) (sg2F v.c v.d) (sg2F (v.a*v.a+2*(v.b*v.b) - 3*(v.c*v.c+2*(v.d*v.d))) (v.a*v.b+v.b*v.a - 3*(v.c*v.d+v.d*v.c)))
end Go.Proofs.YtmilhgkacmofmaaGreat

namespace Go.Proofs.YtmilhgkacmofmaaGreat
open Num Plain
theorem Q4.zero_add (x : Q4) : Q4.zero.add x = x:=by
 refine Q4.ext' ?_ ?_ ?_ ?_ <;> (simp only [Q4.add,Q4.zero]; grind)
theorem Q4.add_zero (x : Q4) : x.add Q4.zero = x:=by rw [Q4.add_comm,Q4.zero_add]
theorem Q4.zero_mul (x : Q4) : Q4.zero.mul x = Q4.zero:=by
 refine Q4.ext' ?_ ?_ ?_ ?_ <;> (simp only [Q4.mul,Q4.zero]; grind)
theorem Q4.one_mul (x : Q4) : (Q4.real 1).mul x = x:=by
 refine Q4.ext' ?_ ?_ ?_ ?_ <;> (simp only [Q4.mul,Q4.real]; grind)
theorem Q4.sub_zero (x : Q4) : x.sub Q4.zero = x:=by
 refine Q4.ext' ?_ ?_ ?_ ?_ <;> (simp only [Q4.sub,Q4.add,Q4.neg,Q4.zero]; grind)
theorem W4.zero_add (x : W4) : W4.zero.add x = x:=W4.ext' (Q4.zero_add _) (Q4.zero_add _)
theorem W4.add_zero (x : W4) : x.add W4.zero = x:=W4.ext' (Q4.add_zero _) (Q4.add_zero _)
theorem W4.zero_mul (x : W4) : W4.zero.mul x = W4.zero:=by
 refine W4.ext' ?_ ?_ <;> simp only [W4.mul,W4.zero,Q4.zero_mul,Q4.sub_zero,Q4.add_zero]
def ofR (q : Q4) : W4:=⟨q,Q4.zero⟩
theorem ofR_mul (q : Q4) (w : W4) : (ofR q).mul w = ⟨q.mul w.re,q.mul w.im⟩:=by
 refine W4.ext' ?_ ?_ <;> simp only [W4.mul,ofR,Q4.zero_mul,Q4.sub_zero,Q4.add_zero]
theorem ofR_zero : ofR Q4.zero = W4.zero:=rfl
def sumW (f : Nat→W4) : Nat→W4
 | 0=>W4.zero
 | n+1=>(sumW f n).add (f n)
def sumQ (f : Nat→Q4) : Nat→Q4
 | 0=>Q4.zero
 | n+1=>(sumQ f n).add (f n)
theorem sumW_congr {f g : Nat→W4} : ∀ {n : Nat},(∀ k,k < n→f k = g k)→sumW f n = sumW g n
 | 0,_=>rfl
 | n+1,h=>by
  show (sumW f n).add (f n) = (sumW g n).add (g n)
  rw [sumW_congr fun k hk=>h k (by omega),h n (by omega)]
theorem sumQ_congr {f g : Nat→Q4} : ∀ {n : Nat},(∀ k,k < n→f k = g k)→sumQ f n = sumQ g n
 | 0,_=>rfl
 | n+1,h=>by
  show (sumQ f n).add (f n) = (sumQ g n).add (g n)
  rw [sumQ_congr fun k hk=>h k (by omega),h n (by omega)]
theorem sumW_nil : ∀ n,sumW (fun _=>W4.zero) n = W4.zero
 | 0=>rfl
 | n+1=>by show (sumW _ n).add _ = _; rw [sumW_nil n,W4.add_zero]
theorem sumW_single {f : Nat→W4} {m : Nat} : ∀ {n : Nat},m < n→(∀ j,j < n→j ≠ m→f j = W4.zero)→sumW f n = f m
 | 0,h,_=>absurd h (Nat.not_lt_zero _)
 | n+1,h,hz=>by
  show (sumW f n).add (f n) = f m
  by_cases e : m = n
  ·subst e
   rw [sumW_congr (g:=fun _=>W4.zero) fun k hk=>hz k (by omega) (by omega),sumW_nil,W4.zero_add]
  ·rw [sumW_single (n:=n) (by omega) fun j hj=>hz j (by omega),hz n (by omega) (by omega),W4.add_zero]
theorem sumW_re (f : Nat→W4) : ∀ n,(sumW f n).re = sumQ (fun k=>(f k).re) n
 | 0=>rfl
 | n+1=>by
  show ((sumW f n).re).add (f n).re = (sumQ _ n).add (f n).re
  rw [sumW_re f n]
def trn (k : Nat) : W4:=turnW (k % 24)
def ordW (f : Nat→Q4) (n : Nat) : W4:=(ofR (Q4.real (1 / 24))).mul (sumW (fun k=>(ofR (f k)).mul (trn (23*n*k))) 24)
def wt (n : Nat) : Q4:=Q4.real (if n = 0∨n = 12 then 1 else 2)
def synQ (g : Nat→W4) (k : Nat) : Q4:=sumQ (fun n=>(wt n).mul ((g n).mul (trn (n*k))).re) 13
def engQ (g : Nat→W4) : Q4:=sumQ (fun n=>(wt n).mul (g n).norm) 13
theorem engQ_congr {f g : Nat→W4} (h : ∀ k,k < 13→f k = g k) : engQ f = engQ g:=sumQ_congr fun k hk=>by rw [h k hk]
def oneW (n : Nat) (w : W4) (m : Nat) : W4:=if m = n then w else W4.zero
def partQ (f : Nat→Q4) (n k : Nat) : Q4:=synQ (oneW n (ordW f n)) k
theorem ord_mean (f : Nat→Q4) : (ordW f 0).re = (Q4.real (1 / 24)).mul (sumQ f 24):=by
 unfold ordW
 rw [ofR_mul]
 show (Q4.real (1 / 24)).mul (sumW _ 24).re = _
 rw [sumW_re]
 refine congrArg (Q4.mul (Q4.real (1 / 24))) ?_
 refine sumQ_congr fun k _=>?_
 rw [ofR_mul,Nat.mul_zero,Nat.zero_mul]
 show (f k).mul (trn 0).re = f k
 have : (trn 0).re = Q4.real 1:=by decide +kernel
 rw [this,Q4.mul_comm,Q4.one_mul]
noncomputable def lowQ (f : Nat→Q4) : Nat→Q4
 | 0=>f 0
 | j+1=>if sgd (f (j+1)) (lowQ f j) < 0 then f (j+1) else lowQ f j
noncomputable def highQ (f : Nat→Q4) : Nat→Q4
 | 0=>f 0
 | j+1=>if 0 < sgd (f (j+1)) (highQ f j) then f (j+1) else highQ f j
noncomputable def peakQ (f : Nat→Q4) : Q4:=(highQ f 23).sub (lowQ f 23)
end Go.Proofs.YtmilhgkacmofmaaGreat

namespace Go.Proofs.YtmilhgkacmofmaaGreat
open Go.RowKit Num Plain
open Sy (Up Sees CallsG Seg)
section
variable {k k' : World} {R : World→Value→Prop} {K L : Nat} {cs cs' ds : Array Value} {f g F : Nat→Q4} {p q : Nat→W4} {x y : W4} {v v' : Q4}
def RoundV (k : World) (cs : Array Value) (f : Nat→Q4) (K : Nat) : Prop:=ArrV 24 9 (fun a v=>SurdV k a v K) cs f
def SpecV (k : World) (cs : Array Value) (p : Nat→W4) (K : Nat) : Prop:=ArrV 13 18 (fun a w=>WaveV k a w K) cs p
theorem RoundV.up (h : RoundV k cs f K) (u : Up k k') : RoundV k' cs f K:=ArrV.mono h fun _ _ h=>h.up u
theorem RoundV.seg (h : RoundV k cs f K) : Seg 216 cs:=ArrV.seg h fun _ _ h=>h.seg
theorem SpecV.up (h : SpecV k cs p K) (u : Up k k') : SpecV k' cs p K:=ArrV.mono h fun _ _ h=>h.up u
theorem SpecV.seg (h : SpecV k cs p K) : Seg 234 cs:=ArrV.seg h fun _ _ h=>h.seg
theorem RoundV.zero : RoundV k (zArr 24 zS) (fun _=>Q4.zero) K:=ArrV.zero (P:=fun a v=>SurdV k a v K) (z:=zS) rfl Q4.zero (SurdV.nil (Nat.zero_le _))
theorem SpecV.zero : SpecV k (zArr 13 (zS ++ zS)) (fun _=>W4.zero) K:=ArrV.zero (P:=fun a w=>WaveV k a w K) (z:=zS ++ zS) rfl W4.zero WaveV.nil
theorem otimes_s (hx : SurdV k cs v K) (hy : WaveV k cs' y L) (hK1 : 1≤K) (hL1 : 1≤L) (hK : K≤100000000) (hL : L≤100000000) (C : ∀ k' ds,Up k k'→WaveV k' ds ((ofR v).mul y) (K+L+1)→R k' (.agg ds)) :
 Cl k 53 #[.agg cs,.agg cs'] R:=by
 intro k0 u0
 rw [ofR_mul] at C
 refine otimes_vc hx.seg hy.seg (WRe_s (hy.up u0) fun k1 d1 u1 h1=>⟨d1,h1.seg,rfl,?_⟩)
 refine SMul_w ((hx.up u0).up u1) h1 hK1 hL1 hK hL fun k2 d2 u2 h2=>⟨d2,h2.seg,rfl,?_⟩
 refine WIm_s (((hy.up u0).up u1).up u2) fun k3 d3 u3 h3=>⟨d3,h3.seg,rfl,?_⟩
 refine SMul_w ((((hx.up u0).up u1).up u2).up u3) h3 hK1 hL1 hK hL fun k4 d4 u4 h4=>⟨d4,h4.seg,rfl,?_⟩
 refine pair_s ((h2.up u3).up u4) h4 fun k5 d5 u5 h5=>⟨d5,h5.seg,rfl,fun k6 u6=>?_⟩
 exact C k6 d5 ((((((u0.trans u1).trans u2).trans u3).trans u4).trans u5).trans u6) (h5.up u6)
theorem opart_s {n : Int} (h0 : -9223372036854775808≤n) (h1 : n < 9223372036854775808) (C : ∀ k' ds,Up k k'→SurdV k' ds (Q4.real ((1 : Int) / (n : Rat))) 1→R k' (.agg ds)) :
 Cl k 54 #[.int .i64 n] R:=by
 intro k0 u0
 refine opart_vc (QNew_s (by decide) (by decide) h0 h1 fun k1 d1 u1 q1=>⟨d1,q1.seg,_,rfl,?_⟩)
 refine SOf_s (SurdV.nil (K:=1) (Nat.zero_le _)) q1 fun k2 d2 u2 h2=>⟨d2,h2.seg,rfl,fun k3 u3=>?_⟩
 exact C k3 d2 (((u0.trans u1).trans u2).trans u3) (h2.up u3)
theorem owhole_s {n : Int} (h0 : -9223372036854775808≤n) (h1 : n < 9223372036854775808) (C : ∀ k' ds,Up k k'→SurdV k' ds (Q4.real (n : Rat)) 1→R k' (.agg ds)) :
 Cl k 31 #[.int .i64 n] R:=by
 intro k0 u0
 refine owhole_vc (QInt_s h0 h1 fun k1 d1 u1 q1=>⟨d1,q1.seg,rfl,?_⟩)
 refine SOf_s (SurdV.nil (K:=1) (Nat.zero_le _)) q1 fun k2 d2 u2 h2=>⟨d2,h2.seg,rfl,fun k3 u3=>?_⟩
 exact C k3 d2 (((u0.trans u1).trans u2).trans u3) (h2.up u3)
theorem plc_ord {n j : Nat} (hn : n < 13) (hj : j < 24) : turnW (plc (IntKind.wrap .i64 (IntKind.wrap .i64 (0 - (n : Int))*(j : Int)))) = trn (23*n*j):=by
 have hp : n*j≤12*23:=Nat.mul_le_mul (by omega) (by omega)
 have e1 : IntKind.wrap .i64 (0 - (n : Int)) = - (n : Int):=by rw [IntKind.wrap_i64]; omega
 have e2 : -(n : Int)*(j : Int) = -((n*j : Nat) : Int):=by rw [Int.neg_mul,Int.natCast_mul]
 rw [e1,e2,Nat.mul_assoc]
 generalize n*j = t at hp
 have e3 : IntKind.wrap .i64 (-(t : Int)) = -(t : Int):=by rw [IntKind.wrap_i64]; omega
 rw [e3]
 unfold trn plc
 congr 1
 omega
theorem oord_s {n : Nat} (hx : RoundV k cs f K) (hn : n < 13) (hK1 : 1≤K) (hK : K≤100000) (C : ∀ k' ds,Up k k'→WaveV k' ds (ordW f n) (24*K+75)→R k' (.agg ds)) :
 Cl k 17 #[.agg cs,.int .i64 (n : Int)] R:=by
 intro k0 u0
 replace hx:=hx.up u0
 replace C:=fun k' ds u=>C k' ds (u0.trans u)
 refine oorder_vc hx.seg ⟨fun m k' vs=>∃ j c,j+m = 24∧vs = [.int .i64 (j : Int),.agg c]∧WaveV k' c (sumW (fun i=>(ofR (f i)).mul (trn (23*n*i))) j) (1+j*(K+3)),⟨24,fun k' u=>⟨0,_,rfl,rfl,WaveV.nil⟩⟩,?_⟩
 rintro m k1 vs u1 ⟨j,c,hj,rfl,hc⟩
 refine ⟨_,c,hc.seg,rfl,fun hlt=>?_,fun hge=>?_⟩
 ·have hlt:=lt24 hlt
  refine ⟨ix24 hlt,xturn_s fun k2 d2 u2 hT=>⟨d2,hT.seg,rfl,?_⟩⟩
  rw [plc_ord hn hlt] at hT
  have hje:=Nat.mul_le_mul_right (K+3) (Nat.le_of_lt hlt)
  have hjs : (j+1)*(K+3) = j*(K+3)+(K+3):=Nat.succ_mul _ _
  refine otimes_s (ArrV.get ((hx.up u1).up u2) hlt) hT hK1 (by decide) (by omega) (by decide) fun k3 d3 u3 h3=>⟨d3,h3.seg,rfl,?_⟩
  refine WAdd_w ((hc.up u2).up u3) h3 (by omega) (by omega) (by omega) (by omega) fun k4 d4 u4 h4=>⟨d4,h4.seg,rfl,fun k5 u5=>?_⟩
  exact ⟨m - 1,by omega,j+1,d4,by omega,by rw [wup (by omega)],(h4.up u5).mono (by omega)⟩
 ·have hge:=ge24 hge
  have e : j = 24:=by omega
  subst e
  refine opart_s (n:=24) (by decide) (by decide) fun k2 d2 u2 h2=>⟨d2,h2.seg,rfl,?_⟩
  refine otimes_s h2 (hc.up u2) (by decide) (by omega) (by decide) (by omega) fun k3 d3 u3 h3=>⟨d3,h3.seg,rfl,fun k4 u4=>?_⟩
  exact C k4 d3 (((u1.trans u2).trans u3).trans u4) ((h3.up u4).mono (by omega))
theorem analyze_s (hx : RoundV k cs f K) (hK1 : 1≤K) (hK : K≤100000) (C : ∀ k' ds,Up k k'→SpecV k' ds (ordW f) (24*K+75)→R k' (.agg ds)) :
 Cl k 7 #[.agg cs] R:=by
 intro k0 u0
 replace hx:=hx.up u0
 replace C:=fun k' ds u=>C k' ds (u0.trans u)
 refine oAnalyze_vc hx.seg ⟨fun m k' vs=>∃ j c,j+m = 13∧vs = [.int .i64 (j : Int),.agg c]∧SpecV k' c (cut j (ordW f) fun _=>W4.zero) (24*K+75),⟨13,fun k' u=>⟨0,_,rfl,rfl,ArrV.start SpecV.zero⟩⟩,?_⟩
 rintro m k1 vs u1 ⟨j,c,hj,rfl,hc⟩
 refine ⟨_,c,hc.seg,rfl,fun hlt=>?_,fun hge=>?_⟩
 ·have hlt:=lt13 hlt
  refine oord_s (hx.up u1) hlt hK1 hK fun k2 d2 u2 h2=>⟨d2,h2.seg,rfl,ix13 hlt,fun k3 u3=>?_⟩
  exact ⟨m - 1,by omega,j+1,_,by omega,by rw [wup (by omega)],ArrV.step ((hc.up u2).up u3) hlt h2.seg.1 (h2.up u3)⟩
 ·exact fun k2 u2=>C k2 c (u1.trans u2) (ArrV.done (hc.up u2) (ge13 hge))
theorem weight_s {n : Nat} (_hn : n < 13) (C : ∀ k' ds,Up k k'→SurdV k' ds (wt n) 1→R k' (.agg ds)) :
 Cl k 88 #[.int .i64 (n : Int)] R:=by
 intro k0 u0
 unfold wt at C
 refine oweight_vc ⟨fun h=>?_,fun h=>⟨fun h'=>?_,fun h'=>?_⟩⟩
 ·have h : n = 0:=by have:=eq_of_beq h; omega
  rw [if_pos (Or.inl h)] at C
  exact owhole_s (by decide) (by decide) fun k1 d1 u1 h1=>⟨d1,h1.seg,rfl,fun k2 u2=>C k2 d1 ((u0.trans u1).trans u2) (h1.up u2)⟩
 ·have h' : n = 12:=by have:=eq_of_beq h'; omega
  rw [if_pos (Or.inr h')] at C
  exact owhole_s (by decide) (by decide) fun k1 d1 u1 h1=>⟨d1,h1.seg,rfl,fun k2 u2=>C k2 d1 ((u0.trans u1).trans u2) (h1.up u2)⟩
 ·have h0 : ¬ ((n : Int) = 0):=fun e=>by rw [e] at h; exact absurd h (by decide)
  have h2 : ¬ ((n : Int) = 12):=fun e=>by rw [e] at h'; exact absurd h' (by decide)
  rw [if_neg (by omega)] at C
  exact owhole_s (by decide) (by decide) fun k1 d1 u1 h1=>⟨d1,h1.seg,rfl,fun k2 u2=>C k2 d1 ((u0.trans u1).trans u2) (h1.up u2)⟩
theorem energy_s (hx : SpecV k cs p K) (hK1 : 1≤K) (hK : K≤1000000) (C : ∀ k' ds,Up k k'→SurdV k' ds (engQ p) (52*K+157)→R k' (.agg ds)) :
 Cl k 48 #[.agg cs] R:=by
 intro k0 u0
 replace hx:=hx.up u0
 replace C:=fun k' ds u=>C k' ds (u0.trans u)
 refine oEnergy_vc hx.seg ⟨fun m k' vs=>∃ j c,j+m = 13∧vs = [.int .i64 (j : Int),.agg c]∧SurdV k' c (sumQ (fun n=>(wt n).mul (p n).norm) j) (1+j*(4*K+12)),⟨13,fun k' u=>⟨0,_,rfl,rfl,SurdV.nil (Nat.zero_le _)⟩⟩,?_⟩
 rintro m k1 vs u1 ⟨j,c,hj,rfl,hc⟩
 refine ⟨_,c,hc.seg,rfl,fun hlt=>?_,fun hge=>?_⟩
 ·have hlt:=lt13 hlt
  refine ⟨ix13 hlt,weight_s hlt fun k2 d2 u2 h2=>⟨d2,h2.seg,rfl,?_⟩⟩
  have hje:=Nat.mul_le_mul_right (4*K+12) (Nat.le_of_lt hlt)
  have hjs : (j+1)*(4*K+12) = j*(4*K+12)+(4*K+12):=Nat.succ_mul _ _
  refine WNorm_s (ArrV.get ((hx.up u1).up u2) hlt) hK1 (by omega) fun k3 d3 u3 h3=>⟨d3,h3.seg,rfl,?_⟩
  refine SMul_w (h2.up u3) h3 (by decide) (by omega) (by decide) (by omega) fun k4 d4 u4 h4=>⟨d4,h4.seg,rfl,?_⟩
  refine SAdd_w (((hc.up u2).up u3).up u4) h4 (by omega) (by omega) (by omega) (by omega) fun k5 d5 u5 h5=>⟨d5,h5.seg,rfl,fun k6 u6=>?_⟩
  exact ⟨m - 1,by omega,j+1,d5,by omega,by rw [wup (by omega)],(h5.up u6).mono (by omega)⟩
 ·have e : j = 13:=by have:=ge13 hge; omega
  subst e
  exact fun k2 u2=>C k2 c (u1.trans u2) ((hc.up u2).mono (by omega))
def trQ (f : Nat→Q4) (c i : Nat) : Q4:=f ((i+(24 - c)) % 24)
def miQ (f : Nat→Q4) (i : Nat) : Q4:=f ((24 - i) % 24)
def Mix (k : World) (cs : Array Value) (f : Nat→Q4 × Nat) : Prop:=ArrV 24 9 (fun a p=>SurdV k a p.1 p.2) cs f
theorem mean_s (hx : RoundV k cs f K) (hK1 : 1≤K) (hK : K≤100000) (C : ∀ k' ds,Up k k'→SurdV k' ds (ordW f 0).re (24*K+75)→R k' (.agg ds)) :
 Cl k 85 #[.agg cs] R:=by
 intro k0 u0
 refine omean_vc hx.seg (oord_s (n:=0) (hx.up u0) (by decide) hK1 hK fun k1 d1 u1 h1=>⟨d1,h1.seg,rfl,?_⟩)
 exact WRe_s h1 fun k2 d2 u2 h2=>⟨d2,h2.seg,rfl,fun k3 u3=>C k3 d2 (((u0.trans u1).trans u2).trans u3) (h2.up u3)⟩
def cone (f g : Nat→Q4) : Q4:=(Q4.real (1 / 2)).mul ((ordW f 0).re.add (ordW g 0).re)
def steer (f g : Nat→Q4) : Q4:=(Q4.real (1 / 2)).mul ((ordW f 0).re.sub (ordW g 0).re)
theorem sides_s {c0 c1 c2 : Array Value} (h0 : Seg 216 c0) (hx : RoundV k c1 f K) (hy : RoundV k c2 g K) (hK1 : 1≤K) (hK : K≤100000) (C : ∀ k' ds es,Up k k'→SurdV k' ds (cone f g) (48*K+153)→SurdV k' es (steer f g) (48*K+153)→R k' (.tuple #[.agg ds,.agg es])) :
 Cl k 47 #[.agg (c0.toList ++ (c1.toList ++ (c2.toList ++ ([])))).toArray] R:=by
 intro k0 u0
 replace hx:=hx.up u0
 replace hy:=hy.up u0
 replace C:=fun k' ds es u=>C k' ds es (u0.trans u)
 have e2 : ((1 : Int) : Rat) / ((2 : Int) : Rat) = 1 / 2:=rfl
 refine oSides_vc h0 hx.seg hy.seg (mean_s hx hK1 hK fun k1 d1 u1 h1=>⟨d1,h1.seg,rfl,?_⟩)
 refine mean_s (hy.up u1) hK1 hK fun k2 d2 u2 h2=>⟨d2,h2.seg,rfl,?_⟩
 refine opart_s (n:=2) (by decide) (by decide) fun k3 d3 u3 h3=>⟨d3,h3.seg,rfl,?_⟩
 refine SAdd_w ((h1.up u2).up u3) (h2.up u3) (by omega) (by omega) (by omega) (by omega) fun k4 d4 u4 h4=>⟨d4,h4.seg,rfl,?_⟩
 refine SMul_w (h3.up u4) h4 (by decide) (by omega) (by decide) (by omega) fun k5 d5 u5 h5=>⟨d5,h5.seg,rfl,?_⟩
 refine opart_s (n:=2) (by decide) (by decide) fun k6 d6 u6 h6=>⟨d6,h6.seg,rfl,?_⟩
 have u36:=(((u3.trans u4).trans u5).trans u6)
 refine SSub_w ((h1.up u2).up u36) (h2.up u36) (by omega) (by omega) (by omega) (by omega) fun k7 d7 u7 h7=>⟨d7,h7.seg,rfl,?_⟩
 refine SMul_w (h6.up u7) h7 (by decide) (by omega) (by decide) (by omega) fun k8 d8 u8 h8=>⟨d8,h8.seg,rfl,fun k9 u9=>?_⟩
 exact C k9 d5 d8 ((((u1.trans u2).trans u36).trans u7).trans (u8.trans u9)) (((((h5.up u6).up u7).up u8).up u9).mono (by omega)) ((h8.up u9).mono (by omega))
end
end Go.Proofs.YtmilhgkacmofmaaGreat

namespace Go.Proofs.YtmilhgkacmofmaaGreat
open Go.RowKit
open Value (agg slice int bool tuple)
open Sy (Up Sees CallsG Seg execFn_use)
set_option maxRecDepth 100000
variable {k : World} {R : World→Value→Prop}
theorem rnone_vc
 (h : Cl k 45 #[int .i64 0] fun k1 r0=>Gt 3 r0 fun cs0 =>
 Cl k1 55 #[agg cs0] fun k3 r2=>Gt 24 r2 fun cs1 =>
 ∀ k4,Up k3 k4→R k4 (agg cs1)) :
  CallsG Tryz.prog 18 #[] k R :=
  execFn_use (cfg:={ opq:=[53,40] }) (args:=[]) (vals:=[]) (kinds:=[]) (by kernel_rfl) trivial (by kernel_rfl) (by kernel_rfl) h
theorem rOrder_vc {cs0 : Array Value} {n1 : Int} (hcs0 : Seg 288 cs0)
 (h : Cl k 18 #[] fun k1 r0=>Gt 24 r0 fun cs2 =>
 ∃ I2 : Nat→World→List Value→Prop,(∃ m2,∀ k2,Up k1 k2→I2 m2 k2 [int .i64 0,agg cs2]) ∧
 ∀ m2 k2 vs2,Up k1 k2→I2 m2 k2 vs2→∃ n3,∃ cs4,Seg 24 cs4∧some [int .i64 n3,agg cs4] = some vs2 ∧
 ((decide ((n3 : Int) < 24)) = true →
 ((decide ((0 : Int)≤n3∧(n3 : Int) < 24)) = true ∧
 (Cl k2 21 #[int .i64 (IntKind.wrap .i64 ((IntKind.wrap .i64 (0 - n1))*n3))] fun k4 r3=>Gt 24 r3 fun cs5 =>
 Cl k4 20 #[agg (Sy.pickL cs0 (Int.toNat n3*12+0) 12).toArray,agg cs5] fun k6 r5=>Gt 24 r5 fun cs6 =>
 Cl k6 19 #[agg cs4,agg cs6] fun k8 r7=>Gt 24 r7 fun cs7 =>
 ∀ k9,Up k8 k9→∃ m,m < m2∧I2 m k9 [int .i64 (IntKind.wrap .i64 (n3+1)),agg cs7]))) ∧
 ((decide ((n3 : Int) < 24)) = false →
 (Cl k2 22 #[int .i64 1,int .i64 24] fun k11 r10=>Gt 12 r10 fun cs5 =>
 Cl k11 20 #[agg cs5,agg cs4] fun k13 r12=>Gt 24 r12 fun cs6 =>
 ∀ k14,Up k13 k14→R k14 (agg cs6)))) :
  CallsG Tryz.prog 8 #[agg cs0,int .i64 n1] k R :=
  execFn_use (cfg:={ opq:=[44,42,53],loops:=[(0,[.tmp 6 false [.int .i64],.blk 2 [.seg 24]])] }) (args:=[.agg [.seg 0 288],.one (.var 1)]) (vals:=[agg cs0,int .i64 n1]) (kinds:=[.seg 288,.int .i64]) (by kernel_rfl) ⟨⟨cs0,rfl,hcs0⟩,⟨⟨_,rfl⟩,trivial⟩⟩ (by kernel_rfl) (by kernel_rfl) h
end Go.Proofs.YtmilhgkacmofmaaGreat

namespace Go.Proofs.YtmilhgkacmofmaaGreat
open Go.RowKit Num Plain W32
open Sy (Up Sees CallsG Seg)
section
variable {k k' : World} {R : World→Value→Prop} {K L : Nat} {cs cs' ds : Array Value} {f g F : Nat→Q4} {p q : Nat→W4} {x y : W4} {v v' : Q4}
def RoundQ (k : World) (cs : Array Value) (f : Nat→Q4) (K : Nat) : Prop:=ArrV 24 12 (fun a v=>SQ k a v K) cs f
def SpecQ (k : World) (cs : Array Value) (p : Nat→W4) (K : Nat) : Prop:=ArrV 13 24 (fun a w=>WQ k a w K) cs p
def MixQ (k : World) (cs : Array Value) (f : Nat→Option (Q4 × Nat)) : Prop:=ArrV 24 12 (optP 12 fun a p=>SQ k a p.1 p.2) cs f
def SpecM (k : World) (cs : Array Value) (p : Nat→Option W4) (K : Nat) : Prop:=ArrV 13 24 (optP 24 fun a w=>WQ k a w K) cs p
theorem RoundQ.up (h : RoundQ k cs f K) (u : Up k k') : RoundQ k' cs f K:=ArrV.mono h fun _ _ h=>h.up u
theorem RoundQ.seg (h : RoundQ k cs f K) : Seg 288 cs:=ArrV.seg h fun _ _ h=>h.seg
theorem MixQ.up {f : Nat→Option (Q4 × Nat)} (h : MixQ k cs f) (u : Up k k') : MixQ k' cs f:=ArrV.mono h fun _ v h=>by
 cases v with
 | none=>exact h
 | some v=>exact SQ.up h u
theorem MixQ.seg {f : Nat→Option (Q4 × Nat)} (h : MixQ k cs f) : Seg 288 cs:=ArrV.seg h fun _ _ h=>optP.seg (fun _ h=>SQ.seg h) h
theorem MixQ.round (h : MixQ k cs fun i=>some (f i,K)) : RoundQ k cs f K:=h
theorem MixQ.zero : MixQ k (zArr 24 zT) fun _=>none:=ArrV.zero (P:=optP 12 fun a (p : Q4 × Nat)=>SQ k a p.1 p.2) (z:=zT) rfl none ⟨rfl,by simp [zT,Value.scalar,Value.noWord]⟩
theorem rtimes_v (hx : SQ k cs v K) (hy : WQ k cs' y L) (hK : 4*(K+L)+22≤10000000000) (C : ∀ k' ds,Up k k'→WQ k' ds ((ofR v).mul y) (4*(K+L)+22)→R k' (.agg ds)) :
 Cl k 20 #[.agg cs,.agg cs'] R:=by
 intro k0 u0
 rw [ofR_mul] at C
 obtain ⟨a,b,rfl,ha,hb⟩:=hy.up u0
 refine rtimes_vc hx.seg ha.seg hb.seg (smul_v (hx.up u0) ha hK fun k1 d1 u1 h1=>⟨d1,h1.seg,rfl,?_⟩)
 refine smul_v ((hx.up u0).up u1) (hb.up u1) hK fun k2 d2 u2 h2=>⟨d2,h2.seg,rfl,fun k3 u3=>?_⟩
 exact C k3 (cat2 d1 d2) (((u0.trans u1).trans u2).trans u3) ⟨d1,d2,rfl,(h1.up u2).up u3,h2.up u3⟩
theorem rfraction_v {n d : Int} (hn : In64 n) (hd : In64 d) (C : ∀ k' ds,Up k k'→SQ k' ds (Q4.real ((n : Rat) / (d : Rat))) 2→R k' (.agg ds)) :
 Cl k 22 #[.int .i64 n,.int .i64 d] R:=by
 intro k0 u0
 refine rfraction_vc (new_v hn hd fun k1 d1 u1 q1=>⟨d1,q1.seg,_,rfl,?_⟩)
 refine real_v q1 (by decide) fun k2 d2 u2 h2=>⟨d2,h2.seg,rfl,fun k3 u3=>?_⟩
 exact C k3 d2 (((u0.trans u1).trans u2).trans u3) (h2.up u3)
theorem rnone_v (C : ∀ k' ds,Up k k'→WQ k' ds W4.zero 2→R k' (.agg ds)) :
 Cl k 18 #[] R:=by
 intro k0 u0
 refine rnone_vc (whole_v (z:=0) (by decide) (by decide) fun k1 d1 u1 q1=>⟨d1,q1.seg,rfl,?_⟩)
 refine wreal_v q1 (by decide) fun k2 d2 u2 h2=>⟨d2,h2.seg,rfl,fun k3 u3=>?_⟩
 exact C k3 d2 (((u0.trans u1).trans u2).trans u3) (h2.up u3)
theorem rorder_v {n : Nat} (hx : RoundQ k cs f K) (hn : n < 13) (hK : K≤1000000) (C : ∀ k' ds,Up k k'→WQ k' ds (ordW f n) (384*K+3014)→R k' (.agg ds)) :
 Cl k 8 #[.agg cs,.int .i64 (n : Int)] R:=by
 intro k0 u0
 replace hx:=hx.up u0
 replace C:=fun k' ds u=>C k' ds (u0.trans u)
 refine rOrder_vc hx.seg (rnone_v fun k1 d1 u1 h1=>⟨d1,h1.seg,rfl,?_⟩)
 refine ⟨fun m k' vs=>∃ j c,j+m = 24∧vs = [.int .i64 (j : Int),.agg c]∧WQ k' c (sumW (fun i=>(ofR (f i)).mul (trn (23*n*i))) j) (2+j*(4*K+31)),⟨24,fun k' u=>⟨0,_,rfl,rfl,(h1.up u).mono (by omega)⟩⟩,?_⟩
 rintro m k2 vs u2 ⟨j,c,hj,rfl,hc⟩
 replace hx:=(hx.up u1).up u2
 refine ⟨_,c,hc.seg,rfl,fun hlt=>?_,fun hge=>?_⟩
 ·have hlt:=lt24 hlt
  refine ⟨ix24 hlt,rturn_v fun k3 d3 u3 hT=>⟨d3,hT.seg,rfl,?_⟩⟩
  rw [plc_ord hn hlt] at hT
  have hje:=Nat.mul_le_mul_right (4*K+31) (Nat.le_of_lt hlt)
  have hjs : (j+1)*(4*K+31) = j*(4*K+31)+(4*K+31):=Nat.succ_mul _ _
  refine rtimes_v (K:=K) (ArrV.get (hx.up u3) hlt) hT (by omega) fun k4 d4 u4 h4=>⟨d4,h4.seg,rfl,?_⟩
  refine wadd_v ((hc.up u3).up u4) h4 (by omega) fun k5 d5 u5 h5=>⟨d5,h5.seg,rfl,fun k6 u6=>?_⟩
  exact ⟨m - 1,by omega,j+1,d5,by omega,by rw [wup (by omega)],(h5.up u6).mono (by omega)⟩
 ·have hge:=ge24 hge
  have e : j = 24:=by omega
  subst e
  refine rfraction_v (n:=1) (d:=24) ⟨by decide,by decide⟩ ⟨by decide,by decide⟩ fun k3 d3 u3 h3=>⟨d3,h3.seg,rfl,?_⟩
  refine rtimes_v h3 (hc.up u3) (by omega) fun k4 d4 u4 h4=>⟨d4,h4.seg,rfl,fun k5 u5=>?_⟩
  exact C k5 d4 ((((u1.trans u2).trans u3).trans u4).trans u5) ((h4.up u5).mono (by omega))
def trO (f : Nat→Q4) (K c j i : Nat) : Option (Q4 × Nat):=if (i+(24 - c)) % 24 < j then some (trQ f c i,K) else none
def miO (f : Nat→Q4) (K j i : Nat) : Option (Q4 × Nat):=if (24 - i) % 24 < j then some (miQ f i,K) else none
end
end Go.Proofs.YtmilhgkacmofmaaGreat

namespace Go.Proofs.YtmilhgkacmofmaaGreat
open Go.RowKit Num Plain W32
open Sy (Up Sees CallsG Seg)
section
variable {k k' : World} {R : World→Value→Prop} {K L : Nat} {cs cs' ds : Array Value} {f g F : Nat→Q4} {p q : Nat→W4} {x y : W4} {v v' : Q4}
def IsQuad (a : Array Value) (v : Q4) : Prop:=∃ n0 n1 n2 n3 n4 n5 n6 n7 : Int,(In64 n0∧In64 n1∧In64 n2∧In64 n3∧In64 n4∧In64 n5∧In64 n6∧In64 n7)∧a = #[.int .i64 n0,.int .i64 n1,.int .i64 n2,.int .i64 n3,.int .i64 n4,.int .i64 n5,.int .i64 n6,.int .i64 n7]∧v = ⟨ofQ n0 n1,ofQ n2 n3,ofQ n4 n5,ofQ n6 n7⟩
theorem IsQuad.seg (h : IsQuad cs v) : Seg 8 cs:=by
 obtain ⟨n0,n1,n2,n3,n4,n5,n6,n7,_,rfl,_⟩:=h
 exact ⟨rfl,by simp [Value.scalar,Value.noWord]⟩
theorem rounds_s (hx : ArrV 24 8 IsQuad cs f) (C : ∀ k' ds es,Up k k'→RoundV k' ds f 6→RoundQ k' es f 2→R k' (.tuple #[.agg ds,.agg es])) :
 Cl k 4 #[.agg cs] R:=by
 intro k0 u0
 replace C:=fun k' ds es u=>C k' ds es (u0.trans u)
 refine lRounds_vc (ArrV.seg hx fun _ _ h=>h.seg) ⟨fun m k' vs=>∃ j c d,j+m = 24∧vs = [.int .i64 (j : Int),.agg c,.agg d]∧RoundV k' c (cut j f fun _=>Q4.zero) 6∧MixQ k' d (cut j (fun i=>some (f i,2)) fun _=>none),⟨24,fun k' u=>⟨0,_,_,rfl,rfl,ArrV.start RoundV.zero,ArrV.start MixQ.zero⟩⟩,?_⟩
 rintro m k1 vs u1 ⟨j,c,d,hj,rfl,hc,hd⟩
 refine ⟨_,c,hc.seg,d,hd.seg,rfl,fun hlt=>?_,fun hge=>?_⟩
 ·have hlt:=lt24 hlt
  obtain ⟨n0,n1,n2,n3,n4,n5,n6,n7,⟨h0,h1,h2,h3,h4,h5,h6,h7⟩,e,ev⟩:=ArrV.get hx hlt
  rw [e]
  refine ⟨ix24 hlt,OfQuad_s h0 h1 h2 h3 h4 h5 h6 h7 fun k2 d2 u2 a2=>⟨d2,a2.seg,rfl,ix24 hlt,?_⟩⟩
  refine squad_v h0 h1 h2 h3 h4 h5 h6 h7 fun k3 d3 u3 a3=>⟨d3,a3.seg,rfl,ix24 hlt,fun k4 u4=>?_⟩
  rw [← ev] at a2 a3
  have u:=(u2.trans u3).trans u4
  exact ⟨m - 1,by omega,j+1,_,_,by omega,by rw [wup (by omega)],ArrV.step (hc.up u) hlt a2.seg.1 ((a2.up u3).up u4),ArrV.step (hd.up u) hlt a3.seg.1 (a3.up u4)⟩
 ·exact fun k2 u2=>C k2 c d (u1.trans u2) (ArrV.done (hc.up u2) (ge24 hge)) (MixQ.round (ArrV.done (F:=fun i=>some (f i,2)) (hd.up u2) (ge24 hge)))
theorem first_round (h : SurdV k ds v K) : RoundV k (ds.toList ++ (List.replicate 23 zS).flatten).toArray (fun i=>if i = 0 then v else Q4.zero) K:=by
 have h0:=ArrV.set (n:=24) (s:=9) (i:=0) (g:=fun i=>if i = 0 then v else Q4.zero) (RoundV.zero (k:=k) (K:=K)) (by decide) h.seg.1 h (fun j _ hj=>(if_neg hj).symm)
 have hl : ds.toList.length = 9:=by rw [Array.length_toList]; exact h.seg.1
 have e : (ds.toList ++ (List.replicate 23 zS).flatten).toArray = Sy.over (zArr 24 zS) (Int.toNat ((0 : Nat) : Int)*9+0) ds.toList:=by
  have z : (zArr 24 zS).toList = zS ++ (List.replicate 23 zS).flatten:=by unfold zArr; rw [show 24 = 23+1 from rfl,List.replicate_succ,List.flatten_cons]
  rw [← Array.toList_inj,Sy.over_eq _ _ _ (by rw [hl]; have:=(RoundV.zero (k:=k) (K:=K)).seg.1; omega),hl,z,show Int.toNat ((0 : Nat) : Int)*9+0 = 0 from rfl,List.take_zero,Nat.zero_add,List.nil_append,List.drop_left' (show zS.length = 9 from rfl)]
 rw [e]; exact h0
theorem dec_two (n a b : Nat) (h : n = 10*a+b) (ha : 0 < a) (ha' : a < 10) (hb : b < 10) : dec n = [UInt8.ofNat (48+a),UInt8.ofNat (48+b)]:=by
 unfold dec
 rw [if_neg (by omega),dig_pos (by omega),dig_pos (n:=n / 10) (by omega),show n / 10 / 10 = 0 by omega,dig_zero,show n / 10 % 10 = a by omega,show n % 10 = b by omega]
 rfl
theorem dec_1 : dec 1 = [49]:=by
 unfold dec
 rw [if_neg (by omega),dig_pos (by omega),show 1 / 10 = 0 from rfl,dig_zero]
 rfl
theorem real_text (q : Rat) (h : q ≠ 0) : surdText (Q4.real q) = ratText q:=by
 have hn : ratText q ≠ []:=by
  unfold ratText
  intro e
  have e1:=List.append_eq_nil_iff.1 (List.append_eq_nil_iff.1 e).2
  have:=dec_len (q.num.natAbs)
  have h2 : dec q.num.natAbs ≠ []:=by
   unfold dec
   split
   ·simp
   ·rename_i hq; rw [dig_pos hq]; simp
  exact h2 e1.1
 have p1 : addPart [] q [] = ratText q:=by
  unfold addPart
  rw [if_neg h,if_neg (by simp),List.append_nil]; rfl
 have p3 : ∀ s m : List UInt8,addPart s 0 m = s:=fun s m=>by
  unfold addPart
  rw [if_pos rfl]
 unfold surdText Q4.real
 simp only [body]
 rw [p1,p3,p3,p3,if_neg hn]
theorem text_24 : surdText (Q4.real (1 / 24)) = [49,47,50,52]:=by
 rw [real_text _ (by decide +kernel)]
 unfold ratText
 rw [show ((1 / 24 : Rat)).num = 1 by decide +kernel,show ((1 / 24 : Rat)).den = 24 by decide +kernel,if_neg (by decide),if_neg (by decide),show (1 : Int).natAbs = 1 from rfl,dec_1,dec_two 24 2 4 rfl (by decide) (by decide) (by decide)]
 rfl
theorem text_10 : surdText (Q4.real 10) = [49,48]:=by
 rw [real_text _ (by decide +kernel)]
 unfold ratText
 rw [show (10 : Rat).num = 10 from rfl,show (10 : Rat).den = 1 from rfl,if_neg (by decide),if_pos rfl,show (10 : Int).natAbs = 10 from rfl,dec_two 10 1 0 rfl (by decide) (by decide) (by decide)]
 rfl
theorem text_20 : surdText (Q4.real 20) = [50,48]:=by
 rw [real_text _ (by decide +kernel)]
 unfold ratText
 rw [show (20 : Rat).num = 20 from rfl,show (20 : Rat).den = 1 from rfl,if_neg (by decide),if_pos rfl,show (20 : Int).natAbs = 20 from rfl,dec_two 20 2 0 rfl (by decide) (by decide) (by decide)]
 rfl
theorem txt {l : List UInt8} (h : surdText v = l) : (ByteArray.toList (str (surdText v)) == ByteArray.toList ⟨l.toArray⟩) = true:=by
 rw [h]; exact beq_self_eq_true _
def unitF (i : Nat) : Q4:=if i = 0 then Q4.real 1 else Q4.zero
theorem unit_ord (n : Nat) : ordW unitF n = ofR (Q4.real (1 / 24)):=by
 unfold ordW
 rw [sumW_single (m:=0) (by decide) fun j _ hj=>by unfold unitF; rw [if_neg hj,ofR_zero,W4.zero_mul]]
 have e : (ofR (unitF 0)).mul (trn (23*n*0)) = W4.real 1:=by rw [Nat.mul_zero]; decide +kernel
 rw [e]; decide +kernel
theorem unit_eng : engQ (ordW unitF) = Q4.real (1 / 24):=by
 rw [engQ_congr (g:=fun _=>ofR (Q4.real (1 / 24))) fun n _=>unit_ord n]
 decide +kernel
theorem cone_10 : cone (fun _=>Q4.real 30) (fun _=>Q4.real (-10)) = Q4.real 10:=by
 unfold cone; rw [ord_mean,ord_mean]; decide +kernel
theorem steer_20 : steer (fun _=>Q4.real 30) (fun _=>Q4.real (-10)) = Q4.real 20:=by
 unfold steer; rw [ord_mean,ord_mean]; decide +kernel
theorem lawake_s (C : ∀ k',Up k k'→R k' (.bool true)) : Cl k 13 #[] R:=by
 intro k0 u0
 replace C:=fun k' u=>C k' (u0.trans u)
 refine lawake_vc (QInt_s (z:=1) (by omega) (by omega) fun k1 d1 u1 h1=>⟨d1,h1.seg,rfl,?_⟩)
 refine SOf_s (SurdV.nil (K:=1) (Nat.zero_le _)) h1 fun k2 d2 u2 h2=>⟨d2,h2.seg,rfl,?_⟩
 refine analyze_s (K:=1) (f:=unitF) (first_round h2) (by decide) (by decide) fun k3 d3 u3 h3=>⟨d3,h3.seg,rfl,?_⟩
 replace C:=fun k' u=>C k' (((u1.trans u2).trans u3).trans u)
 clear u1 u2 u3 h1 h2
 refine ⟨fun m k' vs=>∃ j a b c,j+m = 24∧vs = [.int .i64 (j : Int),.agg (a.toList ++ (b.toList ++ (c.toList ++ ([])))).toArray]∧Seg 216 a∧RoundV k' b (cut j (fun _=>Q4.real 30) fun _=>Q4.zero) 1∧RoundV k' c (cut j (fun _=>Q4.real (-10)) fun _=>Q4.zero) 1,⟨24,fun k' u=>⟨0,zArr 24 zS,zArr 24 zS,zArr 24 zS,rfl,rfl,(RoundV.zero (k:=k') (K:=1)).seg,ArrV.start RoundV.zero,ArrV.start RoundV.zero⟩⟩,?_⟩
 rintro m k4 vs u4 ⟨j,a,b,c,hj,rfl,ha,hb,hc⟩
 refine ⟨_,a,ha,b,hb.seg,c,hc.seg,rfl,fun hlt=>?_,fun hge=>?_⟩
 ·have hlt:=lt24 hlt
  refine ⟨ix24 hlt,ix24 hlt,QInt_s (z:=30) (by omega) (by omega) fun k5 d5 u5 h5=>⟨d5,h5.seg,rfl,?_⟩⟩
  refine SOf_s (ArrV.at (hb.up u5) hlt) h5 fun k6 d6 u6 h6=>⟨d6,h6.seg,rfl,ix24 hlt,?_⟩
  refine QInt_s (z:=-10) (by omega) (by omega) fun k7 d7 u7 h7=>⟨d7,h7.seg,rfl,?_⟩
  refine SOf_s (ArrV.at (((hc.up u5).up u6).up u7) hlt) h7 fun k8 d8 u8 h8=>⟨d8,h8.seg,rfl,ix24 hlt,fun k9 u9=>?_⟩
  have u59:=(((u5.trans u6).trans u7).trans u8).trans u9
  exact ⟨m - 1,by omega,j+1,_,_,_,by omega,by rw [wup (by omega)],ha,ArrV.step (hb.up u59) hlt h6.seg.1 (((h6.up u7).up u8).up u9),ArrV.step (hc.up u59) hlt h8.seg.1 (h8.up u9)⟩
 ·have hb : RoundV k4 b (fun _=>Q4.real 30) 1:=ArrV.done hb (ge24 hge)
  have hc : RoundV k4 c (fun _=>Q4.real (-10)) 1:=ArrV.done hc (ge24 hge)
  refine sides_s ha hb hc (by decide) (by decide) fun k5 d5 e5 u5 h5 g5=>⟨d5,h5.seg,e5,g5.seg,rfl,?_⟩
  rw [cone_10] at h5
  rw [steer_20] at g5
  refine energy_s ((h3.up u4).up u5) (by decide) (by decide) fun k6 d6 u6 h6=>⟨d6,h6.seg,rfl,?_⟩
  rw [unit_eng] at h6
  refine SText_s h6 (by decide) (by decide) fun k7 u7=>⟨_,rfl,fun _=>?_,fun h=>absurd (txt text_24) (by rw [h]; decide)⟩
  have h3' : WaveV k7 (Sy.pickL d3 (Int.toNat 0*0+90) 18).toArray (ordW unitF 5) (24*1+75):=ArrV.get (i:=5) ((((h3.up u4).up u5).up u6).up u7) (by decide)
  rw [unit_ord] at h3'
  refine WRe_s h3' fun k8 d8 u8 h8=>⟨d8,h8.seg,rfl,?_⟩
  refine SText_s (v:=Q4.real (1 / 24)) h8 (by decide) (by decide) fun k9 u9=>⟨_,rfl,fun _=>?_,fun h=>absurd (txt text_24) (by rw [h]; decide)⟩
  have u69:=((u6.trans u7).trans u8).trans u9
  refine SText_s (h5.up u69) (by decide) (by decide) fun k10 u10=>⟨_,rfl,fun _=>?_,fun h=>absurd (txt text_10) (by rw [h]; decide)⟩
  refine SText_s ((g5.up u69).up u10) (by decide) (by decide) fun k11 u11=>⟨_,rfl,fun k12 u12=>?_⟩
  have:=C k12 (((((u4.trans u5).trans u69).trans u10).trans u11).trans u12)
  rw [show (ByteArray.toList (str (surdText (Q4.real 20))) == ByteArray.toList ⟨#[50,48]⟩) = true from txt text_20]
  exact this
end
end Go.Proofs.YtmilhgkacmofmaaGreat

namespace Go.Proofs.YtmilhgkacmofmaaGreat
open Num
def flr (q : Rat) : Int:=q.num / (q.den : Int)
def floorK (q : Rat) (k : Nat) : Rat:=mkRat (q.num*((2 ^ k : Nat) : Int) / (q.den : Int)) (2 ^ k)
def clampK (n : Int) : Nat:=(min 1000 (max 0 n)).toNat
def rcmp (y : Rat) : Int:=(y - (flr y : Rat) - mkRat 1 2).num.sign
def rup (y : Rat) : Bool:=decide (0 < rcmp y) || (decide (rcmp y = 0) && decide (flr y % 2 = 1))
def roundQ (x s : Rat) : Rat:=(if rup (x / s) = true then (flr (x / s) : Rat)+1 else (flr (x / s) : Rat))*s
def roundV (x s : Rat) : Rat:=if s.num.sign≤0 then 0 else roundQ x s
theorem num_pos {v : Rat} (h : 0 < v) : 0 < v.num:=by
 have h1:=Rat.num_nonneg.2 (show (0 : Rat)≤v by grind)
 have h2 : v.num ≠ 0:=fun e=>by have:=Rat.num_eq_zero.1 e; grind
 omega
def halved (x : Rat) : Nat→Rat
 | 0=>x
 | j+1=>halved x j / 2
end Go.Proofs.YtmilhgkacmofmaaGreat

namespace Go.Proofs.YtmilhgkacmofmaaGreat
open Go.RowKit
open Value (agg slice int bool tuple)
open Sy (Up Sees CallsG Seg execFn_use)
set_option maxRecDepth 100000
variable {k : World} {R : World→Value→Prop}
end Go.Proofs.YtmilhgkacmofmaaGreat

namespace Go.Proofs.YtmilhgkacmofmaaGreat.W32
open Go.RowKit Num
open Sy (Up Sees CallsG Seg)
section
variable {k k' : World} {cs cs' : Array Value} {R : World→Value→Prop} {x y q q' : Rat} {K L : Nat} {b : Bool} {A A' : Option Addr} {l c l' c' : Nat}
theorem QV.mk1 (h : QN k b A l c A' l' c' q) (h1 : l≤K) (h2 : l'≤K) : QV k #[.bool b,.slice A l c,.slice A' l' c'] q K:=⟨b,A,l,c,A',l',c',rfl,h,h1,h2⟩
end
end Go.Proofs.YtmilhgkacmofmaaGreat.W32

namespace Go.Proofs.YtmilhgkacmofmaaGreat
open Go.RowKit
open Value (agg slice int bool tuple)
open Sy (Up Sees CallsG Seg execFn_use)
set_option maxRecDepth 100000
variable {k : World} {R : World→Value→Prop}
theorem nroot_vc {A0 : Option Addr} {l0 c0 : Nat}
 (h : true = true∧(((((l0 : Nat) : Int) == 0) = true →
 (∀ k0,Up k k0→R k0 (slice none 0 0))) ∧
 ((((l0 : Nat) : Int) == 0) = false →
 (Cl k 138 #[slice A0 l0 c0] fun k2 r1=>∃ n1,some (int .i64 n1) = some r1 ∧
 ∀ p2 k3,Up k2 k3→Sy.Blk k3 p2 138 #[int .u32 1] →
 Cl k3 139 #[slice (some ⟨p2,0,none⟩) 1 1,int .i64 (IntKind.wrap .i64 (Int.tdiv (IntKind.wrap .i64 (n1+1)) 2))] fun k5 r4=>∃ A3 l3 c3,some (slice A3 l3 c3) = some r4 ∧
 ∃ I6 : Nat→World→List Value→Prop,(∃ m6,∀ k6,Up k5 k6→I6 m6 k6 [slice A3 l3 c3]) ∧
 ∀ m6 k6 vs6,Up k5 k6→I6 m6 k6 vs6→∃ A4 l4 c4,some [slice A4 l4 c4] = some vs6 ∧
 Cl k6 115 #[slice A0 l0 c0,slice A4 l4 c4] fun k8 r7=>∃ A5 l5 c5,∃ A6 l6 c6,some (tuple #[slice A5 l5 c5,slice A6 l6 c6]) = some r7 ∧
 Cl k8 129 #[slice A4 l4 c4,slice A5 l5 c5] fun k10 r9=>∃ A7 l7 c7,some (slice A7 l7 c7) = some r9 ∧
 Cl k10 140 #[slice A7 l7 c7,int .i64 1] fun k12 r11=>∃ A8 l8 c8,some (slice A8 l8 c8) = some r11 ∧
 Cl k12 130 #[slice A8 l8 c8,slice A4 l4 c4] fun k14 r13=>∃ n9,some (int .i64 n9) = some r13 ∧
 ((decide ((n9 : Int) ≥ 0)) = true →
 (∀ k15,Up k14 k15→R k15 (slice A4 l4 c4))) ∧
 ((decide ((n9 : Int) ≥ 0)) = false →
 (∀ k16,Up k14 k16→∃ m,m < m6∧I6 m k16 [slice A8 l8 c8])))))) :
   CallsG Tryz.prog 150 #[slice A0 l0 c0] k R :=
  execFn_use (cfg:={ opq:=[],loops:=[(0,[.tmp 3 false [.slice]])] }) (args:=[.one (.var 0)]) (vals:=[slice A0 l0 c0]) (kinds:=[.slice]) (by kernel_rfl) ⟨⟨_,_,_,rfl⟩,trivial⟩ (by kernel_rfl) (by kernel_rfl) h
theorem rroot_vc {n0 n1 : Int}
 (h : Cl k 84 #[int .u64 n0] fun k1 r0=>∃ A2 l2 c2,some (slice A2 l2 c2) = some r0 ∧
 Cl k1 139 #[slice A2 l2 c2,int .i64 (IntKind.wrap .i64 (2*n1))] fun k3 r2=>∃ A3 l3 c3,some (slice A3 l3 c3) = some r2 ∧
 Cl k3 150 #[slice A3 l3 c3] fun k5 r4=>∃ A4 l4 c4,some (slice A4 l4 c4) = some r4 ∧
 ∀ p5 k6,Up k5 k6→Sy.Blk k6 p5 138 #[int .u32 1] →
 Cl k6 139 #[slice (some ⟨p5,0,none⟩) 1 1,int .i64 n1] fun k8 r7=>∃ A6 l6 c6,some (slice A6 l6 c6) = some r7 ∧
 Cl k8 83 #[bool false,slice A4 l4 c4,slice A6 l6 c6] fun k10 r9=>Gt 3 r9 fun cs7 =>
 ∀ k11,Up k10 k11→R k11 (agg cs7)) :
  CallsG Tryz.prog 136 #[int .u64 n0,int .i64 n1] k R :=
  execFn_use (cfg:={ opq:=[40] }) (args:=[.one (.var 0),.one (.var 1)]) (vals:=[int .u64 n0,int .i64 n1]) (kinds:=[.int .u64,.int .i64]) (by kernel_rfl) ⟨⟨_,rfl⟩,⟨⟨_,rfl⟩,trivial⟩⟩ (by kernel_rfl) (by kernel_rfl) h
theorem rpower_vc {n0 : Int}
 (h : ((decide ((n0 : Int) < 0)) = true →
 (∀ p1 k0,Up k k0→Sy.Blk k0 p1 138 #[int .u32 1] →
 Cl k0 139 #[slice (some ⟨p1,0,none⟩) 1 1,int .i64 (IntKind.wrap .i64 (0 - n0))] fun k2 r1=>∃ A2 l2 c2,some (slice A2 l2 c2) = some r1 ∧
 ∀ p3 k3,Up k2 k3→Sy.Blk k3 p3 138 #[int .u32 1] →
 Cl k3 83 #[bool false,slice (some ⟨p3,0,none⟩) 1 1,slice A2 l2 c2] fun k5 r4=>Gt 3 r4 fun cs4 =>
 ∀ k6,Up k5 k6→R k6 (agg cs4))) ∧
 ((decide ((n0 : Int) < 0)) = false →
 (Cl k 149 #[int .i64 n0] fun k8 r7=>Gt 3 r7 fun cs1 =>
 ∀ k9,Up k8 k9→R k9 (agg cs1)))) :
  CallsG Tryz.prog 135 #[int .i64 n0] k R :=
  execFn_use (cfg:={ opq:=[40] }) (args:=[.one (.var 0)]) (vals:=[int .i64 n0]) (kinds:=[.int .i64]) (by kernel_rfl) ⟨⟨_,rfl⟩,trivial⟩ (by kernel_rfl) (by kernel_rfl) h
theorem rBounds_vc {cs0 cs1 cs2 cs3 : Array Value} {n4 : Int} (hcs0 : Seg 3 cs0) (hcs1 : Seg 3 cs1) (hcs2 : Seg 3 cs2) (hcs3 : Seg 3 cs3)
 (h : ∀ p5 k0,Up k k0→Sy.Blk k0 p5 122 #[int .u64 1,int .u64 2,int .u64 3,int .u64 6] →
 ∃ A6 l6 c6,some (slice (some ⟨p5,0,none⟩) 4 4) = some (slice A6 l6 c6) ∧
 Cl k0 135 #[int .i64 (IntKind.wrap .i64 (0 - n4))] fun k2 r1=>Gt 3 r1 fun cs7 =>
 (∃ b o,A6 = some ⟨b,o,none⟩)∧((0 : Int)≤1∧(1 : Int) < (l6 : Nat)) ∧
 ∃ n8,Sy.ReadAt k2.cell? A6 (Int.toNat 1*1+0) 1 (int .u64 n8) ∧
 Cl k2 136 #[int .u64 n8,int .i64 n4] fun k4 r3=>Gt 3 r3 fun cs9 =>
 Cl k4 102 #[agg cs1,agg cs9] fun k6 r5=>Gt 3 r5 fun cs10 =>
 Cl k6 101 #[agg cs9,agg cs7] fun k8 r7=>Gt 3 r7 fun cs11 =>
 Cl k8 102 #[agg cs1,agg cs11] fun k10 r9=>Gt 3 r9 fun cs12 =>
 Cl k10 75 #[agg cs1] fun k12 r11=>∃ n13,some (int .i64 n13) = some r11 ∧
 ((decide ((n13 : Int) < 0)) = true →
 (Cl k12 101 #[agg cs0,agg cs12] fun k14 r13=>Gt 3 r13 fun cs14 =>
 Cl k14 101 #[agg cs0,agg cs10] fun k16 r15=>Gt 3 r15 fun cs15 =>
 (∃ b o,A6 = some ⟨b,o,none⟩)∧((0 : Int)≤2∧(2 : Int) < (l6 : Nat)) ∧
 ∃ n16,Sy.ReadAt k16.cell? A6 (Int.toNat 2*1+0) 1 (int .u64 n16) ∧
 Cl k16 136 #[int .u64 n16,int .i64 n4] fun k18 r17=>Gt 3 r17 fun cs17 =>
 Cl k18 102 #[agg cs2,agg cs17] fun k20 r19=>Gt 3 r19 fun cs18 =>
 Cl k20 101 #[agg cs17,agg cs7] fun k22 r21=>Gt 3 r21 fun cs19 =>
 Cl k22 102 #[agg cs2,agg cs19] fun k24 r23=>Gt 3 r23 fun cs20 =>
 Cl k24 75 #[agg cs2] fun k26 r25=>∃ n21,some (int .i64 n21) = some r25 ∧
 ((decide ((n21 : Int) < 0)) = true →
 (Cl k26 101 #[agg cs14,agg cs20] fun k28 r27=>Gt 3 r27 fun cs22 =>
 Cl k28 101 #[agg cs15,agg cs18] fun k30 r29=>Gt 3 r29 fun cs23 =>
 (∃ b o,A6 = some ⟨b,o,none⟩)∧((0 : Int)≤3∧(3 : Int) < (l6 : Nat)) ∧
 ∃ n24,Sy.ReadAt k30.cell? A6 (Int.toNat 3*1+0) 1 (int .u64 n24) ∧
 Cl k30 136 #[int .u64 n24,int .i64 n4] fun k32 r31=>Gt 3 r31 fun cs25 =>
 Cl k32 102 #[agg cs3,agg cs25] fun k34 r33=>Gt 3 r33 fun cs26 =>
 Cl k34 101 #[agg cs25,agg cs7] fun k36 r35=>Gt 3 r35 fun cs27 =>
 Cl k36 102 #[agg cs3,agg cs27] fun k38 r37=>Gt 3 r37 fun cs28 =>
 Cl k38 75 #[agg cs3] fun k40 r39=>∃ n29,some (int .i64 n29) = some r39 ∧
 ((decide ((n29 : Int) < 0)) = true →
 (Cl k40 101 #[agg cs22,agg cs28] fun k42 r41=>Gt 3 r41 fun cs30 =>
 Cl k42 101 #[agg cs23,agg cs26] fun k44 r43=>Gt 3 r43 fun cs31 =>
 ∀ k45,Up k44 k45→R k45 (tuple #[agg cs30,agg cs31]))) ∧
 ((decide ((n29 : Int) < 0)) = false →
 (Cl k40 101 #[agg cs22,agg cs26] fun k47 r46=>Gt 3 r46 fun cs30 =>
 Cl k47 101 #[agg cs23,agg cs28] fun k49 r48=>Gt 3 r48 fun cs31 =>
 ∀ k50,Up k49 k50→R k50 (tuple #[agg cs30,agg cs31]))))) ∧
 ((decide ((n21 : Int) < 0)) = false →
 (Cl k26 101 #[agg cs14,agg cs18] fun k52 r51=>Gt 3 r51 fun cs22 =>
 Cl k52 101 #[agg cs15,agg cs20] fun k54 r53=>Gt 3 r53 fun cs23 =>
 (∃ b o,A6 = some ⟨b,o,none⟩)∧((0 : Int)≤3∧(3 : Int) < (l6 : Nat)) ∧
 ∃ n24,Sy.ReadAt k54.cell? A6 (Int.toNat 3*1+0) 1 (int .u64 n24) ∧
 Cl k54 136 #[int .u64 n24,int .i64 n4] fun k56 r55=>Gt 3 r55 fun cs25 =>
 Cl k56 102 #[agg cs3,agg cs25] fun k58 r57=>Gt 3 r57 fun cs26 =>
 Cl k58 101 #[agg cs25,agg cs7] fun k60 r59=>Gt 3 r59 fun cs27 =>
 Cl k60 102 #[agg cs3,agg cs27] fun k62 r61=>Gt 3 r61 fun cs28 =>
 Cl k62 75 #[agg cs3] fun k64 r63=>∃ n29,some (int .i64 n29) = some r63 ∧
 ((decide ((n29 : Int) < 0)) = true →
 (Cl k64 101 #[agg cs22,agg cs28] fun k66 r65=>Gt 3 r65 fun cs30 =>
 Cl k66 101 #[agg cs23,agg cs26] fun k68 r67=>Gt 3 r67 fun cs31 =>
 ∀ k69,Up k68 k69→R k69 (tuple #[agg cs30,agg cs31]))) ∧
 ((decide ((n29 : Int) < 0)) = false →
 (Cl k64 101 #[agg cs22,agg cs26] fun k71 r70=>Gt 3 r70 fun cs30 =>
 Cl k71 101 #[agg cs23,agg cs28] fun k73 r72=>Gt 3 r72 fun cs31 =>
 ∀ k74,Up k73 k74→R k74 (tuple #[agg cs30,agg cs31]))))))) ∧
 ((decide ((n13 : Int) < 0)) = false →
 (Cl k12 101 #[agg cs0,agg cs10] fun k76 r75=>Gt 3 r75 fun cs14 =>
 Cl k76 101 #[agg cs0,agg cs12] fun k78 r77=>Gt 3 r77 fun cs15 =>
 (∃ b o,A6 = some ⟨b,o,none⟩)∧((0 : Int)≤2∧(2 : Int) < (l6 : Nat)) ∧
 ∃ n16,Sy.ReadAt k78.cell? A6 (Int.toNat 2*1+0) 1 (int .u64 n16) ∧
 Cl k78 136 #[int .u64 n16,int .i64 n4] fun k80 r79=>Gt 3 r79 fun cs17 =>
 Cl k80 102 #[agg cs2,agg cs17] fun k82 r81=>Gt 3 r81 fun cs18 =>
 Cl k82 101 #[agg cs17,agg cs7] fun k84 r83=>Gt 3 r83 fun cs19 =>
 Cl k84 102 #[agg cs2,agg cs19] fun k86 r85=>Gt 3 r85 fun cs20 =>
 Cl k86 75 #[agg cs2] fun k88 r87=>∃ n21,some (int .i64 n21) = some r87 ∧
 ((decide ((n21 : Int) < 0)) = true →
 (Cl k88 101 #[agg cs14,agg cs20] fun k90 r89=>Gt 3 r89 fun cs22 =>
 Cl k90 101 #[agg cs15,agg cs18] fun k92 r91=>Gt 3 r91 fun cs23 =>
 (∃ b o,A6 = some ⟨b,o,none⟩)∧((0 : Int)≤3∧(3 : Int) < (l6 : Nat)) ∧
 ∃ n24,Sy.ReadAt k92.cell? A6 (Int.toNat 3*1+0) 1 (int .u64 n24) ∧
 Cl k92 136 #[int .u64 n24,int .i64 n4] fun k94 r93=>Gt 3 r93 fun cs25 =>
 Cl k94 102 #[agg cs3,agg cs25] fun k96 r95=>Gt 3 r95 fun cs26 =>
 Cl k96 101 #[agg cs25,agg cs7] fun k98 r97=>Gt 3 r97 fun cs27 =>
 Cl k98 102 #[agg cs3,agg cs27] fun k100 r99=>Gt 3 r99 fun cs28 =>
 Cl k100 75 #[agg cs3] fun k102 r101=>∃ n29,some (int .i64 n29) = some r101 ∧
 ((decide ((n29 : Int) < 0)) = true →
 (Cl k102 101 #[agg cs22,agg cs28] fun k104 r103=>Gt 3 r103 fun cs30 =>
 Cl k104 101 #[agg cs23,agg cs26] fun k106 r105=>Gt 3 r105 fun cs31 =>
 ∀ k107,Up k106 k107→R k107 (tuple #[agg cs30,agg cs31]))) ∧
 ((decide ((n29 : Int) < 0)) = false →
 (Cl k102 101 #[agg cs22,agg cs26] fun k109 r108=>Gt 3 r108 fun cs30 =>
 Cl k109 101 #[agg cs23,agg cs28] fun k111 r110=>Gt 3 r110 fun cs31 =>
 ∀ k112,Up k111 k112→R k112 (tuple #[agg cs30,agg cs31]))))) ∧
 ((decide ((n21 : Int) < 0)) = false →
 (Cl k88 101 #[agg cs14,agg cs18] fun k114 r113=>Gt 3 r113 fun cs22 =>
 Cl k114 101 #[agg cs15,agg cs20] fun k116 r115=>Gt 3 r115 fun cs23 =>
 (∃ b o,A6 = some ⟨b,o,none⟩)∧((0 : Int)≤3∧(3 : Int) < (l6 : Nat)) ∧
 ∃ n24,Sy.ReadAt k116.cell? A6 (Int.toNat 3*1+0) 1 (int .u64 n24) ∧
 Cl k116 136 #[int .u64 n24,int .i64 n4] fun k118 r117=>Gt 3 r117 fun cs25 =>
 Cl k118 102 #[agg cs3,agg cs25] fun k120 r119=>Gt 3 r119 fun cs26 =>
 Cl k120 101 #[agg cs25,agg cs7] fun k122 r121=>Gt 3 r121 fun cs27 =>
 Cl k122 102 #[agg cs3,agg cs27] fun k124 r123=>Gt 3 r123 fun cs28 =>
 Cl k124 75 #[agg cs3] fun k126 r125=>∃ n29,some (int .i64 n29) = some r125 ∧
 ((decide ((n29 : Int) < 0)) = true →
 (Cl k126 101 #[agg cs22,agg cs28] fun k128 r127=>Gt 3 r127 fun cs30 =>
 Cl k128 101 #[agg cs23,agg cs26] fun k130 r129=>Gt 3 r129 fun cs31 =>
 ∀ k131,Up k130 k131→R k131 (tuple #[agg cs30,agg cs31]))) ∧
 ((decide ((n29 : Int) < 0)) = false →
 (Cl k126 101 #[agg cs22,agg cs26] fun k133 r132=>Gt 3 r132 fun cs30 =>
 Cl k133 101 #[agg cs23,agg cs28] fun k135 r134=>Gt 3 r134 fun cs31 =>
 ∀ k136,Up k135 k136→R k136 (tuple #[agg cs30,agg cs31])))))))) :
  CallsG Tryz.prog 113 #[agg (cs0.toList ++ (cs1.toList ++ (cs2.toList ++ (cs3.toList ++ ([]))))).toArray,int .i64 n4] k R :=
  execFn_use (cfg:={ opq:=[40] }) (args:=[.agg [.seg 0 3,.seg 1 3,.seg 2 3,.seg 3 3],.one (.var 4)]) (vals:=[agg cs0,agg cs1,agg cs2,agg cs3,int .i64 n4]) (kinds:=[.seg 3,.seg 3,.seg 3,.seg 3,.int .i64]) (by kernel_rfl) ⟨⟨cs0,rfl,hcs0⟩,⟨⟨cs1,rfl,hcs1⟩,⟨⟨cs2,rfl,hcs2⟩,⟨⟨cs3,rfl,hcs3⟩,⟨⟨_,rfl⟩,trivial⟩⟩⟩⟩⟩ (by kernel_rfl) (by kernel_rfl) h
theorem rsSign_vc {cs0 : Array Value} (hcs0 : Seg 12 cs0)
 (h : Cl k 42 #[agg cs0] fun k1 r0=>∃ b1,some (bool b1) = some r0 ∧
 (b1 = true →
 (∀ k2,Up k1 k2→R k2 (int .i64 0))) ∧
 (b1 = false →
 (∃ I3 : Nat→World→List Value→Prop,(∃ m3,∀ k3,Up k1 k3→I3 m3 k3 [int .i64 16]) ∧
 ∀ m3 k3 vs3,Up k1 k3→I3 m3 k3 vs3→∃ n2,some [int .i64 n2] = some vs3 ∧
 Cl k3 113 #[agg cs0,int .i64 n2] fun k5 r4=>∃ cs3,Seg 3 cs3∧∃ cs4,Seg 3 cs4∧some (tuple #[agg cs3,agg cs4]) = some r4 ∧
 Cl k5 75 #[agg cs3] fun k7 r6=>∃ n5,some (int .i64 n5) = some r6 ∧
 ((decide ((n5 : Int) > 0)) = true →
 (∀ k8,Up k7 k8→R k8 (int .i64 1))) ∧
 ((decide ((n5 : Int) > 0)) = false →
 (Cl k7 75 #[agg cs4] fun k10 r9=>∃ n6,some (int .i64 n6) = some r9 ∧
 ((decide ((n6 : Int) < 0)) = true →
 (∀ k11,Up k10 k11→R k11 (int .i64 (-1)))) ∧
 ((decide ((n6 : Int) < 0)) = false →
 (∀ k12,Up k10 k12→∃ m,m < m3∧I3 m k12 [int .i64 (IntKind.wrap .i64 (2*n2))]))))))) :
   CallsG Tryz.prog 76 #[agg cs0] k R :=
  execFn_use (cfg:={ opq:=[40,42],loops:=[(0,[.tmp 3 false [.int .i64]])] }) (args:=[.agg [.seg 0 12]]) (vals:=[agg cs0]) (kinds:=[.seg 12]) (by kernel_rfl) ⟨⟨cs0,rfl,hcs0⟩,trivial⟩ (by kernel_rfl) (by kernel_rfl) h
theorem rsCmp_vc {cs0 cs1 : Array Value} (hcs0 : Seg 12 cs0) (hcs1 : Seg 12 cs1)
 (h : Cl k 79 #[agg cs0,agg cs1] fun k1 r0=>Gt 12 r0 fun cs2 =>
 Cl k1 76 #[agg cs2] fun k3 r2=>∃ n3,some (int .i64 n3) = some r2 ∧
 ∀ k4,Up k3 k4→R k4 (int .i64 n3)) :
  CallsG Tryz.prog 40 #[agg cs0,agg cs1] k R :=
  execFn_use (cfg:={ opq:=[42] }) (args:=[.agg [.seg 0 12],.agg [.seg 1 12]]) (vals:=[agg cs0,agg cs1]) (kinds:=[.seg 12,.seg 12]) (by kernel_rfl) ⟨⟨cs0,rfl,hcs0⟩,⟨⟨cs1,rfl,hcs1⟩,trivial⟩⟩ (by kernel_rfl) (by kernel_rfl) h
end Go.Proofs.YtmilhgkacmofmaaGreat

namespace Go.Proofs.YtmilhgkacmofmaaGreat.W32
open Go.RowKit Num
open Sy (Up Sees CallsG Seg)
theorem am_gm (x p : Nat) : 4*(p*x)≤(x+p)*(x+p):=by
 rcases Nat.le_total x p with h | h
 ·obtain ⟨d,rfl⟩:=Nat.exists_eq_add_of_le h
  have e : (x+(x+d))*(x+(x+d)) = 4*((x+d)*x)+d*d:=by grind
  omega
 ·obtain ⟨d,rfl⟩:=Nat.exists_eq_add_of_le h
  have e : (p+d+p)*(p+d+p) = 4*(p*(p+d))+d*d:=by grind
  omega
theorem newton_lo {a x : Nat} (hx : 0 < x) : a < ((x+a / x) / 2+1)*((x+a / x) / 2+1):=by
 have hq : a < (a / x+1)*x:=by rw [Nat.mul_comm]; exact Nat.lt_mul_div_succ a hx
 generalize a / x = q at hq ⊢
 generalize hy : (x+q) / 2 = y
 have h1 : x+(q+1)≤2*(y+1):=by omega
 have h2:=am_gm x (q+1)
 have h3:=Nat.mul_le_mul h1 h1
 have h4 : 2*(y+1)*(2*(y+1)) = 4*((y+1)*(y+1)):=by grind
 omega
theorem newton_stop {a x : Nat} (hx : 0 < x) (h : x≤(x+a / x) / 2) : x*x≤a:=by
 have hq : x≤a / x:=by omega
 exact (Nat.le_div_iff_mul_le hx).1 hq
section
variable {k k' : World} {A A' : Option Addr} {n c m n' c' m' a b l l' : Nat} {cs cs' : Array Value} {R : World→Value→Prop} {x y q : Rat} {K L : Nat}
theorem half_bits {b : Nat} (hb : b≤1000000000000) : IntKind.wrap .i64 (Int.tdiv (IntKind.wrap .i64 ((b : Nat)+1)) 2) = (((b+1) / 2 : Nat) : Int):=by
 have h1 : IntKind.wrap .i64 (((b : Nat) : Int)+1) = ((b+1 : Nat) : Int):=by rw [IntKind.wrap_i64]; omega
 rw [h1,Int.tdiv_eq_ediv_of_nonneg (by omega),IntKind.wrap_i64]
 omega
theorem root_s (h : NatN k A n c a) (hn : n≤10000000000) (C : ∀ k' A c r,Up k k'→r*r≤a→a < (r+1)*(r+1)→NatN k' A (nw r) c r→R k' (.slice A (nw r) c)) :
 Cl k 150 #[.slice A n c] R:=by
 intro k0 u0
 replace h:=h.up u0
 replace C:=fun k' A c r u=>C k' A c r (u0.trans u)
 refine nroot_vc ⟨rfl,fun h0=>fun k1 u1=>?_,fun h0=>?_⟩
 ·have hn0 : n = 0:=by have:=eq_of_beq h0; omega
  have ha:=h.zero.1 hn0
  have:=C k1 none 0 0 u1 (by omega) (by omega) (by rw [nw_zero]; exact NatN.none k1)
  rw [nw_zero] at this
  exact this
 ·have hn0 : n ≠ 0:=fun e=>by rw [e] at h0; exact absurd h0 (by decide)
  have ha : 0 < a:=Nat.pos_of_ne_zero fun e=>hn0 (h.zero.2 e)
  have hlt : a < 2 ^ (32*n):=by
   have:=h.1.lt
   rw [B_eq,← Nat.pow_mul] at this
   exact this
  have hbl : bl a≤32*n:=bl_le.2 hlt
  refine bits_s h (by omega) fun k2 u2=>⟨_,rfl,?_⟩
  intro p k3 u3 hp
  rw [half_bits (by omega)]
  refine raised_s (k:=k3) (s:=(bl a+1) / 2) (one_of hp) (by decide) (by omega) fun k5 A3 c3 u5 h3=>⟨A3,_,c3,rfl,?_⟩
  have hx0 : a < 2 ^ ((bl a+1) / 2)*2 ^ ((bl a+1) / 2):=by
   rw [← Nat.pow_add]
   exact Nat.lt_of_lt_of_le (lt_bl a) (Nat.pow_le_pow_right (by decide) (by omega))
  have hX : nw (1*2 ^ ((bl a+1) / 2))≤n+1:=by
   refine nw_le_of ?_
   rw [Nat.one_mul,B_eq,← Nat.pow_mul]
   exact Nat.pow_lt_pow_right (by decide) (by omega)
  generalize hXe : 1*2 ^ ((bl a+1) / 2) = X at h3 hX
  have hXX : 2 ^ ((bl a+1) / 2) = X:=by rw [← hXe,Nat.one_mul]
  rw [hXX] at hx0
  have hXp : 0 < X:=by rw [← hXX]; exact Nat.pow_pos (by decide)
  clear hXe hXX
  replace h:=((h.up u2).up u3).up u5
  replace C:=fun k' A c r u=>C k' A c r (((u2.trans u3).trans u5).trans u)
  refine ⟨fun m k' vs=>∃ A x c,m = x∧vs = [.slice A (nw x) c]∧NatN k' A (nw x) c x∧0 < x∧a < (x+1)*(x+1)∧x≤X,⟨X,fun k' u=>⟨A3,X,c3,rfl,rfl,h3.up u,hXp,Nat.lt_trans hx0 (Nat.mul_lt_mul'' (by omega) (by omega)),Nat.le_refl _⟩⟩,?_⟩
  rintro m k6 vs u6 ⟨A4,x,c4,rfl,rfl,hx,hx0,hxa,hxX⟩
  have hnx:=nw_mono hxX
  refine ⟨A4,_,c4,rfl,?_⟩
  refine quotient_s (h.up u6) hx (by omega) (by omega) hx0 fun k8 A5 c5 A6 c6 u8 hq hr=>⟨A5,_,c5,A6,_,c6,rfl,?_⟩
  have hnq:=nw_mono (Nat.div_le_self a m)
  have hna:=h.2
  refine sum_s (K:=n+1) (hx.1.up u8) hq.1 (by omega) (by omega) (by omega) fun k10 A7 c7 u10 hs hsl=>⟨A7,_,c7,rfl,?_⟩
  refine lowered_s (s:=1) hs (by omega) (by omega) fun k12 A8 c8 u12 hl=>⟨A8,_,c8,rfl,?_⟩
  have hny:=nw_mono (Nat.div_le_self (m+a / m) (2 ^ 1))
  refine order_s hl (((hx.up u8).up u10).up u12) (by omega) (by omega) fun k14 u14=>⟨_,rfl,fun ho=>?_,fun ho=>?_⟩
  ·have ho:=ord_ge ho
   intro k15 u15
   have v:=(((u8.trans u10).trans u12).trans u14).trans u15
   exact C k15 A4 c4 m (u6.trans v) (newton_stop hx0 ho) hxa (hx.up v)
  ·have ho:=ord_nge ho
   intro k16 u16
   have hlo:=newton_lo (a:=a) hx0
   refine ⟨_,ho,A8,_,c8,rfl,rfl,(hl.up u14).up u16,?_,hlo,by omega⟩
   refine Nat.pos_of_ne_zero fun e=>?_
   have e : (m+a / m) / 2 = 0:=e
   rw [e] at hlo
   omega
end
end Go.Proofs.YtmilhgkacmofmaaGreat.W32

namespace Go.Proofs.YtmilhgkacmofmaaGreat
open Num Plain
def nn (x : Q4) : Prop:=0≤C.sg x.toQ
theorem nn_add {x y : Q4} (hx : nn x) (hy : nn y) : nn (x.add y):=by
 unfold nn at *
 rw [toQ_add]
 rcases C.sg_cases x.toQ with ⟨e,h⟩ | ⟨e,h⟩ | ⟨e,h⟩
 ·rw [h,show (0 : Q23)+y.toQ = y.toQ by generalize y.toQ = q; refine Q23.ext' (Q2.ext' ?_ ?_) (Q2.ext' ?_ ?_) <;> (simp only [Q23.add_re,Q23.add_im,Q23.zero_re,Q23.zero_im,Q2.add_re,Q2.add_im,Q2.zero_re,Q2.zero_im]; grind)]
  exact hy
 ·rcases C.sg_cases y.toQ with ⟨e',h'⟩ | ⟨e',h'⟩ | ⟨e',h'⟩
  ·rw [h',show x.toQ+(0 : Q23) = x.toQ by generalize x.toQ = q; refine Q23.ext' (Q2.ext' ?_ ?_) (Q2.ext' ?_ ?_) <;> (simp only [Q23.add_re,Q23.add_im,Q23.zero_re,Q23.zero_im,Q2.add_re,Q2.add_im,Q2.zero_re,Q2.zero_im]; grind)]
   exact hx
  ·rw [C.sg_pos (C.add h h')]; decide
  ·omega
 ·omega
theorem pos_nn {x y : Q4} (hx : C.sg x.toQ = 1) (hy : nn y) : C.sg (x.add y).toQ = 1:=by
 unfold nn at hy
 rw [toQ_add]
 rcases C.sg_cases x.toQ with ⟨e,h⟩ | ⟨e,h⟩ | ⟨e,h⟩
 ·omega
 ·rcases C.sg_cases y.toQ with ⟨e',h'⟩ | ⟨e',h'⟩ | ⟨e',h'⟩
  ·rw [h',show x.toQ+(0 : Q23) = x.toQ by generalize x.toQ = q; refine Q23.ext' (Q2.ext' ?_ ?_) (Q2.ext' ?_ ?_) <;> (simp only [Q23.add_re,Q23.add_im,Q23.zero_re,Q23.zero_im,Q2.add_re,Q2.add_im,Q2.zero_re,Q2.zero_im]; grind)]
   exact hx
  ·exact C.sg_pos (C.add h h')
  ·omega
 ·omega
theorem sg3_nn {s t : Int} (hs : s = 0∨s = 1∨s = -1) (ht : t = 0∨t = 1∨t = -1) (h : 0≤s) (h' : 0≤t) : 0≤s*t:=by
 rcases hs with rfl | rfl | rfl <;> rcases ht with rfl | rfl | rfl <;> simp_all
theorem nn_mul {x y : Q4} (hx : nn x) (hy : nn y) : nn (x.mul y):=by
 unfold nn at *
 rw [toQ_mul,C.sg_mul]
 exact sg3_nn (C.sg_three _) (C.sg_three _) hx hy
theorem nn_of_mul {x y : Q4} (h : nn (x.mul y)) (hy : C.sg y.toQ = 1) : nn x:=by
 unfold nn at *
 rw [toQ_mul,C.sg_mul,hy,Int.mul_one] at h
 exact h
def sg2G (a b : Rat) : Int:=weighI a.num.sign b.num.sign (a*a - 2*(b*b)).num.sign
theorem sg2G_eq (a b : Rat) : B.sg (⟨a,b⟩ : Q2) = sg2G a b:=by rw [← sg_q2,sgRat,sgRat,sgRat]; rfl
def sgG (v : Q4) : Int:=weighI (sg2G v.a v.b) (sg2G v.c v.d) (sg2G (v.a*v.a+2*(v.b*v.b) - 3*(v.c*v.c+2*(v.d*v.d))) (v.a*v.b+v.b*v.a - 3*(v.c*v.d+v.d*v.c)))
theorem sgG_eq (v : Q4) : C.sg v.toQ = sgG v:=by
 unfold Q4.toQ e4
 rw [← sg_q23,sg2G_eq,sg2G_eq]
 have e : (⟨v.a,v.b⟩ : Q2)*⟨v.a,v.b⟩ - 3*((⟨v.c,v.d⟩ : Q2)*⟨v.c,v.d⟩) = ⟨v.a*v.a+2*(v.b*v.b) - 3*(v.c*v.c+2*(v.d*v.d)),v.a*v.b+v.b*v.a - 3*(v.c*v.d+v.d*v.c)⟩:=by
  refine Q2.ext' ?_ ?_ <;> simp only [Q2.sub_re,Q2.sub_im,Q2.mul_re,Q2.mul_im,Q2.three_re,Q2.three_im] <;> grind
 rw [e,sg2G_eq]
 rfl
def w2 : Q4:=⟨0,1,0,0⟩
def w3 : Q4:=⟨0,0,1,0⟩
def w6 : Q4:=⟨0,0,0,1⟩
theorem w2_pos : C.sg w2.toQ = 1:=by rw [sgG_eq]; decide +kernel
theorem w3_pos : C.sg w3.toQ = 1:=by rw [sgG_eq]; decide +kernel
theorem w6_pos : C.sg w6.toQ = 1:=by rw [sgG_eq]; decide +kernel
theorem w2_sq : w2.mul w2 = Q4.real 2:=by decide +kernel
theorem w3_sq : w3.mul w3 = Q4.real 3:=by decide +kernel
theorem w6_sq : w6.mul w6 = Q4.real 6:=by decide +kernel
theorem real_sg (q : Rat) : C.sg (Q4.real q).toQ = q.num.sign:=by
 unfold Q4.real Q4.toQ e4
 have h0 : B.sg (⟨0,0⟩ : Q2) = 0:=B.sg_zero
 rw [← sg_q23,h0,sg2G_eq]
 show weighI (sg2G q 0) 0 _ = _
 have h1 : sg2G q 0 = q.num.sign:=by
  unfold sg2G weighI
  rw [show (0 : Rat).num.sign = 0 from rfl]
  split <;> rename_i h
  ·rfl
  ·rw [if_pos rfl]
 rw [h1]
 unfold weighI
 split <;> rename_i h
 ·rfl
 ·rw [if_pos rfl]
theorem nn_real {q : Rat} (h : 0≤q) : nn (Q4.real q):=by
 unfold nn
 rw [real_sg]
 have:=Rat.num_nonneg.2 h
 rcases Int.lt_or_eq_of_le this with h | h
 ·rw [Int.sign_eq_one_of_pos h]; decide
 ·rw [← h]; decide
theorem real_nn {q : Rat} (h : nn (Q4.real q)) : 0≤q:=by
 unfold nn at h
 rw [real_sg] at h
 exact Rat.num_nonneg.1 (Int.sign_nonneg_iff.1 h)
theorem real_pos {q : Rat} (h : 0 < q) : C.sg (Q4.real q).toQ = 1:=by
 rw [real_sg]
 exact Int.sign_eq_one_of_pos (num_pos h)
theorem sq_e (w : Q4) (r n : Rat) (h : w.mul w = Q4.real n) : (w.sub (Q4.real r)).mul (w.add (Q4.real r)) = Q4.real (n - r*r):=by
 have e : (w.sub (Q4.real r)).mul (w.add (Q4.real r)) = (w.mul w).sub (Q4.real (r*r)):=by
  obtain ⟨a,b,c,d⟩:=w
  refine Q4.ext' ?_ ?_ ?_ ?_ <;> simp only [Q4.mul,Q4.sub,Q4.add,Q4.neg,Q4.real] <;> grind
 rw [e,h]
 refine Q4.ext' ?_ ?_ ?_ ?_ <;> simp only [Q4.sub,Q4.add,Q4.neg,Q4.real] <;> grind
theorem sq_e' (w : Q4) (r n : Rat) (h : w.mul w = Q4.real n) : ((Q4.real r).sub w).mul (w.add (Q4.real r)) = Q4.real (r*r - n):=by
 have e : ((Q4.real r).sub w).mul (w.add (Q4.real r)) = (Q4.real (r*r)).sub (w.mul w):=by
  obtain ⟨a,b,c,d⟩:=w
  refine Q4.ext' ?_ ?_ ?_ ?_ <;> simp only [Q4.mul,Q4.sub,Q4.add,Q4.neg,Q4.real] <;> grind
 rw [e,h]
 refine Q4.ext' ?_ ?_ ?_ ?_ <;> simp only [Q4.sub,Q4.add,Q4.neg,Q4.real] <;> grind
section
variable {w x : Q4} {n r s p : Rat}
theorem root_lo (hw : C.sg w.toQ = 1) (hs : w.mul w = Q4.real n) (h0 : 0≤r) (h : r*r≤n) : nn (w.sub (Q4.real r)):=by
 refine nn_of_mul ?_ (pos_nn hw (nn_real h0))
 rw [sq_e w r n hs]
 exact nn_real (by grind)
theorem root_hi (hw : C.sg w.toQ = 1) (hs : w.mul w = Q4.real n) (h0 : 0≤s) (h : n≤s*s) : nn ((Q4.real s).sub w):=by
 refine nn_of_mul ?_ (pos_nn hw (nn_real h0))
 rw [sq_e' w s n hs]
 exact nn_real (by grind)
def loT (p r s : Rat) : Rat:=if p < 0 then p*s else p*r
def hiT (p r s : Rat) : Rat:=if p < 0 then p*r else p*s
def absR (p : Rat) : Rat:=if p < 0 then -p else p
theorem hi_lo (p r e : Rat) : hiT p r (r+e) - loT p r (r+e) = absR p*e:=by unfold hiT loT absR; split <;> grind
theorem nn_cast {x y : Q4} (h : nn x) (e : x = y) : nn y:=e ▸ h
theorem term_lo (h1 : nn (w.sub (Q4.real r))) (h2 : nn ((Q4.real s).sub w)) : nn (((Q4.real p).mul w).sub (Q4.real (loT p r s))):=by
 unfold loT
 split <;> rename_i hp
 ·refine nn_cast (nn_mul (nn_real (q:=-p) (by grind)) h2) ?_
  refine Q4.ext' ?_ ?_ ?_ ?_ <;> simp only [Q4.mul,Q4.sub,Q4.add,Q4.neg,Q4.real] <;> grind
 ·refine nn_cast (nn_mul (nn_real (q:=p) (by grind)) h1) ?_
  refine Q4.ext' ?_ ?_ ?_ ?_ <;> simp only [Q4.mul,Q4.sub,Q4.add,Q4.neg,Q4.real] <;> grind
theorem term_hi (h1 : nn (w.sub (Q4.real r))) (h2 : nn ((Q4.real s).sub w)) : nn ((Q4.real (hiT p r s)).sub ((Q4.real p).mul w)):=by
 unfold hiT
 split <;> rename_i hp
 ·refine nn_cast (nn_mul (nn_real (q:=-p) (by grind)) h1) ?_
  refine Q4.ext' ?_ ?_ ?_ ?_ <;> simp only [Q4.mul,Q4.sub,Q4.add,Q4.neg,Q4.real] <;> grind
 ·refine nn_cast (nn_mul (nn_real (q:=p) (by grind)) h2) ?_
  refine Q4.ext' ?_ ?_ ?_ ?_ <;> simp only [Q4.mul,Q4.sub,Q4.add,Q4.neg,Q4.real] <;> grind
structure Apx (w : Q4) (r s : Rat) : Prop where
 lo : nn (w.sub (Q4.real r))
 hi : nn ((Q4.real s).sub w)
def loB (x : Q4) (r2 s2 r3 s3 r6 s6 : Rat) : Rat:=x.a+loT x.b r2 s2+loT x.c r3 s3+loT x.d r6 s6
def hiB (x : Q4) (r2 s2 r3 s3 r6 s6 : Rat) : Rat:=x.a+hiT x.b r2 s2+hiT x.c r3 s3+hiT x.d r6 s6
variable {r2 s2 r3 s3 r6 s6 : Rat}
theorem parts_e (x : Q4) (l m n : Rat) : ((((Q4.real x.b).mul w2).sub (Q4.real l)).add (((Q4.real x.c).mul w3).sub (Q4.real m))).add (((Q4.real x.d).mul w6).sub (Q4.real n)) = x.sub (Q4.real (x.a+l+m+n)):=by
 refine Q4.ext' ?_ ?_ ?_ ?_ <;> simp only [Q4.mul,Q4.sub,Q4.add,Q4.neg,Q4.real,w2,w3,w6] <;> grind
theorem parts_e' (x : Q4) (l m n : Rat) : (((Q4.real l).sub ((Q4.real x.b).mul w2)).add ((Q4.real m).sub ((Q4.real x.c).mul w3))).add ((Q4.real n).sub ((Q4.real x.d).mul w6)) = (Q4.real (x.a+l+m+n)).sub x:=by
 refine Q4.ext' ?_ ?_ ?_ ?_ <;> simp only [Q4.mul,Q4.sub,Q4.add,Q4.neg,Q4.real,w2,w3,w6] <;> grind
theorem bounds_lo (x : Q4) (h2 : Apx w2 r2 s2) (h3 : Apx w3 r3 s3) (h6 : Apx w6 r6 s6) : nn (x.sub (Q4.real (loB x r2 s2 r3 s3 r6 s6))) :=
 nn_cast (nn_add (nn_add (term_lo h2.lo h2.hi) (term_lo h3.lo h3.hi)) (term_lo h6.lo h6.hi)) (parts_e x _ _ _)
theorem bounds_hi (x : Q4) (h2 : Apx w2 r2 s2) (h3 : Apx w3 r3 s3) (h6 : Apx w6 r6 s6) : nn ((Q4.real (hiB x r2 s2 r3 s3 r6 s6)).sub x) :=
 nn_cast (nn_add (nn_add (term_hi h2.lo h2.hi) (term_hi h3.lo h3.hi)) (term_hi h6.lo h6.hi)) (parts_e' x _ _ _)
theorem bounds_gap (x : Q4) (e : Rat) : hiB x r2 (r2+e) r3 (r3+e) r6 (r6+e) - loB x r2 (r2+e) r3 (r3+e) r6 (r6+e) = (absR x.b+absR x.c+absR x.d)*e:=by
 have h1:=hi_lo x.b r2 e
 have h2:=hi_lo x.c r3 e
 have h3:=hi_lo x.d r6 e
 unfold hiB loB
 grind
theorem sg_of_lo {lo : Rat} (h : nn (x.sub (Q4.real lo))) (hl : 0 < lo) : C.sg x.toQ = 1:=by
 have:=pos_nn (real_pos hl) h
 rwa [show (Q4.real lo).add (x.sub (Q4.real lo)) = x by refine Q4.ext' ?_ ?_ ?_ ?_ <;> simp only [Q4.sub,Q4.add,Q4.neg,Q4.real] <;> grind] at this
theorem sg_of_hi {hi : Rat} (h : nn ((Q4.real hi).sub x)) (hl : hi < 0) : C.sg x.toQ = -1:=by
 have:=pos_nn (real_pos (q:=-hi) (by grind)) h
 rw [show (Q4.real (-hi)).add ((Q4.real hi).sub x) = x.neg by refine Q4.ext' ?_ ?_ ?_ ?_ <;> simp only [Q4.sub,Q4.add,Q4.neg,Q4.real] <;> grind,toQ_neg,C.sg_minus] at this
 omega
end
def ab (u : Q4) (c : Rat) : Prop:=nn ((Q4.real c).sub u)∧nn ((Q4.real c).add u)
theorem nn_half {x : Q4} (h : nn ((Q4.real 2).mul x)) : nn x:=by
 unfold nn at *
 rw [toQ_mul,C.sg_mul,real_pos (by decide),Int.one_mul] at h
 exact h
section
variable {u v : Q4} {c d : Rat}
theorem ab_mul (h : ab u c) (h' : ab v d) : ab (u.mul v) (c*d):=by
 constructor
 ·refine nn_half (nn_cast (nn_add (nn_mul h.1 h'.2) (nn_mul h.2 h'.1)) ?_)
  refine Q4.ext' ?_ ?_ ?_ ?_ <;> simp only [Q4.mul,Q4.sub,Q4.add,Q4.neg,Q4.real] <;> grind
 ·refine nn_half (nn_cast (nn_add (nn_mul h.1 h'.1) (nn_mul h.2 h'.2)) ?_)
  refine Q4.ext' ?_ ?_ ?_ ?_ <;> simp only [Q4.mul,Q4.sub,Q4.add,Q4.neg,Q4.real] <;> grind
theorem ab_add (h : ab u c) (h' : ab v d) : ab (u.add v) (c+d):=by
 constructor
 ·refine nn_cast (nn_add h.1 h'.1) ?_
  refine Q4.ext' ?_ ?_ ?_ ?_ <;> simp only [Q4.sub,Q4.add,Q4.neg,Q4.real] <;> grind
 ·refine nn_cast (nn_add h.2 h'.2) ?_
  refine Q4.ext' ?_ ?_ ?_ ?_ <;> simp only [Q4.add,Q4.real] <;> grind
theorem ab_real {q : Rat} (h1 : -c≤q) (h2 : q≤c) : ab (Q4.real q) c:=by
 constructor
 ·refine nn_cast (nn_real (q:=c - q) (by grind)) ?_
  refine Q4.ext' ?_ ?_ ?_ ?_ <;> simp only [Q4.sub,Q4.add,Q4.neg,Q4.real] <;> grind
 ·refine nn_cast (nn_real (q:=c+q) (by grind)) ?_
  refine Q4.ext' ?_ ?_ ?_ ?_ <;> simp only [Q4.add,Q4.real] <;> grind
theorem real_ab {q : Rat} (h : ab (Q4.real q) c) : -c≤q∧q≤c:=by
 have h1:=real_nn (nn_cast (y:=Q4.real (c - q)) h.1 (by refine Q4.ext' ?_ ?_ ?_ ?_ <;> simp only [Q4.sub,Q4.add,Q4.neg,Q4.real] <;> grind))
 have h2:=real_nn (nn_cast (y:=Q4.real (c+q)) h.2 (by refine Q4.ext' ?_ ?_ ?_ ?_ <;> simp only [Q4.add,Q4.real] <;> grind))
 constructor <;> grind
theorem ab_root {w : Q4} {n : Rat} (hw : C.sg w.toQ = 1) (hs : w.mul w = Q4.real n) (h0 : 0≤c) (h : n≤c*c) : ab w c:=by
 refine ⟨root_hi hw hs h0 h,?_⟩
 have:=pos_nn hw (nn_real h0)
 unfold nn
 rw [show (Q4.real c).add w = w.add (Q4.real c) by refine Q4.ext' ?_ ?_ ?_ ?_ <;> simp only [Q4.add,Q4.real] <;> grind,this]
 decide
theorem whole_e (x : Q4) : (((Q4.real x.a).add ((Q4.real x.b).mul w2)).add ((Q4.real x.c).mul w3)).add ((Q4.real x.d).mul w6) = x:=by
 refine Q4.ext' ?_ ?_ ?_ ?_ <;> simp only [Q4.mul,Q4.add,Q4.real,w2,w3,w6] <;> grind
theorem ab_parts {x : Q4} {M : Rat} (a1 : -M≤x.a) (a2 : x.a≤M) (b1 : -M≤x.b) (b2 : x.b≤M) (c1 : -M≤x.c) (c2 : x.c≤M) (d1 : -M≤x.d) (d2 : x.d≤M) : ab x (8*M):=by
 have h:=ab_add (ab_add (ab_add (ab_real a1 a2) (ab_mul (ab_real b1 b2) (ab_root w2_pos w2_sq (c:=2) (by decide) (by decide +kernel)))) (ab_mul (ab_real c1 c2) (ab_root w3_pos w3_sq (c:=2) (by decide) (by decide +kernel)))) (ab_mul (ab_real d1 d2) (ab_root w6_pos w6_sq (c:=3) (by decide) (by decide +kernel)))
 rw [whole_e,show M+M*2+M*2+M*3 = 8*M by grind] at h
 exact h
theorem ab_cnj {x : Q4} {M : Rat} (a1 : -M≤x.a) (a2 : x.a≤M) (b1 : -M≤x.b) (b2 : x.b≤M) (c1 : -M≤x.c) (c2 : x.c≤M) (d1 : -M≤x.d) (d2 : x.d≤M) : ab x.cnj (8*M*(8*M)*(8*M)):=by
 unfold Q4.cnj
 refine ab_mul (ab_mul (ab_parts ?_ ?_ ?_ ?_ ?_ ?_ ?_ ?_) (ab_parts ?_ ?_ ?_ ?_ ?_ ?_ ?_ ?_)) (ab_parts ?_ ?_ ?_ ?_ ?_ ?_ ?_ ?_) <;> simp only [Q4.t1,Q4.t2] <;> grind
end
def isI (q : Rat) : Prop:=∃ n : Int,q = n
theorem isI.add {p q : Rat} (h : isI p) (h' : isI q) : isI (p+q):=by obtain ⟨m,rfl⟩:=h; obtain ⟨n,rfl⟩:=h'; exact ⟨m+n,(Rat.intCast_add m n).symm⟩
theorem isI.mul {p q : Rat} (h : isI p) (h' : isI q) : isI (p*q):=by obtain ⟨m,rfl⟩:=h; obtain ⟨n,rfl⟩:=h'; exact ⟨m*n,(Rat.intCast_mul m n).symm⟩
theorem isI.neg {p : Rat} (h : isI p) : isI (-p):=by obtain ⟨m,rfl⟩:=h; exact ⟨-m,(Rat.intCast_neg m).symm⟩
theorem isI_two : isI 2:=⟨2,rfl⟩
theorem isI_three : isI 3:=⟨3,rfl⟩
theorem isI_six : isI 6:=⟨6,rfl⟩
structure isI4 (x : Q4) : Prop where
 a : isI x.a
 b : isI x.b
 c : isI x.c
 d : isI x.d
theorem isI4.mul {x y : Q4} (h : isI4 x) (g : isI4 y) : isI4 (x.mul y) where
 a:=(((h.a.mul g.a).add (isI_two.mul (h.b.mul g.b))).add (isI_three.mul (h.c.mul g.c))).add (isI_six.mul (h.d.mul g.d))
 b:=((h.a.mul g.b).add (h.b.mul g.a)).add (isI_three.mul ((h.c.mul g.d).add (h.d.mul g.c)))
 c:=((h.a.mul g.c).add (h.c.mul g.a)).add (isI_two.mul ((h.b.mul g.d).add (h.d.mul g.b)))
 d:=(((h.a.mul g.d).add (h.d.mul g.a)).add (h.b.mul g.c)).add (h.c.mul g.b)
theorem isI4.t1 {x : Q4} (h : isI4 x) : isI4 x.t1:=⟨h.a,h.b.neg,h.c,h.d.neg⟩
theorem isI4.t2 {x : Q4} (h : isI4 x) : isI4 x.t2:=⟨h.a,h.b,h.c.neg,h.d.neg⟩
theorem isI4.cnj {x : Q4} (h : isI4 x) : isI4 x.cnj:=(h.t1.mul h.t2).mul h.t1.t2
theorem scale_mul (s t : Rat) (x y : Q4) : ((Q4.real s).mul x).mul ((Q4.real t).mul y) = (Q4.real (s*t)).mul (x.mul y):=by
 refine Q4.ext' ?_ ?_ ?_ ?_ <;> simp only [Q4.mul,Q4.real] <;> grind
theorem scale_t1 (s : Rat) (x : Q4) : ((Q4.real s).mul x).t1 = (Q4.real s).mul x.t1:=by
 refine Q4.ext' ?_ ?_ ?_ ?_ <;> simp only [Q4.mul,Q4.real,Q4.t1] <;> grind
theorem scale_t2 (s : Rat) (x : Q4) : ((Q4.real s).mul x).t2 = (Q4.real s).mul x.t2:=by
 refine Q4.ext' ?_ ?_ ?_ ?_ <;> simp only [Q4.mul,Q4.real,Q4.t2] <;> grind
theorem scale_cnj (s : Rat) (x : Q4) : ((Q4.real s).mul x).cnj = (Q4.real (s*s*s)).mul x.cnj:=by
 unfold Q4.cnj
 rw [scale_t1,scale_t2,scale_t2,scale_mul,scale_mul]
theorem scale_norm (s : Rat) (x : Q4) : (((Q4.real s).mul x).mul ((Q4.real s).mul x).cnj).a = s*(s*s*s)*(x.mul x.cnj).a:=by
 rw [scale_cnj,scale_mul]
 generalize x.mul x.cnj = y
 simp only [Q4.mul,Q4.real]
 grind
theorem norm_real (x : Q4) : x.mul x.cnj = Q4.real (x.mul x.cnj).a:=by
 obtain ⟨h1,h2,h3⟩:=x.cnj_norm
 exact Q4.ext' rfl h1 h2 h3
theorem den_mul (q : Rat) : isI ((q.den : Rat)*q):=⟨q.num,by rw [Rat.mul_comm]; exact mul_den_num q⟩
theorem isI_nat (n : Nat) : isI (n : Rat):=⟨n,by rw [Rat.intCast_natCast]⟩
theorem num_ab (q : Rat) {M : Nat} (h : q.num.natAbs≤M) : -(M : Rat)≤q∧q≤(M : Rat):=by
 have hd : (1 : Rat)≤(q.den : Rat):=by
  have:=q.den_pos
  have h1 : ((1 : Nat) : Rat)≤(q.den : Rat):=Rat.natCast_le_natCast.2 this
  exact h1
 have e:=mul_den_num q
 have h1 : (q.num : Rat)≤((M : Int) : Rat):=Rat.intCast_le_intCast.2 (by omega)
 have h2 : ((-(M : Int) : Int) : Rat)≤(q.num : Rat):=Rat.intCast_le_intCast.2 (by omega)
 rw [Rat.intCast_neg,Rat.intCast_natCast] at h2
 rw [Rat.intCast_natCast] at h1
 have hM : (0 : Rat)≤(M : Rat):=Rat.natCast_nonneg
 constructor
 ·refine Rat.not_lt.1 fun hq=>?_
  have h3 : q*(q.den : Rat)≤q*1:=by
   have:=Rat.mul_le_mul_of_nonneg_left hd (c:=-q) (by grind)
   grind
  grind
 ·refine Rat.not_lt.1 fun hq=>?_
  have h3 : q*1≤q*(q.den : Rat):=Rat.mul_le_mul_of_nonneg_left hd (by grind)
  grind
structure Parts4 (x : Q4) (M : Nat) : Prop where
 a : x.a.num.natAbs≤M∧x.a.den≤M
 b : x.b.num.natAbs≤M∧x.b.den≤M
 c : x.c.num.natAbs≤M∧x.c.den≤M
 d : x.d.num.natAbs≤M∧x.d.den≤M
theorem absR_le {p : Rat} {M : Nat} (h : p.num.natAbs≤M) : absR p≤(M : Rat):=by
 obtain ⟨h1,h2⟩:=num_ab p h
 unfold absR
 split <;> grind
theorem norm_whole (x : Q4) {M : Nat} (h : Parts4 x M) : ∃ D : Nat,0 < D∧D≤M*M*M*M∧isI ((D : Rat)*((D : Rat)*(D : Rat)*(D : Rat))*(x.mul x.cnj).a):=by
 refine ⟨x.a.den*x.b.den*x.c.den*x.d.den,?_,?_,?_⟩
 ·exact Nat.mul_pos (Nat.mul_pos (Nat.mul_pos x.a.den_pos x.b.den_pos) x.c.den_pos) x.d.den_pos
 ·exact Nat.mul_le_mul (Nat.mul_le_mul (Nat.mul_le_mul h.a.2 h.b.2) h.c.2) h.d.2
 ·rw [← scale_norm]
  have h4 : isI4 ((Q4.real ((x.a.den*x.b.den*x.c.den*x.d.den : Nat) : Rat)).mul x):=by
   have ha:=den_mul x.a
   have hb:=den_mul x.b
   have hc:=den_mul x.c
   have hd:=den_mul x.d
   have na:=isI_nat x.a.den
   have nb:=isI_nat x.b.den
   have nc:=isI_nat x.c.den
   have nd:=isI_nat x.d.den
   rw [Rat.natCast_mul,Rat.natCast_mul,Rat.natCast_mul]
   generalize (x.a.den : Rat) = p at *
   generalize (x.b.den : Rat) = q at *
   generalize (x.c.den : Rat) = r at *
   generalize (x.d.den : Rat) = s at *
   constructor
   ·have:=((ha.mul nb).mul nc).mul nd
    rwa [show p*x.a*q*r*s = ((Q4.real (p*q*r*s)).mul x).a by simp only [Q4.mul,Q4.real]; grind] at this
   ·have:=((hb.mul na).mul nc).mul nd
    rwa [show q*x.b*p*r*s = ((Q4.real (p*q*r*s)).mul x).b by simp only [Q4.mul,Q4.real]; grind] at this
   ·have:=((hc.mul na).mul nb).mul nd
    rwa [show r*x.c*p*q*s = ((Q4.real (p*q*r*s)).mul x).c by simp only [Q4.mul,Q4.real]; grind] at this
   ·have:=((hd.mul na).mul nb).mul nc
    rwa [show s*x.d*p*q*r = ((Q4.real (p*q*r*s)).mul x).d by simp only [Q4.mul,Q4.real]; grind] at this
  exact (h4.mul h4.cnj).a
theorem isI_ge {q : Rat} (h : isI q) (h0 : q ≠ 0) : q≤-1∨1≤q:=by
 obtain ⟨n,rfl⟩:=h
 have hn : n ≠ 0:=fun e=>h0 (by rw [e]; rfl)
 rcases Int.lt_or_gt_of_ne hn with h | h
 ·left
  have : ((n : Int) : Rat)≤((-1 : Int) : Rat):=Rat.intCast_le_intCast.2 (by omega)
  exact this
 ·right
  have : ((1 : Int) : Rat)≤((n : Int) : Rat):=Rat.intCast_le_intCast.2 (by omega)
  exact this
theorem bounds_end {x : Q4} {M : Nat} {lo hi e : Rat} (hx : x ≠ Q4.zero) (hp : Parts4 x M) (he : 0≤e) (hl : nn (x.sub (Q4.real lo))) (hh : nn ((Q4.real hi).sub x))
 (hg : hi - lo = (absR x.b+absR x.c+absR x.d)*e) (h1 : lo≤0) (h2 : 0≤hi) : 1≤((1536*M ^ 20 : Nat) : Rat)*e:=by
 have gap : hi - lo≤3*(M : Rat)*e:=by
  rw [hg]
  refine Rat.mul_le_mul_of_nonneg_right ?_ he
  have:=absR_le hp.b.1
  have:=absR_le hp.c.1
  have:=absR_le hp.d.1
  grind
 have hab : ab x (3*(M : Rat)*e):=by
  constructor
  ·refine nn_cast (nn_add hh (nn_real (q:=3*(M : Rat)*e - hi) (by grind))) ?_
   refine Q4.ext' ?_ ?_ ?_ ?_ <;> simp only [Q4.sub,Q4.add,Q4.neg,Q4.real] <;> grind
  ·refine nn_cast (nn_add hl (nn_real (q:=3*(M : Rat)*e+lo) (by grind))) ?_
   refine Q4.ext' ?_ ?_ ?_ ?_ <;> simp only [Q4.sub,Q4.add,Q4.neg,Q4.real] <;> grind
 obtain ⟨a1,a2⟩:=num_ab x.a hp.a.1
 obtain ⟨b1,b2⟩:=num_ab x.b hp.b.1
 obtain ⟨c1,c2⟩:=num_ab x.c hp.c.1
 obtain ⟨d1,d2⟩:=num_ab x.d hp.d.1
 have hN:=ab_mul hab (ab_cnj a1 a2 b1 b2 c1 c2 d1 d2)
 rw [norm_real] at hN
 obtain ⟨n1,n2⟩:=real_ab hN
 have hne:=Q4.norm_ne hx
 obtain ⟨D,hD,hDM,hI⟩:=norm_whole x hp
 generalize (x.mul x.cnj).a = N at n1 n2 hne hI
 have hD0 : (0 : Rat) < (D : Rat):=Rat.natCast_pos.2 hD
 have hDp : (0 : Rat) < (D : Rat)*((D : Rat)*(D : Rat)*(D : Rat)):=Rat.mul_pos hD0 (Rat.mul_pos (Rat.mul_pos hD0 hD0) hD0)
 have hz : (D : Rat)*((D : Rat)*(D : Rat)*(D : Rat))*N ≠ 0:=fun h=>by
  rcases Rat.mul_eq_zero.1 h with h | h
  ·grind
  ·exact hne h
 have hge:=isI_ge hI hz
 have hDle : (D : Rat)*((D : Rat)*(D : Rat)*(D : Rat))≤((M ^ 16 : Nat) : Rat):=by
  rw [← Rat.natCast_mul,← Rat.natCast_mul,← Rat.natCast_mul]
  refine Rat.natCast_le_natCast.2 ?_
  have h:=Nat.mul_le_mul hDM (Nat.mul_le_mul (Nat.mul_le_mul hDM hDM) hDM)
  have e : M*M*M*M*(M*M*M*M*(M*M*M*M)*(M*M*M*M)) = M ^ 16:=by
   simp only [Nat.pow_succ,Nat.pow_zero,Nat.one_mul,Nat.mul_assoc]
  rw [e] at h
  exact h
 have hc : 0≤3*(M : Rat)*e*(8*(M : Rat)*(8*(M : Rat))*(8*(M : Rat))):=by grind
 have key : ((M ^ 16 : Nat) : Rat)*(3*(M : Rat)*e*(8*(M : Rat)*(8*(M : Rat))*(8*(M : Rat)))) = ((1536*M ^ 20 : Nat) : Rat)*e:=by
  have e1 : ((1536*M ^ 20 : Nat) : Rat) = 1536*((M ^ 16 : Nat) : Rat)*((M : Rat)*(M : Rat)*(M : Rat)*(M : Rat)):=by
   rw [← Rat.natCast_mul,← Rat.natCast_mul,← Rat.natCast_mul,show (1536 : Rat) = ((1536 : Nat) : Rat) from rfl,← Rat.natCast_mul,← Rat.natCast_mul]
   congr 1
   rw [show (20 : Nat) = 16+4 from rfl,Nat.pow_add,Nat.mul_assoc]
   congr 1
   simp only [Nat.pow_succ,Nat.pow_zero,Nat.one_mul,Nat.mul_assoc]
  rw [e1]
  generalize ((M ^ 16 : Nat) : Rat) = P
  generalize (M : Rat) = m
  grind
 rw [← key]
 generalize 3*(M : Rat)*e*(8*(M : Rat)*(8*(M : Rat))*(8*(M : Rat))) = c at *
 generalize (D : Rat)*((D : Rat)*(D : Rat)*(D : Rat)) = d at *
 have h3 : d*c≤((M ^ 16 : Nat) : Rat)*c:=Rat.mul_le_mul_of_nonneg_right hDle hc
 have h4 : d*N≤d*c:=Rat.mul_le_mul_of_nonneg_left n2 (Rat.le_of_lt hDp)
 have h5 : d*-c≤d*N:=Rat.mul_le_mul_of_nonneg_left n1 (Rat.le_of_lt hDp)
 rcases hge with hge | hge <;> grind
theorem bounds_bits {x : Q4} {K k : Nat} {lo hi : Rat} (hx : x ≠ Q4.zero) (hp : Parts4 x (2 ^ (32*K))) (hl : nn (x.sub (Q4.real lo))) (hh : nn ((Q4.real hi).sub x))
 (hg : hi - lo = (absR x.b+absR x.c+absR x.d)*(1 / ((2 ^ k : Nat) : Rat))) (h1 : lo≤0) (h2 : 0≤hi) : k≤640*K+11:=by
 have hP : (0 : Rat) < ((2 ^ k : Nat) : Rat):=Rat.natCast_pos.2 (Nat.pow_pos (by decide))
 have he : (0 : Rat)≤1 / ((2 ^ k : Nat) : Rat):=by
  rw [Rat.div_def,Rat.one_mul]
  exact Rat.le_of_lt (Rat.inv_pos.2 hP)
 have h:=bounds_end hx hp he hl hh hg h1 h2
 have h3 : ((2 ^ k : Nat) : Rat)≤((1536*(2 ^ (32*K)) ^ 20 : Nat) : Rat):=by
  have:=Rat.mul_le_mul_of_nonneg_right h (Rat.le_of_lt hP)
  rw [Rat.one_mul,Rat.mul_assoc,Rat.div_mul_cancel (by grind),Rat.mul_one] at this
  exact this
 have h4:=Rat.natCast_le_natCast.1 h3
 rw [← Nat.pow_mul] at h4
 have h5 : 2 ^ k < 2 ^ (11+32*K*20):=by
  rw [Nat.pow_add]
  refine Nat.lt_of_le_of_lt h4 (Nat.mul_lt_mul_of_pos_right (by decide) (Nat.pow_pos (by decide)))
 have:=(Nat.pow_lt_pow_iff_right (by decide)).1 h5
 omega
end Go.Proofs.YtmilhgkacmofmaaGreat

namespace Go.Proofs.YtmilhgkacmofmaaGreat.W32
open Go.RowKit Num Plain
open Sy (Up Sees CallsG Seg)
section
variable {k k' : World} {A A' : Option Addr} {n c m n' c' m' a b l l' : Nat} {cs cs' c0 c1 : Array Value} {R : World→Value→Prop} {x y q p r lo hi : Rat} {K L M : Nat} {v v' : Q4}
theorem nw_pow_le (s : Nat) : nw (1*2 ^ s)≤s / 32+1:=by
 refine nw_le_of ?_
 rw [Nat.one_mul,B_eq,← Nat.pow_mul]
 exact Nat.pow_lt_pow_right (by decide) (by omega)
def isRoot (n kk : Nat) (q : Rat) : Prop:=∃ r : Nat,q = (r : Rat) / ((2 ^ kk : Nat) : Rat)∧r*r≤n*2 ^ (2*kk)∧n*2 ^ (2*kk) < (r+1)*(r+1)
theorem rroot_v {n kk : Nat} (hn : n≤6) (hk : kk≤1000000000) (C : ∀ k' ds q,Up k k'→isRoot n kk q→QV k' ds q (kk / 32+2)→R k' (.agg ds)) :
 Cl k 136 #[.int .u64 (n : Int),.int .i64 (kk : Int)] R:=by
 intro k0 u0
 have w1 : IntKind.wrap .i64 (2*(kk : Int)) = ((2*kk : Nat) : Int):=by rw [IntKind.wrap_i64]; omega
 refine rroot_vc (nat_s (x:=n) (by omega) fun k1 A1 c1 u1 h1=>⟨A1,_,c1,rfl,?_⟩)
 have hn1 : nw n≤1:=nw_le_of (by rw [B_eq]; omega)
 rw [w1]
 refine raised_s h1 (by omega) (by omega) fun k3 A3 c3 u3 h3=>⟨A3,_,c3,rfl,?_⟩
 have hb : n*2 ^ (2*kk) < 2 ^ (2*kk+3):=by
  rw [Nat.pow_add,Nat.mul_comm]
  exact Nat.mul_lt_mul_of_pos_left (by omega) (Nat.pow_pos (by decide))
 have hn3 : nw (n*2 ^ (2*kk))≤kk / 16+2:=by
  refine nw_le_of (Nat.lt_of_lt_of_le hb ?_)
  rw [B_eq,← Nat.pow_mul]
  exact Nat.pow_le_pow_right (by decide) (by omega)
 refine root_s h3 (by omega) fun k5 A5 c5 r u5 r1 r2 h5=>⟨A5,_,c5,rfl,?_⟩
 intro p k6 u6 hp
 refine raised_s (k:=k6) (s:=kk) (one_of hp) (by decide) (by omega) fun k8 A8 c8 u8 h8=>⟨A8,_,c8,rfl,?_⟩
 have hr : r < 2 ^ (kk+2):=by
  refine Nat.lt_of_not_le fun hle=>?_
  have h:=Nat.mul_le_mul hle hle
  rw [← Nat.pow_add] at h
  have h2 : 2 ^ (2*kk+3)≤2 ^ (kk+2+(kk+2)):=Nat.pow_le_pow_right (by decide) (by omega)
  omega
 have hnr : nw r≤kk / 32+2:=by
  refine nw_le_of (Nat.lt_of_lt_of_le hr ?_)
  rw [B_eq,← Nat.pow_mul]
  exact Nat.pow_le_pow_right (by decide) (by omega)
 have hnp:=nw_pow_le kk
 refine frac_b (K:=kk / 32+2) ((h5.up u6).up u8) h8 (by rw [Nat.one_mul]; exact Nat.pow_pos (by decide)) hnr (by omega) (by omega) (q:=(r : Rat) / ((2 ^ kk : Nat) : Rat)) ?_ fun k10 b A l c A' l' c' u10 hQ f1 f2=>⟨_,(QV.mk1 hQ f1 f2).seg,rfl,fun k11 u11=>C k11 _ _ (((((((u0.trans u1).trans u3).trans u5).trans u6).trans u8).trans u10).trans u11) ⟨r,rfl,r1,r2⟩ (QV.mk1 (hQ.up u11) f1 f2)⟩
 rw [Nat.one_mul,Rat.mkRat_eq_div]
 rfl
theorem power_v {kk : Nat} (hk1 : 0 < kk) (hk : kk≤1000000000) (C : ∀ k' ds,Up k k'→QV k' ds (1 / ((2 ^ kk : Nat) : Rat)) (kk / 32+2)→R k' (.agg ds)) :
 Cl k 135 #[.int .i64 (-(kk : Int))] R:=by
 intro k0 u0
 have w1 : IntKind.wrap .i64 (0 - -(kk : Int)) = (kk : Int):=by rw [IntKind.wrap_i64]; omega
 refine rpower_vc ⟨fun _=>?_,fun h=>absurd (of_decide_eq_false h) (by omega)⟩
 intro p k1 u1 hp
 rw [w1]
 refine raised_s (k:=k1) (s:=kk) (one_of hp) (by decide) (by omega) fun k2 A2 c2 u2 h2=>⟨A2,_,c2,rfl,?_⟩
 intro p3 k3 u3 hp3
 have hnp:=nw_pow_le kk
 refine frac_b (k:=k3) (K:=kk / 32+2) (one_of hp3) (h2.up u3) (by rw [Nat.one_mul]; exact Nat.pow_pos (by decide)) (by omega) (by omega) (by omega) (q:=1 / ((2 ^ kk : Nat) : Rat)) ?_ fun k10 b A l c A' l' c' u10 hQ f1 f2=>⟨_,(QV.mk1 hQ f1 f2).seg,rfl,fun k11 u11=>C k11 _ (((((u0.trans u1).trans u2).trans u3).trans u10).trans u11) (QV.mk1 (hQ.up u11) f1 f2)⟩
 rw [Nat.one_mul,Rat.mkRat_eq_div]
 rfl
theorem apx_root {w : Q4} {n kk : Nat} (hw : C.sg w.toQ = 1) (hs : w.mul w = Q4.real ((n : Nat) : Rat)) (h : isRoot n kk q) : Apx w q (q+1 / ((2 ^ kk : Nat) : Rat)):=by
 obtain ⟨r,rfl,h1,h2⟩:=h
 have hP : (0 : Rat) < ((2 ^ kk : Nat) : Rat):=Rat.natCast_pos.2 (Nat.pow_pos (by decide))
 have e1 : 2 ^ (2*kk) = 2 ^ kk*2 ^ kk:=by rw [← Nat.pow_add]; congr 1; omega
 rw [e1] at h1 h2
 have h1:=Rat.natCast_le_natCast.2 h1
 have h2:=Rat.natCast_le_natCast.2 (Nat.le_of_lt h2)
 rw [Rat.natCast_mul,Rat.natCast_mul,Rat.natCast_mul] at h1
 rw [Rat.natCast_mul,Rat.natCast_mul,Rat.natCast_mul,Rat.natCast_add,show ((1 : Nat) : Rat) = 1 from rfl] at h2
 have hr : (0 : Rat)≤(r : Rat):=Rat.natCast_nonneg
 generalize ((2 ^ kk : Nat) : Rat) = P at *
 generalize (r : Rat) = r at *
 generalize (n : Rat) = n at *
 have hi : (0 : Rat) < P⁻¹:=Rat.inv_pos.2 hP
 have hPi : P*P⁻¹ = 1:=Rat.mul_inv_cancel _ (by grind)
 rw [Rat.div_def,Rat.div_def,Rat.one_mul]
 generalize P⁻¹ = i at *
 have hii : 0≤i*i:=Rat.le_of_lt (Rat.mul_pos hi hi)
 have h3:=Rat.mul_le_mul_of_nonneg_right h1 hii
 have h4:=Rat.mul_le_mul_of_nonneg_right h2 hii
 have e2 : n*(P*P)*(i*i) = n:=by
  have : n*(P*P)*(i*i) = n*((P*i)*(P*i)):=by grind
  rw [this,hPi]; grind
 rw [e2] at h3 h4
 refine ⟨root_lo hw hs (Rat.mul_nonneg hr (Rat.le_of_lt hi)) ?_,root_hi hw hs ?_ ?_⟩
 ·grind
 ·have:=Rat.mul_nonneg hr (Rat.le_of_lt hi)
  grind
 ·grind
theorem rneg {q : Rat} : q.num < 0↔q < 0:=by rw [← Int.not_le,Rat.num_nonneg,Rat.not_le]
theorem rpos {q : Rat} : 0 < q.num↔0 < q:=by
 constructor
 ·intro h
  have h1 : 0≤q:=Rat.num_nonneg.1 (by omega)
  rcases Rat.le_iff_lt_or_eq.1 h1 with h2 | h2
  ·exact h2
  ·rw [← h2] at h; exact absurd h (by decide)
 ·exact num_pos
theorem sgn_lt {q : Rat} : q.num.sign < 0↔q < 0:=by
 rw [← rneg]
 rcases Int.lt_trichotomy q.num 0 with h | h | h
 ·rw [Int.sign_eq_neg_one_of_neg h]; exact ⟨fun _=>h,fun _=>by decide⟩
 ·rw [h]; exact Iff.rfl
 ·rw [Int.sign_eq_one_of_pos h]; exact ⟨fun h=>absurd h (by decide),fun h=>by omega⟩
theorem sgn_gt {q : Rat} : q.num.sign > 0↔0 < q:=by
 rw [← rpos]
 rcases Int.lt_trichotomy q.num 0 with h | h | h
 ·rw [Int.sign_eq_neg_one_of_neg h]; exact ⟨fun h=>absurd h (by decide),fun h=>by omega⟩
 ·rw [h]; exact Iff.rfl
 ·rw [Int.sign_eq_one_of_pos h]; exact ⟨fun _=>h,fun _=>by decide⟩
theorem neg_dec (p : Rat) : (decide (p.num.sign < 0)) = decide (p < 0):=decide_eq_decide.2 sgn_lt
theorem bstep {Q : World→Array Value→Array Value→Prop} {B : Option Addr} {l6 i n kk : Nat} {cx c7 : Array Value} (hA : ∃ b o,B = some ⟨b,o,none⟩) (hi6 : i < l6) (hrd : ∀ k',Up k k'→Sy.ReadAt k'.cell? B (Int.toNat (i : Int)*1+0) 1 (Value.int .u64 (n : Int)))
 (hn : n≤6) (hk : kk≤1000000000) (hx : QV k cx p K) (h7 : QV k c7 (1 / ((2 ^ kk : Nat) : Rat)) (kk / 32+2)) (h0 : QV k c0 lo L) (h1 : QV k c1 hi L) (hL : L≤1000000000) (hK : K≤1000000000)
 (C : ∀ k' d0 d1 r,Up k k'→isRoot n kk r→QV k' d0 (lo+loT p r (r+1 / ((2 ^ kk : Nat) : Rat))) (L+K+kk / 16+6)→QV k' d1 (hi+hiT p r (r+1 / ((2 ^ kk : Nat) : Rat))) (L+K+kk / 16+6)→Q k' d0 d1) :
 (∃ b o,B = some ⟨b,o,none⟩)∧((0 : Int)≤(i : Int)∧(i : Int) < (l6 : Nat)) ∧
 ∃ n8,Sy.ReadAt k.cell? B (Int.toNat (i : Int)*1+0) 1 (Value.int .u64 n8) ∧
 Cl k 136 #[Value.int .u64 n8,Value.int .i64 (kk : Int)] fun k4 r3=>Gt 3 r3 fun cs9 =>
 Cl k4 102 #[Value.agg cx,Value.agg cs9] fun k6 r5=>Gt 3 r5 fun cs10 =>
 Cl k6 101 #[Value.agg cs9,Value.agg c7] fun k8 r7=>Gt 3 r7 fun cs11 =>
 Cl k8 102 #[Value.agg cx,Value.agg cs11] fun k10 r9=>Gt 3 r9 fun cs12 =>
 Cl k10 75 #[Value.agg cx] fun k12 r11=>∃ n13,some (Value.int .i64 n13) = some r11 ∧
 ((decide ((n13 : Int) < 0)) = true →
 (Cl k12 101 #[Value.agg c0,Value.agg cs12] fun k14 r13=>Gt 3 r13 fun cs14 =>
 Cl k14 101 #[Value.agg c1,Value.agg cs10] fun k16 r15=>Gt 3 r15 fun cs15=>Q k16 cs14 cs15)) ∧
 ((decide ((n13 : Int) < 0)) = false →
 (Cl k12 101 #[Value.agg c0,Value.agg cs10] fun k76 r75=>Gt 3 r75 fun cs14 =>
 Cl k76 101 #[Value.agg c1,Value.agg cs12] fun k78 r77=>Gt 3 r77 fun cs15=>Q k78 cs14 cs15)):=by
  refine ⟨hA,⟨by omega,by omega⟩,(n : Int),hrd k (Up.refl k),?_⟩
  refine rroot_v hn hk fun k1 d1 r u1 hr q1=>⟨d1,q1.seg,rfl,?_⟩
  refine mul_v (hx.up u1) q1 (by omega) fun k2 d2 u2 q2=>⟨d2,q2.seg,rfl,?_⟩
  refine add_v (q1.up u2) ((h7.up u1).up u2) (by omega) fun k3 d3 u3 q3=>⟨d3,q3.seg,rfl,?_⟩
  refine mul_v (((hx.up u1).up u2).up u3) q3 (by omega) fun k4 d4 u4 q4=>⟨d4,q4.seg,rfl,?_⟩
  have u14:=((u1.trans u2).trans u3).trans u4
  refine sign_v (hx.up u14) fun k5 u5=>⟨_,rfl,fun h=>?_,fun h=>?_⟩
  ·rw [neg_dec] at h
   have hp:=of_decide_eq_true h
   refine add_v ((h0.up u14).up u5) (q4.up u5) (by omega) fun k6 d6 u6 q6=>⟨d6,q6.seg,rfl,?_⟩
   refine add_v (((h1.up u14).up u5).up u6) ((((q2.up u3).up u4).up u5).up u6) (by omega) fun k7 d7 u7 q7=>⟨d7,q7.seg,rfl,?_⟩
   refine C k7 d6 d7 r (((u14.trans u5).trans u6).trans u7) hr (((q6.up u7).cast ?_).mono (by omega)) ((q7.cast ?_).mono (by omega))
   ·unfold loT; rw [if_pos hp]
   ·unfold hiT; rw [if_pos hp]
  ·rw [neg_dec] at h
   have hp:=of_decide_eq_false h
   refine add_v ((h0.up u14).up u5) (((q2.up u3).up u4).up u5) (by omega) fun k6 d6 u6 q6=>⟨d6,q6.seg,rfl,?_⟩
   refine add_v (((h1.up u14).up u5).up u6) ((q4.up u5).up u6) (by omega) fun k7 d7 u7 q7=>⟨d7,q7.seg,rfl,?_⟩
   refine C k7 d6 d7 r (((u14.trans u5).trans u6).trans u7) hr (((q6.up u7).cast ?_).mono (by omega)) ((q7.cast ?_).mono (by omega))
   ·unfold loT; rw [if_neg hp]
   ·unfold hiT; rw [if_neg hp]
theorem read64 {k : World} {p i n : Nat} (h : Sy.Blk k p 122 #[Value.int .u64 1,Value.int .u64 2,Value.int .u64 3,Value.int .u64 6]) (hv : (#[Value.int .u64 1,Value.int .u64 2,Value.int .u64 3,Value.int .u64 6] : Array Value)[i]? = some (Value.int .u64 (n : Int))) :
 ∀ k',Up k k'→Sy.ReadAt k'.cell? (some ⟨p,0,none⟩) (Int.toNat (i : Int)*1+0) 1 (Value.int .u64 (n : Int)):=fun k' u=>by
 refine readAt_one rfl (p:=i) ?_ (by omega)
 unfold Sy.cellAt
 simp only [Nat.zero_add,(h.up u).cell,hv]
 rfl
theorem bounds_v {kk : Nat} (hx : SQ k cs v K) (hk1 : 0 < kk) (hk : kk≤1000000000) (hK : K≤100000000)
 (C : ∀ k' d0 d1 r2 r3 r6,Up k k'→Apx w2 r2 (r2+1 / ((2 ^ kk : Nat) : Rat))→Apx w3 r3 (r3+1 / ((2 ^ kk : Nat) : Rat))→Apx w6 r6 (r6+1 / ((2 ^ kk : Nat) : Rat)) →
   QV k' d0 (loB v r2 (r2+1 / ((2 ^ kk : Nat) : Rat)) r3 (r3+1 / ((2 ^ kk : Nat) : Rat)) r6 (r6+1 / ((2 ^ kk : Nat) : Rat))) (4*K+3*(kk / 16)+18) →
   QV k' d1 (hiB v r2 (r2+1 / ((2 ^ kk : Nat) : Rat)) r3 (r3+1 / ((2 ^ kk : Nat) : Rat)) r6 (r6+1 / ((2 ^ kk : Nat) : Rat))) (4*K+3*(kk / 16)+18)→R k' (.tuple #[.agg d0,.agg d1])) :
 Cl k 113 #[.agg cs,.int .i64 (kk : Int)] R:=by
 intro k0 u0
 obtain ⟨c0,c1,c2,c3,rfl,h0,h1,h2,h3⟩:=hx.up u0
 replace C:=fun k' d0 d1 r2 r3 r6 u=>C k' d0 d1 r2 r3 r6 (u0.trans u)
 refine rBounds_vc h0.seg h1.seg h2.seg h3.seg fun p5 k1 u1 hb=>⟨_,_,_,rfl,?_⟩
 rw [show IntKind.wrap .i64 (0 - (kk : Int)) = -(kk : Int) by rw [IntKind.wrap_i64]; omega]
 refine power_v hk1 hk fun k2 d2 u2 q2=>⟨d2,q2.seg,rfl,?_⟩
 have v2:=u1.trans u2
 replace C:=fun k' d0 d1 r2 r3 r6 u=>C k' d0 d1 r2 r3 r6 (v2.trans u)
 replace hb:=hb.up u2
 replace h0:=h0.up v2
 replace h1:=h1.up v2
 replace h2:=h2.up v2
 replace h3:=h3.up v2
 clear u0 u1 u2 v2 hx
 refine bstep (i:=1) (n:=2) ⟨_,_,rfl⟩ (by decide) (read64 hb rfl) (by decide) hk h1 q2 h0 h0 (by omega) (by omega) fun k4 e0 e1 r2 u4 a2 f0 f1=>?_
 refine bstep (i:=2) (n:=3) ⟨_,_,rfl⟩ (by decide) (read64 (hb.up u4) rfl) (by decide) hk (h2.up u4) (q2.up u4) f0 f1 (by omega) (by omega) fun k5 e2 e3 r3 u5 a3 f2 f3=>?_
 refine bstep (i:=3) (n:=6) ⟨_,_,rfl⟩ (by decide) (read64 ((hb.up u4).up u5) rfl) (by decide) hk ((h3.up u4).up u5) ((q2.up u4).up u5) f2 f3 (by omega) (by omega) fun k6 e4 e5 r6 u6 a6 f4 f5=>fun k7 u7=>?_
 exact C k7 e4 e5 r2 r3 r6 (((u4.trans u5).trans u6).trans u7) (apx_root w2_pos w2_sq a2) (apx_root w3_pos w3_sq a3) (apx_root w6_pos w6_sq a6) ((f4.up u7).mono (by omega)) ((f5.up u7).mono (by omega))
theorem QV.parts (h : QV k cs q K) : q.num.natAbs≤2 ^ (32*K)∧q.den≤2 ^ (32*K):=by
 obtain ⟨b,A,l,c,A',l',c',rfl,hQ,h1,h2⟩:=h
 have e1:=hQ.n.1.lt
 have e2:=hQ.d.1.lt
 rw [B_eq,← Nat.pow_mul] at e1 e2
 exact ⟨Nat.le_trans (Nat.le_of_lt e1) (Nat.pow_le_pow_right (by decide) (by omega)),Nat.le_trans (Nat.le_of_lt e2) (Nat.pow_le_pow_right (by decide) (by omega))⟩
theorem SQ.parts (h : SQ k cs v K) : Parts4 v (2 ^ (32*K)):=by
 obtain ⟨c0,c1,c2,c3,rfl,h0,h1,h2,h3⟩:=h
 exact ⟨h0.parts,h1.parts,h2.parts,h3.parts⟩
theorem ssign_v (hx : SQ k cs v K) (hK : K≤100000) (C : ∀ k',Up k k'→R k' (.int .i64 (C.sg v.toQ))) :
 Cl k 76 #[.agg cs] R:=by
 intro k0 u0
 replace hx:=hx.up u0
 replace C:=fun k' u=>C k' (u0.trans u)
 clear u0
 refine rsSign_vc hx.seg (szero_v hx fun k1 u1=>⟨_,rfl,fun h=>fun k2 u2=>?_,fun h=>?_⟩)
 ·have h:=of_decide_eq_true h
  have:=C k2 (u1.trans u2)
  rwa [h,toQ_zero,Plain.C.sg_zero] at this
 ·have hne:=of_decide_eq_false h
  replace hx:=hx.up u1
  replace C:=fun k' u=>C k' (u1.trans u)
  clear u1 h
  refine ⟨fun m k' vs=>∃ kk : Nat,16≤kk∧kk≤1280*K+22+16∧m = 1280*K+38 - kk∧vs = [.int .i64 (kk : Int)],⟨1280*K+22,fun k' _=>⟨16,by omega,by omega,by omega,rfl⟩⟩,?_⟩
  rintro m k3 vs u3 ⟨kk,hk1,hk2,rfl,rfl⟩
  refine ⟨_,rfl,?_⟩
  refine bounds_v (hx.up u3) (by omega) (by omega) (by omega) fun k5 d0 d1 r2 r3 r6 u5 a2 a3 a6 q0 q1=>⟨d0,q0.seg,d1,q1.seg,rfl,?_⟩
  have hlo:=bounds_lo v a2 a3 a6
  have hhi:=bounds_hi v a2 a3 a6
  have hgap:=bounds_gap v (r2:=r2) (r3:=r3) (r6:=r6) (1 / ((2 ^ kk : Nat) : Rat))
  generalize loB v r2 _ r3 _ r6 _ = lo at *
  generalize hiB v r2 _ r3 _ r6 _ = hi at *
  refine sign_v q0 fun k6 u6=>⟨_,rfl,fun h=>fun k7 u7=>?_,fun h=>?_⟩
  ·have h:=of_decide_eq_true h
   have hp : 0 < lo:=sgn_gt.1 h
   have:=C k7 (((u3.trans u5).trans u6).trans u7)
   rwa [sg_of_lo hlo hp] at this
  ·have h:=of_decide_eq_false h
   have hp : lo≤0:=Rat.not_lt.1 fun h'=>h (sgn_gt.2 h')
   refine sign_v (q1.up u6) fun k8 u8=>⟨_,rfl,fun h=>fun k9 u9=>?_,fun h=>fun k9 u9=>?_⟩
   ·have h:=of_decide_eq_true h
    have hq : hi < 0:=sgn_lt.1 h
    have:=C k9 ((((u3.trans u5).trans u6).trans u8).trans u9)
    rwa [sg_of_hi hhi hq] at this
   ·have h:=of_decide_eq_false h
    have hq : 0≤hi:=Rat.not_lt.1 fun h'=>h (sgn_lt.2 h')
    have hb:=bounds_bits hne hx.parts hlo hhi hgap hp hq
    refine ⟨1280*K+38 - 2*kk,by omega,2*kk,by omega,by omega,rfl,?_⟩
    rw [show IntKind.wrap .i64 (2*(kk : Int)) = ((2*kk : Nat) : Int) by rw [IntKind.wrap_i64]; omega]
theorem scmp_v (hx : SQ k cs v K) (hy : SQ k cs' v' L) (hK : K+L+1≤100000) (C : ∀ k',Up k k'→R k' (.int .i64 (C.sg (v.sub v').toQ))) :
 Cl k 40 #[.agg cs,.agg cs'] R:=by
 intro k0 u0
 refine rsCmp_vc hx.seg hy.seg (ssub_v (hx.up u0) (hy.up u0) (by omega) fun k1 d1 u1 h1=>⟨d1,h1.seg,rfl,?_⟩)
 exact ssign_v h1 hK fun k3 u3=>⟨_,rfl,fun k4 u4=>C k4 (((u0.trans u1).trans u3).trans u4)⟩
end
end Go.Proofs.YtmilhgkacmofmaaGreat.W32

namespace Go.Proofs.YtmilhgkacmofmaaGreat
open Go.RowKit
open Value (agg slice int bool tuple)
open Sy (Up Sees CallsG Seg execFn_use)
set_option maxRecDepth 100000
variable {k : World} {R : World→Value→Prop}
theorem oeffect_vc {cs0 : Array Value} {n1 : Int} (hcs0 : Seg 216 cs0)
 (h : Cl k 17 #[agg cs0,int .i64 n1] fun k1 r0=>Gt 18 r0 fun cs2 =>
 ∀ k2,Up k1 k2→R k2 (agg cs2)) :
  CallsG Tryz.prog 24 #[agg cs0,int .i64 n1] k R :=
  execFn_use (cfg:={ opq:=[37,36,48] }) (args:=[.agg [.seg 0 216],.one (.var 1)]) (vals:=[agg cs0,int .i64 n1]) (kinds:=[.seg 216,.int .i64]) (by kernel_rfl) ⟨⟨cs0,rfl,hcs0⟩,⟨⟨_,rfl⟩,trivial⟩⟩ (by kernel_rfl) (by kernel_rfl) h
theorem oalong_vc {cs0 cs1 : Array Value} (hcs0 : Seg 18 cs0) (hcs1 : Seg 18 cs1)
 (h : Cl k 68 #[agg cs0] fun k1 r0=>Gt 18 r0 fun cs2 =>
 Cl k1 69 #[agg cs2,agg cs1] fun k3 r2=>Gt 18 r2 fun cs3 =>
 Cl k3 50 #[agg cs3] fun k5 r4=>Gt 9 r4 fun cs4 =>
 ∀ k6,Up k5 k6→R k6 (agg cs4)) :
  CallsG Tryz.prog 29 #[agg cs0,agg cs1] k R :=
  execFn_use (cfg:={ opq:=[35,48] }) (args:=[.agg [.seg 0 18],.agg [.seg 1 18]]) (vals:=[agg cs0,agg cs1]) (kinds:=[.seg 18,.seg 18]) (by kernel_rfl) ⟨⟨cs0,rfl,hcs0⟩,⟨⟨cs1,rfl,hcs1⟩,trivial⟩⟩ (by kernel_rfl) (by kernel_rfl) h
theorem ogrind_vc {n0 : Int} {cs1 : Array Value} (hcs1 : Seg 3 cs1)
 (h : ((decide ((n0 : Int) ≥ 1)) = true →
 (((decide ((n0 : Int)≤11)) = true →
 (Cl k 59 #[agg cs1] fun k1 r0=>∃ n2,some (int .i64 n2) = some r0 ∧
 ∀ k2,Up k1 k2→R k2 (bool (decide ((n2 : Int) > 0))))) ∧
 ((decide ((n0 : Int)≤11)) = false →
 (∀ k3,Up k k3→R k3 (bool false))))) ∧
 ((decide ((n0 : Int) ≥ 1)) = false →
 (∀ k4,Up k k4→R k4 (bool false)))) :
   CallsG Tryz.prog 23 #[int .i64 n0,agg cs1] k R :=
  execFn_use (cfg:={ opq:=[63] }) (args:=[.one (.var 0),.agg [.seg 1 3]]) (vals:=[int .i64 n0,agg cs1]) (kinds:=[.int .i64,.seg 3]) (by kernel_rfl) ⟨⟨_,rfl⟩,⟨⟨cs1,rfl,hcs1⟩,trivial⟩⟩ (by kernel_rfl) (by kernel_rfl) h
theorem ocert_vc {cs0 : Array Value} {n1 : Int} {cs2 cs3 cs4 : Array Value} (hcs0 : Seg 18 cs0) (hcs2 : Seg 3 cs2) (hcs3 : Seg 216 cs3) (hcs4 : Seg 18 cs4)
 (h : Cl k 23 #[int .i64 n1,agg cs2] fun k1 r0=>∃ b5,some (bool b5) = some r0 ∧
 ((!b5) = true →
 (∀ k2,Up k1 k2→R k2 (bool false))) ∧
 ((!b5) = false →
 (Cl k1 24 #[agg cs3,int .i64 n1] fun k4 r3=>Gt 18 r3 fun cs6 =>
 Cl k4 25 #[agg cs6,agg cs0] fun k6 r5=>∃ b7,some (bool b7) = some r5 ∧
 ((!b7) = true →
 (∀ k7,Up k6 k7→R k7 (bool false))) ∧
 ((!b7) = false →
 (Cl k6 26 #[agg #[bool false,slice none 0 0,bool false,slice none 0 0,bool false,slice none 0 0,bool false,slice none 0 0,slice none 0 0],agg cs2] fun k9 r8=>Gt 9 r8 fun cs8 =>
 ∃ I10 : Nat→World→List Value→Prop,(∃ m10,∀ k10,Up k9 k10→I10 m10 k10 [int .i64 0]) ∧
 ∀ m10 k10 vs10,Up k9 k10→I10 m10 k10 vs10→∃ n9,some [int .i64 n9] = some vs10 ∧
 ((decide ((n9 : Int) < 24)) = true →
 ((decide ((0 : Int)≤n9∧(n9 : Int) < 24)) = true ∧
 (Cl k10 27 #[agg (Sy.pickL cs3 (Int.toNat n9*9+0) 9).toArray] fun k12 r11=>∃ n10,some (int .i64 n10) = some r11 ∧
 ((decide ((n10 : Int) < 0)) = true →
 (∀ k13,Up k12 k13→R k13 (bool false))) ∧
 ((decide ((n10 : Int) < 0)) = false →
 (Cl k12 28 #[agg (Sy.pickL cs3 (Int.toNat n9*9+0) 9).toArray,agg cs8] fun k15 r14=>∃ n11,some (int .i64 n11) = some r14 ∧
 ((decide ((n11 : Int) > 0)) = true →
 (∀ k16,Up k15 k16→R k16 (bool false))) ∧
 ((decide ((n11 : Int) > 0)) = false →
 (Cl k15 30 #[int .i64 (IntKind.wrap .i64 ((IntKind.wrap .i64 (0 - n1))*n9))] fun k18 r17=>Gt 18 r17 fun cs12 =>
 Cl k18 29 #[agg cs4,agg cs12] fun k20 r19=>Gt 9 r19 fun cs13 =>
 Cl k20 31 #[int .i64 1] fun k22 r21=>Gt 9 r21 fun cs14 =>
 Cl k22 28 #[agg cs13,agg cs14] fun k24 r23=>∃ n15,some (int .i64 n15) = some r23 ∧
 Cl k24 32 #[agg (Sy.pickL cs3 (Int.toNat n9*9+0) 9).toArray] fun k26 r25=>∃ b16,some (bool b16) = some r25 ∧
 (b16 = true →
 (((decide ((n15 : Int) > 0)) = true →
 (∀ k27,Up k26 k27→R k27 (bool false))) ∧
 ((decide ((n15 : Int) > 0)) = false →
 (∀ k28,Up k26 k28→∃ m,m < m10∧I10 m k28 [int .i64 (IntKind.wrap .i64 (n9+1))])))) ∧
 (b16 = false →
 (Cl k26 33 #[agg (Sy.pickL cs3 (Int.toNat n9*9+0) 9).toArray,agg cs8] fun k30 r29=>∃ b17,some (bool b17) = some r29 ∧
 (b17 = true →
 (((decide ((n15 : Int) < 0)) = true →
 (∀ k31,Up k30 k31→R k31 (bool false))) ∧
 ((decide ((n15 : Int) < 0)) = false →
 (∀ k32,Up k30 k32→∃ m,m < m10∧I10 m k32 [int .i64 (IntKind.wrap .i64 (n9+1))])))) ∧
 (b17 = false →
 ((((n15 : Int) != 0) = true →
 (∀ k33,Up k30 k33→R k33 (bool false))) ∧
 (((n15 : Int) != 0) = false →
 (∀ k34,Up k30 k34→∃ m,m < m10∧I10 m k34 [int .i64 (IntKind.wrap .i64 (n9+1))]))))))))))))) ∧
 ((decide ((n9 : Int) < 24)) = false →
 (∀ k35,Up k10 k35→R k35 (bool true)))))))) :
   CallsG Tryz.prog 9 #[agg cs0,int .i64 n1,agg cs2,agg (cs3.toList ++ (cs4.toList ++ ([]))).toArray] k R :=
  execFn_use (cfg:={ opq:=[36,48,35,63],loops:=[(0,[.tmp 31 false [.int .i64]])] }) (args:=[.agg [.seg 0 18],.one (.var 1),.agg [.seg 2 3],.agg [.seg 3 216,.seg 4 18]]) (vals:=[agg cs0,int .i64 n1,agg cs2,agg cs3,agg cs4]) (kinds:=[.seg 18,.int .i64,.seg 3,.seg 216,.seg 18]) (by kernel_rfl) ⟨⟨cs0,rfl,hcs0⟩,⟨⟨_,rfl⟩,⟨⟨cs2,rfl,hcs2⟩,⟨⟨cs3,rfl,hcs3⟩,⟨⟨cs4,rfl,hcs4⟩,trivial⟩⟩⟩⟩⟩ (by kernel_rfl) (by kernel_rfl) h
theorem rgrind_vc {n0 : Int} {cs1 : Array Value} (hcs1 : Seg 3 cs1)
 (h : ((decide ((n0 : Int) ≥ 1)) = true →
 (((decide ((n0 : Int)≤11)) = true →
 (Cl k 75 #[agg cs1] fun k1 r0=>∃ n2,some (int .i64 n2) = some r0 ∧
 ∀ k2,Up k1 k2→R k2 (bool (decide ((n2 : Int) > 0))))) ∧
 ((decide ((n0 : Int)≤11)) = false →
 (∀ k3,Up k k3→R k3 (bool false))))) ∧
 ((decide ((n0 : Int) ≥ 1)) = false →
 (∀ k4,Up k k4→R k4 (bool false)))) :
   CallsG Tryz.prog 36 #[int .i64 n0,agg cs1] k R :=
  execFn_use (cfg:={ opq:=[40] }) (args:=[.one (.var 0),.agg [.seg 1 3]]) (vals:=[int .i64 n0,agg cs1]) (kinds:=[.int .i64,.seg 3]) (by kernel_rfl) ⟨⟨_,rfl⟩,⟨⟨cs1,rfl,hcs1⟩,trivial⟩⟩ (by kernel_rfl) (by kernel_rfl) h
theorem reffect_vc {cs0 : Array Value} {n1 : Int} (hcs0 : Seg 288 cs0)
 (h : Cl k 8 #[agg cs0,int .i64 n1] fun k1 r0=>Gt 24 r0 fun cs2 =>
 ∀ k2,Up k1 k2→R k2 (agg cs2)) :
  CallsG Tryz.prog 39 #[agg cs0,int .i64 n1] k R :=
  execFn_use (cfg:={ opq:=[43,44,53] }) (args:=[.agg [.seg 0 288],.one (.var 1)]) (vals:=[agg cs0,int .i64 n1]) (kinds:=[.seg 288,.int .i64]) (by kernel_rfl) ⟨⟨cs0,rfl,hcs0⟩,⟨⟨_,rfl⟩,trivial⟩⟩ (by kernel_rfl) (by kernel_rfl) h
theorem rlimited_vc {cs0 cs1 : Array Value} (hcs0 : Seg 288 cs0) (hcs1 : Seg 3 cs1)
 (h : ∃ I0 : Nat→World→List Value→Prop,(∃ m0,∀ k0,Up k k0→I0 m0 k0 [int .i64 0]) ∧
 ∀ m0 k0 vs0,Up k k0→I0 m0 k0 vs0→∃ n2,some [int .i64 n2] = some vs0 ∧
 ((decide ((n2 : Int) < 24)) = true →
 ((decide ((0 : Int)≤n2∧(n2 : Int) < 24)) = true ∧
 (Cl k0 76 #[agg (Sy.pickL cs0 (Int.toNat n2*12+0) 12).toArray] fun k2 r1=>∃ n3,some (int .i64 n3) = some r1 ∧
 ((decide ((n3 : Int) < 0)) = true →
 (∀ k3,Up k2 k3→R k3 (bool false))) ∧
 ((decide ((n3 : Int) < 0)) = false →
 ((decide ((0 : Int)≤n2∧(n2 : Int) < 24)) = true ∧
 (Cl k2 44 #[agg cs1] fun k5 r4=>Gt 12 r4 fun cs4 =>
 Cl k5 40 #[agg (Sy.pickL cs0 (Int.toNat n2*12+0) 12).toArray,agg cs4] fun k7 r6=>∃ n5,some (int .i64 n5) = some r6 ∧
 ((decide ((n5 : Int) > 0)) = true →
 (∀ k8,Up k7 k8→R k8 (bool false))) ∧
 ((decide ((n5 : Int) > 0)) = false →
 (∀ k9,Up k7 k9→∃ m,m < m0∧I0 m k9 [int .i64 (IntKind.wrap .i64 (n2+1))])))))))) ∧
 ((decide ((n2 : Int) < 24)) = false →
 (∀ k10,Up k0 k10→R k10 (bool true)))) :
   CallsG Tryz.prog 37 #[agg cs0,agg cs1] k R :=
  execFn_use (cfg:={ opq:=[43,42,40],loops:=[(0,[.tmp 5 false [.int .i64]])] }) (args:=[.agg [.seg 0 288],.agg [.seg 1 3]]) (vals:=[agg cs0,agg cs1]) (kinds:=[.seg 288,.seg 3]) (by kernel_rfl) ⟨⟨cs0,rfl,hcs0⟩,⟨⟨cs1,rfl,hcs1⟩,trivial⟩⟩ (by kernel_rfl) (by kernel_rfl) h
theorem rprice_vc {cs0 cs1 : Array Value} {n2 n3 : Int} (hcs0 : Seg 12 cs0) (hcs1 : Seg 12 cs1)
 (h : Cl k 81 #[agg (cs0.toList ++ (cs1.toList ++ ([]))).toArray] fun k1 r0=>∃ cs4,Seg 12 cs4∧∃ cs5,Seg 12 cs5∧some (agg (cs4.toList ++ (cs5.toList ++ ([]))).toArray) = some r0 ∧
 Cl k1 21 #[int .i64 (IntKind.wrap .i64 ((IntKind.wrap .i64 (0 - n2))*n3))] fun k3 r2=>∃ cs6,Seg 12 cs6∧∃ cs7,Seg 12 cs7∧some (agg (cs6.toList ++ (cs7.toList ++ ([]))).toArray) = some r2 ∧
 Cl k3 80 #[agg (cs4.toList ++ (cs5.toList ++ ([]))).toArray,agg (cs6.toList ++ (cs7.toList ++ ([]))).toArray] fun k5 r4=>∃ cs8,Seg 12 cs8∧∃ cs9,Seg 12 cs9∧some (agg (cs8.toList ++ (cs9.toList ++ ([]))).toArray) = some r4 ∧
 ∀ k6,Up k5 k6→R k6 (agg cs8)) :
  CallsG Tryz.prog 41 #[agg (cs0.toList ++ (cs1.toList ++ ([]))).toArray,int .i64 n2,int .i64 n3] k R :=
  execFn_use (cfg:={ opq:=[42] }) (args:=[.agg [.seg 0 12,.seg 1 12],.one (.var 2),.one (.var 3)]) (vals:=[agg cs0,agg cs1,int .i64 n2,int .i64 n3]) (kinds:=[.seg 12,.seg 12,.int .i64,.int .i64]) (by kernel_rfl) ⟨⟨cs0,rfl,hcs0⟩,⟨⟨cs1,rfl,hcs1⟩,⟨⟨_,rfl⟩,⟨⟨_,rfl⟩,trivial⟩⟩⟩⟩ (by kernel_rfl) (by kernel_rfl) h
theorem rcert_vc {cs0 : Array Value} {n1 : Int} {cs2 cs3 cs4 : Array Value} (hcs0 : Seg 24 cs0) (hcs2 : Seg 3 cs2) (hcs3 : Seg 288 cs3) (hcs4 : Seg 24 cs4)
 (h : Cl k 36 #[int .i64 n1,agg cs2] fun k1 r0=>∃ b5,some (bool b5) = some r0 ∧
 ((!b5) = true →
 (∀ k2,Up k1 k2→R k2 (bool false))) ∧
 ((!b5) = false →
 (Cl k1 37 #[agg cs3,agg cs2] fun k4 r3=>∃ b6,some (bool b6) = some r3 ∧
 ((!b6) = true →
 (∀ k5,Up k4 k5→R k5 (bool false))) ∧
 ((!b6) = false →
 (Cl k4 39 #[agg cs3,int .i64 n1] fun k7 r6=>Gt 24 r6 fun cs7 =>
 Cl k7 38 #[agg cs7,agg cs0] fun k9 r8=>∃ b8,some (bool b8) = some r8 ∧
 ((!b8) = true →
 (∀ k10,Up k9 k10→R k10 (bool false))) ∧
 ((!b8) = false →
 (∃ I11 : Nat→World→List Value→Prop,(∃ m11,∀ k11,Up k9 k11→I11 m11 k11 [int .i64 0]) ∧
 ∀ m11 k11 vs11,Up k9 k11→I11 m11 k11 vs11→∃ n9,some [int .i64 n9] = some vs11 ∧
 ((decide ((n9 : Int) < 24)) = true →
 (Cl k11 41 #[agg cs4,int .i64 n1,int .i64 n9] fun k13 r12=>Gt 12 r12 fun cs10 =>
 Cl k13 22 #[int .i64 1,int .i64 1] fun k15 r14=>Gt 12 r14 fun cs11 =>
 Cl k15 40 #[agg cs10,agg cs11] fun k17 r16=>∃ n12,some (int .i64 n12) = some r16 ∧
 (decide ((0 : Int)≤n9∧(n9 : Int) < 24)) = true ∧
 (Cl k17 42 #[agg (Sy.pickL cs3 (Int.toNat n9*12+0) 12).toArray] fun k19 r18=>∃ b13,some (bool b13) = some r18 ∧
 (decide ((0 : Int)≤n9∧(n9 : Int) < 24)) = true ∧
 (Cl k19 44 #[agg cs2] fun k21 r20=>Gt 12 r20 fun cs14 =>
 Cl k21 43 #[agg (Sy.pickL cs3 (Int.toNat n9*12+0) 12).toArray,agg cs14] fun k23 r22=>∃ b15,some (bool b15) = some r22 ∧
 (b13 = true →
 (((decide ((n12 : Int) > 0)) = true →
 (∀ k24,Up k23 k24→R k24 (bool false))) ∧
 ((decide ((n12 : Int) > 0)) = false →
 ((b15 = true →
 (((decide ((n12 : Int) < 0)) = true →
 (∀ k25,Up k23 k25→R k25 (bool false))) ∧
 ((decide ((n12 : Int) < 0)) = false →
 (((!b13) = true →
 (((!b15) = true →
 ((((n12 : Int) != 0) = true →
 (∀ k26,Up k23 k26→R k26 (bool false))) ∧
 (((n12 : Int) != 0) = false →
 (∀ k27,Up k23 k27→∃ m,m < m11∧I11 m k27 [int .i64 (IntKind.wrap .i64 (n9+1))])))) ∧
 ((!b15) = false →
 (∀ k28,Up k23 k28→∃ m,m < m11∧I11 m k28 [int .i64 (IntKind.wrap .i64 (n9+1))])))) ∧
 ((!b13) = false →
 (∀ k29,Up k23 k29→∃ m,m < m11∧I11 m k29 [int .i64 (IntKind.wrap .i64 (n9+1))])))))) ∧
 (b15 = false →
 (((!b13) = true →
 (((!b15) = true →
 ((((n12 : Int) != 0) = true →
 (∀ k30,Up k23 k30→R k30 (bool false))) ∧
 (((n12 : Int) != 0) = false →
 (∀ k31,Up k23 k31→∃ m,m < m11∧I11 m k31 [int .i64 (IntKind.wrap .i64 (n9+1))])))) ∧
 ((!b15) = false →
 (∀ k32,Up k23 k32→∃ m,m < m11∧I11 m k32 [int .i64 (IntKind.wrap .i64 (n9+1))])))) ∧
 ((!b13) = false →
 (∀ k33,Up k23 k33→∃ m,m < m11∧I11 m k33 [int .i64 (IntKind.wrap .i64 (n9+1))])))))))) ∧
 (b13 = false →
 ((b15 = true →
 (((decide ((n12 : Int) < 0)) = true →
 (∀ k34,Up k23 k34→R k34 (bool false))) ∧
 ((decide ((n12 : Int) < 0)) = false →
 (((!b13) = true →
 (((!b15) = true →
 ((((n12 : Int) != 0) = true →
 (∀ k35,Up k23 k35→R k35 (bool false))) ∧
 (((n12 : Int) != 0) = false →
 (∀ k36,Up k23 k36→∃ m,m < m11∧I11 m k36 [int .i64 (IntKind.wrap .i64 (n9+1))])))) ∧
 ((!b15) = false →
 (∀ k37,Up k23 k37→∃ m,m < m11∧I11 m k37 [int .i64 (IntKind.wrap .i64 (n9+1))])))) ∧
 ((!b13) = false →
 (∀ k38,Up k23 k38→∃ m,m < m11∧I11 m k38 [int .i64 (IntKind.wrap .i64 (n9+1))])))))) ∧
 (b15 = false →
 (((!b13) = true →
 (((!b15) = true →
 ((((n12 : Int) != 0) = true →
 (∀ k39,Up k23 k39→R k39 (bool false))) ∧
 (((n12 : Int) != 0) = false →
 (∀ k40,Up k23 k40→∃ m,m < m11∧I11 m k40 [int .i64 (IntKind.wrap .i64 (n9+1))])))) ∧
 ((!b15) = false →
 (∀ k41,Up k23 k41→∃ m,m < m11∧I11 m k41 [int .i64 (IntKind.wrap .i64 (n9+1))])))) ∧
 ((!b13) = false →
 (∀ k42,Up k23 k42→∃ m,m < m11∧I11 m k42 [int .i64 (IntKind.wrap .i64 (n9+1))])))))))))) ∧
 ((decide ((n9 : Int) < 24)) = false →
 (∀ k43,Up k11 k43→R k43 (bool true)))))))))) :
   CallsG Tryz.prog 11 #[agg cs0,int .i64 n1,agg cs2,agg (cs3.toList ++ (cs4.toList ++ ([]))).toArray] k R :=
  execFn_use (cfg:={ opq:=[43,53,42,40],loops:=[(0,[.tmp 9 false [.int .i64]])] }) (args:=[.agg [.seg 0 24],.one (.var 1),.agg [.seg 2 3],.agg [.seg 3 288,.seg 4 24]]) (vals:=[agg cs0,int .i64 n1,agg cs2,agg cs3,agg cs4]) (kinds:=[.seg 24,.int .i64,.seg 3,.seg 288,.seg 24]) (by kernel_rfl) ⟨⟨cs0,rfl,hcs0⟩,⟨⟨_,rfl⟩,⟨⟨cs2,rfl,hcs2⟩,⟨⟨cs3,rfl,hcs3⟩,⟨⟨cs4,rfl,hcs4⟩,trivial⟩⟩⟩⟩⟩ (by kernel_rfl) (by kernel_rfl) h
theorem ocertified_vc {cs0 : Array Value} {n1 n2 n3 n4 n5 n6 n7 n8 n9 n10 n11 n12 n13 n14 n15 n16 n17 n18 n19 n20 n21 n22 n23 n24 n25 n26 n27 n28 n29 n30 n31 n32 n33 n34 n35 : Int} {b36 : Bool} (hcs0 : Seg 192 cs0)
 (h : Cl k 4 #[agg cs0] fun k1 r0=>∃ cs37,Seg 216 cs37∧∃ cs38,Seg 288 cs38∧some (tuple #[agg cs37,agg cs38]) = some r0 ∧
 Cl k1 5 #[agg #[int .i64 n1,int .i64 n2,int .i64 n3,int .i64 n4,int .i64 n5,int .i64 n6,int .i64 n7,int .i64 n8,int .i64 n9,int .i64 n10,int .i64 n11,int .i64 n12,int .i64 n13,int .i64 n14,int .i64 n15,int .i64 n16]] fun k3 r2=>Gt 18 r2 fun cs39 =>
 Cl k3 6 #[agg #[int .i64 n1,int .i64 n2,int .i64 n3,int .i64 n4,int .i64 n5,int .i64 n6,int .i64 n7,int .i64 n8,int .i64 n9,int .i64 n10,int .i64 n11,int .i64 n12,int .i64 n13,int .i64 n14,int .i64 n15,int .i64 n16]] fun k5 r4=>Gt 24 r4 fun cs40 =>
 Cl k5 5 #[agg #[int .i64 n20,int .i64 n21,int .i64 n22,int .i64 n23,int .i64 n24,int .i64 n25,int .i64 n26,int .i64 n27,int .i64 n28,int .i64 n29,int .i64 n30,int .i64 n31,int .i64 n32,int .i64 n33,int .i64 n34,int .i64 n35]] fun k7 r6=>Gt 18 r6 fun cs41 =>
 Cl k7 6 #[agg #[int .i64 n20,int .i64 n21,int .i64 n22,int .i64 n23,int .i64 n24,int .i64 n25,int .i64 n26,int .i64 n27,int .i64 n28,int .i64 n29,int .i64 n30,int .i64 n31,int .i64 n32,int .i64 n33,int .i64 n34,int .i64 n35]] fun k9 r8=>Gt 24 r8 fun cs42 =>
 (b36 = true →
 (((decide ((n17 : Int) ≥ 0)) = true →
 (((decide ((n17 : Int)≤12)) = true →
 (Cl k9 7 #[agg cs37] fun k11 r10=>Gt 234 r10 fun cs43 =>
 (decide ((0 : Int)≤n17∧(n17 : Int) < 13)) = true ∧
 (Cl k11 8 #[agg cs38,int .i64 n17] fun k13 r12=>Gt 24 r12 fun cs44 =>
 Cl k13 10 #[agg #[int .i64 n18,int .i64 n19]] fun k15 r14=>Gt 3 r14 fun cs45 =>
 Cl k15 9 #[agg (Sy.pickL cs43 (Int.toNat n17*18+0) 18).toArray,int .i64 n17,agg cs45,agg (cs37.toList ++ (cs39.toList ++ ([]))).toArray] fun k17 r16=>∃ b46,some (bool b46) = some r16 ∧
 Cl k17 12 #[agg #[int .i64 n18,int .i64 n19]] fun k19 r18=>Gt 3 r18 fun cs47 =>
 Cl k19 11 #[agg cs44,int .i64 n17,agg cs47,agg (cs38.toList ++ (cs40.toList ++ ([]))).toArray] fun k21 r20=>∃ b48,some (bool b48) = some r20 ∧
 ((b46 == b48) = true →
 (Cl k21 13 #[] fun k23 r22=>∃ b49,some (bool b49) = some r22 ∧
 ∀ k24,Up k23 k24→R k24 (bool b49))) ∧
 ((b46 == b48) = false →
 (∀ k25,Up k21 k25→R k25 (bool false)))))) ∧
 ((decide ((n17 : Int)≤12)) = false →
 (Cl k9 10 #[agg #[int .i64 n18,int .i64 n19]] fun k27 r26=>Gt 3 r26 fun cs43 =>
 Cl k27 9 #[agg cs41,int .i64 n17,agg cs43,agg (cs37.toList ++ (cs39.toList ++ ([]))).toArray] fun k29 r28=>∃ b44,some (bool b44) = some r28 ∧
 Cl k29 12 #[agg #[int .i64 n18,int .i64 n19]] fun k31 r30=>Gt 3 r30 fun cs45 =>
 Cl k31 11 #[agg cs42,int .i64 n17,agg cs45,agg (cs38.toList ++ (cs40.toList ++ ([]))).toArray] fun k33 r32=>∃ b46,some (bool b46) = some r32 ∧
 ((b44 == b46) = true →
 (Cl k33 13 #[] fun k35 r34=>∃ b47,some (bool b47) = some r34 ∧
 ∀ k36,Up k35 k36→R k36 (bool b47))) ∧
 ((b44 == b46) = false →
 (∀ k37,Up k33 k37→R k37 (bool false))))))) ∧
 ((decide ((n17 : Int) ≥ 0)) = false →
 (Cl k9 10 #[agg #[int .i64 n18,int .i64 n19]] fun k39 r38=>Gt 3 r38 fun cs43 =>
 Cl k39 9 #[agg cs41,int .i64 n17,agg cs43,agg (cs37.toList ++ (cs39.toList ++ ([]))).toArray] fun k41 r40=>∃ b44,some (bool b44) = some r40 ∧
 Cl k41 12 #[agg #[int .i64 n18,int .i64 n19]] fun k43 r42=>Gt 3 r42 fun cs45 =>
 Cl k43 11 #[agg cs42,int .i64 n17,agg cs45,agg (cs38.toList ++ (cs40.toList ++ ([]))).toArray] fun k45 r44=>∃ b46,some (bool b46) = some r44 ∧
 ((b44 == b46) = true →
 (Cl k45 13 #[] fun k47 r46=>∃ b47,some (bool b47) = some r46 ∧
 ∀ k48,Up k47 k48→R k48 (bool b47))) ∧
 ((b44 == b46) = false →
 (∀ k49,Up k45 k49→R k49 (bool false))))))) ∧
 (b36 = false →
 (Cl k9 10 #[agg #[int .i64 n18,int .i64 n19]] fun k51 r50=>Gt 3 r50 fun cs43 =>
 Cl k51 9 #[agg cs41,int .i64 n17,agg cs43,agg (cs37.toList ++ (cs39.toList ++ ([]))).toArray] fun k53 r52=>∃ b44,some (bool b44) = some r52 ∧
 Cl k53 12 #[agg #[int .i64 n18,int .i64 n19]] fun k55 r54=>Gt 3 r54 fun cs45 =>
 Cl k55 11 #[agg cs42,int .i64 n17,agg cs45,agg (cs38.toList ++ (cs40.toList ++ ([]))).toArray] fun k57 r56=>∃ b46,some (bool b46) = some r56 ∧
 ((b44 == b46) = true →
 (Cl k57 13 #[] fun k59 r58=>∃ b47,some (bool b47) = some r58 ∧
 ∀ k60,Up k59 k60→R k60 (bool b47))) ∧
 ((b44 == b46) = false →
 (∀ k61,Up k57 k61→R k61 (bool false)))))) :
   CallsG Tryz.prog 3 #[agg cs0,agg #[int .i64 n1,int .i64 n2,int .i64 n3,int .i64 n4,int .i64 n5,int .i64 n6,int .i64 n7,int .i64 n8,int .i64 n9,int .i64 n10,int .i64 n11,int .i64 n12,int .i64 n13,int .i64 n14,int .i64 n15,int .i64 n16],int .i64 n17,agg #[int .i64 n18,int .i64 n19],agg #[int .i64 n20,int .i64 n21,int .i64 n22,int .i64 n23,int .i64 n24,int .i64 n25,int .i64 n26,int .i64 n27,int .i64 n28,int .i64 n29,int .i64 n30,int .i64 n31,int .i64 n32,int .i64 n33,int .i64 n34,int .i64 n35],bool b36] k R :=
  execFn_use (cfg:={ opq:=[27,37,44,36,43,58,48,35,63,53,42,40] }) (args:=[.agg [.seg 0 192],.agg [.var 1,.var 2,.var 3,.var 4,.var 5,.var 6,.var 7,.var 8,.var 9,.var 10,.var 11,.var 12,.var 13,.var 14,.var 15,.var 16],.one (.var 17),.agg [.var 18,.var 19],.agg [.var 20,.var 21,.var 22,.var 23,.var 24,.var 25,.var 26,.var 27,.var 28,.var 29,.var 30,.var 31,.var 32,.var 33,.var 34,.var 35],.one (.var 36)]) (vals:=[agg cs0,int .i64 n1,int .i64 n2,int .i64 n3,int .i64 n4,int .i64 n5,int .i64 n6,int .i64 n7,int .i64 n8,int .i64 n9,int .i64 n10,int .i64 n11,int .i64 n12,int .i64 n13,int .i64 n14,int .i64 n15,int .i64 n16,int .i64 n17,int .i64 n18,int .i64 n19,int .i64 n20,int .i64 n21,int .i64 n22,int .i64 n23,int .i64 n24,int .i64 n25,int .i64 n26,int .i64 n27,int .i64 n28,int .i64 n29,int .i64 n30,int .i64 n31,int .i64 n32,int .i64 n33,int .i64 n34,int .i64 n35,bool b36]) (kinds:=[.seg 192,.int .i64,.int .i64,.int .i64,.int .i64,.int .i64,.int .i64,.int .i64,.int .i64,.int .i64,.int .i64,.int .i64,.int .i64,.int .i64,.int .i64,.int .i64,.int .i64,.int .i64,.int .i64,.int .i64,.int .i64,.int .i64,.int .i64,.int .i64,.int .i64,.int .i64,.int .i64,.int .i64,.int .i64,.int .i64,.int .i64,.int .i64,.int .i64,.int .i64,.int .i64,.int .i64,.bool]) (by kernel_rfl) (by exact ⟨⟨cs0,rfl,hcs0⟩,⟨⟨_,rfl⟩,⟨⟨_,rfl⟩,⟨⟨_,rfl⟩,⟨⟨_,rfl⟩,⟨⟨_,rfl⟩,⟨⟨_,rfl⟩,⟨⟨_,rfl⟩,⟨⟨_,rfl⟩,⟨⟨_,rfl⟩,⟨⟨_,rfl⟩,⟨⟨_,rfl⟩,⟨⟨_,rfl⟩,⟨⟨_,rfl⟩,⟨⟨_,rfl⟩,⟨⟨_,rfl⟩,⟨⟨_,rfl⟩,⟨⟨_,rfl⟩,⟨⟨_,rfl⟩,⟨⟨_,rfl⟩,⟨⟨_,rfl⟩,⟨⟨_,rfl⟩,⟨⟨_,rfl⟩,⟨⟨_,rfl⟩,⟨⟨_,rfl⟩,⟨⟨_,rfl⟩,⟨⟨_,rfl⟩,⟨⟨_,rfl⟩,⟨⟨_,rfl⟩,⟨⟨_,rfl⟩,⟨⟨_,rfl⟩,⟨⟨_,rfl⟩,⟨⟨_,rfl⟩,⟨⟨_,rfl⟩,⟨⟨_,rfl⟩,⟨⟨_,rfl⟩,⟨⟨_,rfl⟩,trivial⟩⟩⟩⟩⟩⟩⟩⟩⟩⟩⟩⟩⟩⟩⟩⟩⟩⟩⟩⟩⟩⟩⟩⟩⟩⟩⟩⟩⟩⟩⟩⟩⟩⟩⟩⟩⟩) (by kernel_rfl) (by kernel_rfl) h
end Go.Proofs.YtmilhgkacmofmaaGreat

namespace Go.Proofs.YtmilhgkacmofmaaGreat
open Go.RowKit Num Plain W32
open Sy (Up Sees CallsG Seg)
section
variable {k k' : World} {R : World→Value→Prop} {K L : Nat} {cs cs' c0 c1 c2 c3 : Array Value} {f : Nat→Q4} {p v : W4} {q : Rat} {n : Int}
def prc (p : W4) (n k : Nat) : Q4:=(p.conj.mul (trn (23*n*k))).re
def offP (d m : Q4) : Prop:=C.sg d.toQ < 0∨0 < sgd d m
def badP (d m : Q4) (c : Int) : Prop:=(d = Q4.zero∧0 < c)∨(d = m∧c < 0)∨(d ≠ Q4.zero∧d ≠ m∧c ≠ 0)
def grP (n : Int) (q : Rat) : Prop:=1≤n∧n≤11∧0 < q
def certP (f : Nat→Q4) (p : W4) (n : Int) (q : Rat) (v : W4) : Prop:=grP n q∧(∀ i,i < 24→¬ offP (f i) (Q4.real q))∧ordW f n.toNat = v∧∀ i,i < 24→¬ badP (f i) (Q4.real q) (sgd (prc p n.toNat i) (Q4.real 1))
theorem grind_s (hq : RatV k cs q K) (hK : K≤17179869184) (C : ∀ k' b,Up k k'→(b = true↔grP n q)→R k' (.bool b)) :
 Cl k 23 #[.int .i64 n,.agg cs] R:=by
 intro k0 u0
 replace C:=fun k' b u=>C k' b (u0.trans u)
 unfold grP at C
 refine ogrind_vc (hq.up u0).seg ⟨fun h=>⟨fun h'=>QSign_s (hq.up u0) hK fun k1 u1=>⟨_,rfl,fun k2 u2=>C k2 _ (u1.trans u2) ?_⟩,fun h' k1 u1=>C k1 _ u1 ?_⟩,fun h k1 u1=>C k1 _ u1 ?_⟩
 ·have:=of_decide_eq_true h
  have:=of_decide_eq_true h'
  rw [decide_eq_true_iff,sgn_gt]
  exact ⟨fun h=>⟨by omega,by omega,h⟩,fun h=>h.2.2⟩
 ·have:=of_decide_eq_false h'
  exact ⟨fun h=>(nomatch h),fun h=>by omega⟩
 ·have:=of_decide_eq_false h
  exact ⟨fun h=>(nomatch h),fun h=>by omega⟩
theorem along_s {x y : W4} (hx : WaveV k cs x K) (hy : WaveV k cs' y 1) (hK1 : 1≤K) (hK : K≤1000000) (C : ∀ k' ds,Up k k'→SurdV k' ds (x.conj.mul y).re (2*K+5)→R k' (.agg ds)) :
 Cl k 29 #[.agg cs,.agg cs'] R:=by
 intro k0 u0
 refine oalong_vc hx.seg hy.seg (WConj_s (hx.up u0) (by omega) fun k1 d1 u1 h1=>⟨d1,h1.seg,rfl,?_⟩)
 refine WMul_w h1 ((hy.up u0).up u1) hK1 (by decide) (by omega) (by decide) fun k2 d2 u2 h2=>⟨d2,h2.seg,rfl,?_⟩
 exact WRe_s h2 fun k3 d3 u3 h3=>⟨d3,h3.seg,rfl,fun k4 u4=>C k4 d3 ((((u0.trans u1).trans u2).trans u3).trans u4) (SurdV.mono (h3.up u4) (by omega))⟩
theorem real_ne {q : Rat} (h : 0 < q) : Q4.real q ≠ Q4.zero:=fun e=>by
 have : q = 0:=congrArg Q4.a e
 subst this
 exact absurd h (by decide +kernel)
theorem cert_s (hv : WaveV k c0 v (24*K+75)) (hq : RatV k c1 q 1) (hf : RoundV k c2 f K) (hp : WaveV k c3 p K) (hK1 : 1≤K) (hK : K≤10000) (C : ∀ k' b,Up k k'→(b = true↔certP f p n q v)→R k' (.bool b)) :
 Cl k 9 #[.agg c0,.int .i64 n,.agg c1,.agg (c2.toList ++ (c3.toList ++ ([]))).toArray] R:=by
 intro k0 u0
 replace hv:=hv.up u0
 replace hq:=hq.up u0
 replace hf:=hf.up u0
 replace hp:=hp.up u0
 replace C:=fun k' b u=>C k' b (u0.trans u)
 have no : ¬ certP f p n q v→∀ k',Up k0 k'→R k' (.bool false):=fun h k' u=>C k' false u ⟨fun e=>(nomatch e),fun e=>absurd e h⟩
 refine ocert_vc hv.seg hq.seg hf.seg hp.seg (grind_s hq (by decide) fun k1 b1 u1 e1=>⟨b1,rfl,fun h=>?_,fun h=>?_⟩)
 ·have h : b1 = false:=by simpa using h
  exact fun k2 u2=>no (fun c=>by rw [h] at e1; exact absurd (e1.2 c.1) (by decide)) k2 (u1.trans u2)
 have hg : grP n q:=e1.1 (by simpa using h)
 obtain ⟨n,rfl⟩:=Int.eq_ofNat_of_zero_le (show 0≤n by unfold grP at hg; omega)
 have hn : n < 13:=by unfold grP at hg; omega
 have hz:=real_ne hg.2.2
 refine fun k2 u2=>oeffect_vc ((hf.up u1).up u2).seg (oord_s ((hf.up u1).up u2) hn hK1 (by omega) fun k3 d3 u3 h3=>⟨d3,h3.seg,rfl,fun k4 u4=>⟨d3,h3.seg,rfl,?_⟩⟩)
 have u14:=((u1.trans u2).trans u3).trans u4
 refine WSame_s (h3.up u4) (hv.up u14) (by omega) (by omega) fun k5 u5=>⟨_,rfl,fun h=>?_,fun h=>?_⟩
 ·have h : ordW f n ≠ v:=by simpa using h
  exact fun k6 u6=>no (fun c=>h c.2.2.1) k6 ((u14.trans u5).trans u6)
 have hvv : ordW f n = v:=by simpa using h
 have u15:=u14.trans u5
 refine SOf_s (SurdV.nil (K:=1) (Nat.zero_le _)) (hq.up u15) fun k6 m6 u6 hm=>⟨m6,hm.seg,rfl,?_⟩
 have u16:=u15.trans u6
 replace hf:=hf.up u16
 replace hp:=hp.up u16
 have hm : SurdV k6 m6 (Q4.real q) K:=hm.mono hK1
 refine ⟨fun m' k' vs=>∃ j,j+m' = 24∧vs = [.int .i64 ((j : Nat) : Int)]∧∀ i,i < j→¬ offP (f i) (Q4.real q)∧¬ badP (f i) (Q4.real q) (sgd (prc p n i) (Q4.real 1)),⟨24,fun k' u=>⟨0,rfl,rfl,fun i hi=>absurd hi (Nat.not_lt_zero _)⟩⟩,?_⟩
 rintro m' k7 vs u7 ⟨j,hj,rfl,hin⟩
 refine ⟨_,rfl,fun hlt=>?_,fun hge k8 u8=>?_⟩
 rotate_left
 ·have hge:=ge24 hge
  exact C k8 true ((u16.trans u7).trans u8) ⟨fun _=>⟨hg,fun i hi=>(hin i (by omega)).1,hvv,fun i hi=>(hin i (by omega)).2⟩,fun _=>rfl⟩
 have hlt:=lt24 hlt
 have u17:=u16.trans u7
 have he : ∀ k',Up k7 k'→SurdV k' (Sy.pickL c2 (Int.toNat (j : Int)*9+0) 9).toArray (f j) K:=fun k' u=>ArrV.get ((hf.up u7).up u) hlt
 refine ⟨ix24 hlt,SSign_s (he k7 (Up.refl k7)) (by omega) fun k8 u8=>⟨_,rfl,fun h=>?_,fun h=>?_⟩⟩
 ·have h:=of_decide_eq_true h
  exact fun k9 u9=>no (fun c=>c.2.1 j hlt (Or.inl h)) k9 ((u17.trans u8).trans u9)
 have o1:=of_decide_eq_false h
 refine SCmp_s (he k8 u8) ((hm.up u7).up u8) hK1 (by omega) fun k9 u9=>⟨_,rfl,fun h=>?_,fun h=>?_⟩
 ·have h : 0 < sgd (f j) (Q4.real q):=of_decide_eq_true h
  exact fun k10 u10=>no (fun c=>c.2.1 j hlt (Or.inr h)) k10 (((u17.trans u8).trans u9).trans u10)
 have o2 : ¬ 0 < sgd (f j) (Q4.real q):=of_decide_eq_false h
 have noff : ¬ offP (f j) (Q4.real q):=fun h=>h.elim o1 o2
 have u79:=u8.trans u9
 refine xturn_s fun k10 d10 u10 hT=>⟨d10,hT.seg,rfl,?_⟩
 rw [plc_ord hn hlt] at hT
 refine along_s (((hp.up u7).up u79).up u10) hT hK1 (by omega) fun k11 d11 u11 h11=>⟨d11,h11.seg,rfl,?_⟩
 refine owhole_s (n:=1) (by decide) (by decide) fun k12 d12 u12 h12=>⟨d12,h12.seg,rfl,?_⟩
 have e1 : Q4.real (((1 : Int) : Rat)) = Q4.real 1:=rfl
 rw [e1] at h12
 refine SCmp_s (h11.up u12) (h12.mono (by omega)) (by omega) (by omega) fun k13 u13=>⟨_,rfl,?_⟩
 have u713:=(((u79.trans u10).trans u11).trans u12).trans u13
 show ∀ k25,Up k13 k25→_
 have ec : Plain.C.sg ((prc p n j).sub (Q4.real 1)).toQ = sgd (prc p n j) (Q4.real 1):=rfl
 unfold prc at ec
 rw [ec]
 generalize hcc : sgd (p.conj.mul (trn (23*n*j))).re (Q4.real 1) = cc
 have stop : badP (f j) (Q4.real q) cc→∀ k' k'',Up k13 k'→Up k' k''→R k'' (.bool false):=fun h k' k'' u u'=>no (fun c=>c.2.2.2 j hlt (by
  show badP _ _ (sgd (prc p n j) _)
  unfold prc; rw [hcc]; exact h)) k'' (((u17.trans u713).trans u).trans u')
 have again : ¬ badP (f j) (Q4.real q) cc→∀ _ : World,∃ m,m < m'∧∃ i,i+m = 24∧[Value.int .i64 (IntKind.wrap .i64 ((j : Int)+1))] = [.int .i64 ((i : Nat) : Int)]∧∀ i',i' < i→¬ offP (f i') (Q4.real q)∧¬ badP (f i') (Q4.real q) (sgd (prc p n i') (Q4.real 1)):=fun h _=>by
  refine ⟨m' - 1,by omega,j+1,by omega,by rw [wup (by omega)],fun i hi=>?_⟩
  by_cases e : i = j
  ·subst e
   refine ⟨noff,?_⟩
   unfold prc; rw [hcc]; exact h
  ·exact hin i (by omega)
 unfold badP at stop again
 refine SZero_d (he k13 u713) (by omega) fun k14 u14=>⟨_,rfl,fun h=>?_,fun h=>?_⟩
 ·have h0 : f j = Q4.zero:=of_decide_eq_true h
  have h1 : f j ≠ Q4.real q:=fun e=>hz (e.symm.trans h0)
  refine ⟨fun g k15 u15=>stop (Or.inl ⟨h0,of_decide_eq_true g⟩) k14 k15 u14 u15,fun g k15 u15=>again (fun h=>?_) k15⟩
  have g:=of_decide_eq_false g
  rcases h with ⟨_,h⟩ | ⟨h,_⟩ | ⟨h,_⟩
  ·exact g h
  ·exact h1 h
  ·exact h h0
 ·have h0 : f j ≠ Q4.zero:=of_decide_eq_false h
  refine SSame_d (he k14 (u713.trans u14)) (hm.up ((u7.trans u713).trans u14)) hK1 (by omega) fun k15 u15=>⟨_,rfl,fun h=>?_,fun h=>?_⟩
  ·have h1 : f j = Q4.real q:=of_decide_eq_true h
   refine ⟨fun g k16 u16=>stop (Or.inr (Or.inl ⟨h1,of_decide_eq_true g⟩)) k15 k16 (u14.trans u15) u16,fun g k16 u16=>again (fun h=>?_) k16⟩
   have g:=of_decide_eq_false g
   rcases h with ⟨h,_⟩ | ⟨_,h⟩ | ⟨_,h,_⟩
   ·exact h0 h
   ·exact g h
   ·exact h h1
  ·have h1 : f j ≠ Q4.real q:=of_decide_eq_false h
   refine ⟨fun g k16 u16=>stop (Or.inr (Or.inr ⟨h0,h1,by simpa using g⟩)) k15 k16 (u14.trans u15) u16,fun g k16 u16=>again (fun h=>?_) k16⟩
   have g : cc = 0:=by simpa using g
   rcases h with ⟨h,_⟩ | ⟨h,_⟩ | ⟨_,_,h⟩
   ·exact h0 h
   ·exact h1 h
   ·exact h g
theorem rgrind_v (hq : QV k cs q K) (C : ∀ k' b,Up k k'→(b = true↔grP n q)→R k' (.bool b)) :
 Cl k 36 #[.int .i64 n,.agg cs] R:=by
 intro k0 u0
 replace C:=fun k' b u=>C k' b (u0.trans u)
 unfold grP at C
 refine rgrind_vc (hq.up u0).seg ⟨fun h=>⟨fun h'=>sign_v (hq.up u0) fun k1 u1=>⟨_,rfl,fun k2 u2=>C k2 _ (u1.trans u2) ?_⟩,fun h' k1 u1=>C k1 _ u1 ?_⟩,fun h k1 u1=>C k1 _ u1 ?_⟩
 ·have:=of_decide_eq_true h
  have:=of_decide_eq_true h'
  rw [decide_eq_true_iff,sgn_gt]
  exact ⟨fun h=>⟨by omega,by omega,h⟩,fun h=>h.2.2⟩
 ·have:=of_decide_eq_false h'
  exact ⟨fun h=>(nomatch h),fun h=>by omega⟩
 ·have:=of_decide_eq_false h
  exact ⟨fun h=>(nomatch h),fun h=>by omega⟩
theorem rlimited_v (hf : RoundQ k c2 f K) (hq : QV k c1 q 2) (hK : K≤10000) (C : ∀ k' b,Up k k'→(b = true↔∀ i,i < 24→¬ offP (f i) (Q4.real q))→R k' (.bool b)) :
 Cl k 37 #[.agg c2,.agg c1] R:=by
 intro k0 u0
 replace hf:=hf.up u0
 replace hq:=hq.up u0
 replace C:=fun k' b u=>C k' b (u0.trans u)
 refine rlimited_vc hf.seg hq.seg ⟨fun m' k' vs=>∃ j,j+m' = 24∧vs = [.int .i64 ((j : Nat) : Int)]∧∀ i,i < j→¬ offP (f i) (Q4.real q),⟨24,fun k' u=>⟨0,rfl,rfl,fun i hi=>absurd hi (Nat.not_lt_zero _)⟩⟩,?_⟩
 rintro m' k1 vs u1 ⟨j,hj,rfl,hin⟩
 refine ⟨_,rfl,fun hlt=>?_,fun hge k2 u2=>C k2 true (u1.trans u2) ⟨fun _ i hi=>hin i (by have:=ge24 hge; omega),fun _=>rfl⟩⟩
 have hlt:=lt24 hlt
 have no : offP (f j) (Q4.real q)→∀ k' k'',Up k1 k'→Up k' k''→R k'' (.bool false):=fun h k' k'' u u'=>C k'' false ((u1.trans u).trans u') ⟨fun e=>(nomatch e),fun e=>absurd h (e j hlt)⟩
 have he : ∀ k',Up k1 k'→SQ k' (Sy.pickL c2 (Int.toNat (j : Int)*12+0) 12).toArray (f j) K:=fun k' u=>ArrV.get ((hf.up u1).up u) hlt
 refine ⟨ix24 hlt,ssign_v (he k1 (Up.refl k1)) (by omega) fun k2 u2=>⟨_,rfl,fun h k3 u3=>no (Or.inl (of_decide_eq_true h)) k2 k3 u2 u3,fun h=>⟨ix24 hlt,?_⟩⟩⟩
 have o1:=of_decide_eq_false h
 refine real_v ((hq.up u1).up u2) (by decide) fun k3 m3 u3 hm=>⟨m3,hm.seg,rfl,?_⟩
 refine scmp_v (he k3 (u2.trans u3)) hm (by omega) fun k4 u4=>⟨_,rfl,fun h k5 u5=>no (Or.inr (of_decide_eq_true h)) k4 k5 ((u2.trans u3).trans u4) u5,fun h k5 u5=>?_⟩
 have o2 : ¬ 0 < sgd (f j) (Q4.real q):=of_decide_eq_false h
 refine ⟨m' - 1,by omega,j+1,by omega,by rw [wup (by omega)],fun i hi=>?_⟩
 by_cases e : i = j
 ·subst e; exact fun h=>h.elim o1 o2
 ·exact hin i (by omega)
theorem rprice_v {m j : Nat} (hp : WQ k cs p K) (hm : m < 13) (hj : j < 24) (hK : K≤1000000) (C : ∀ k' ds,Up k k'→SQ k' ds (prc p m j) (8*K+61)→R k' (.agg ds)) :
 Cl k 41 #[.agg cs,.int .i64 (m : Int),.int .i64 (j : Int)] R:=by
 intro k0 u0
 replace hp:=hp.up u0
 have hp':=hp
 obtain ⟨pa,pb,rfl,ha,hb⟩:=hp'
 refine rprice_vc ha.seg hb.seg (wconj_v hp (by omega) fun k1 d1 u1 h1=>?_)
 have h1':=h1
 obtain ⟨ca,cb,rfl,hca,hcb⟩:=h1'
 refine ⟨ca,hca.seg,cb,hcb.seg,rfl,?_⟩
 refine rturn_v fun k2 d2 u2 hT=>?_
 rw [plc_ord hm hj] at hT
 have hT':=hT
 obtain ⟨ta,tb,rfl,hta,htb⟩:=hT'
 refine ⟨ta,hta.seg,tb,htb.seg,rfl,?_⟩
 refine wmul_v (h1.up u2) hT (by omega) fun k3 d3 u3 h3=>?_
 obtain ⟨ma,mb,rfl,hma,hmb⟩:=h3
 refine ⟨ma,hma.seg,mb,hmb.seg,rfl,fun k4 u4=>?_⟩
 exact C k4 ma ((((u0.trans u1).trans u2).trans u3).trans u4) (SQ.mono (hma.up u4) (by omega))
theorem rcert_v (hv : WQ k c0 v L) (hL : L≤1000000) (hq : QV k c1 q 2) (hf : RoundQ k c2 f K) (hp : WQ k c3 p K) (hK : K≤1000) (C : ∀ k' b,Up k k'→(b = true↔certP f p n q v)→R k' (.bool b)) :
 Cl k 11 #[.agg c0,.int .i64 n,.agg c1,.agg (c2.toList ++ (c3.toList ++ ([]))).toArray] R:=by
 intro k0 u0
 replace hv:=hv.up u0
 replace hq:=hq.up u0
 replace hf:=hf.up u0
 replace hp:=hp.up u0
 replace C:=fun k' b u=>C k' b (u0.trans u)
 have no : ¬ certP f p n q v→∀ k',Up k0 k'→R k' (.bool false):=fun h k' u=>C k' false u ⟨fun e=>(nomatch e),fun e=>absurd e h⟩
 refine rcert_vc hv.seg hq.seg hf.seg hp.seg (rgrind_v hq fun k1 b1 u1 e1=>⟨b1,rfl,fun h=>?_,fun h=>?_⟩)
 ·have h : b1 = false:=by simpa using h
  exact fun k2 u2=>no (fun c=>by rw [h] at e1; exact absurd (e1.2 c.1) (by decide)) k2 (u1.trans u2)
 have hg : grP n q:=e1.1 (by simpa using h)
 obtain ⟨n,rfl⟩:=Int.eq_ofNat_of_zero_le (show 0≤n by unfold grP at hg; omega)
 have hn : n < 13:=by unfold grP at hg; omega
 refine rlimited_v (hf.up u1) (hq.up u1) (by omega) fun k2 b2 u2 e2=>⟨b2,rfl,fun h=>?_,fun h=>?_⟩
 ·have h : b2 = false:=by simpa using h
  exact fun k3 u3=>no (fun c=>by rw [h] at e2; exact absurd (e2.2 c.2.1) (by decide)) k3 ((u1.trans u2).trans u3)
 have hoff:=e2.1 (by simpa using h)
 have u12:=u1.trans u2
 refine fun k3 u3=>reffect_vc ((hf.up u12).up u3).seg (rorder_v ((hf.up u12).up u3) hn (by omega) fun k4 d4 u4 h4=>⟨d4,h4.seg,rfl,fun k5 u5=>⟨d4,h4.seg,rfl,?_⟩⟩)
 have u15:=((u12.trans u3).trans u4).trans u5
 refine wsame_v (h4.up u5) (hv.up u15) (by omega) fun k6 u6=>⟨_,rfl,fun h=>?_,fun h=>?_⟩
 ·have h : ordW f n ≠ v:=by simpa using h
  exact fun k7 u7=>no (fun c=>h c.2.2.1) k7 ((u15.trans u6).trans u7)
 have hvv : ordW f n = v:=by simpa using h
 have u16:=u15.trans u6
 replace hf:=hf.up u16
 replace hp:=hp.up u16
 replace hq:=hq.up u16
 refine ⟨fun m' k' vs=>∃ j,j+m' = 24∧vs = [.int .i64 ((j : Nat) : Int)]∧∀ i,i < j→¬ badP (f i) (Q4.real q) (sgd (prc p n i) (Q4.real 1)),⟨24,fun k' u=>⟨0,rfl,rfl,fun i hi=>absurd hi (Nat.not_lt_zero _)⟩⟩,?_⟩
 rintro m' k7 vs u7 ⟨j,hj,rfl,hin⟩
 refine ⟨_,rfl,fun hlt=>?_,fun hge k8 u8=>?_⟩
 rotate_left
 ·have hge:=ge24 hge
  exact C k8 true ((u16.trans u7).trans u8) ⟨fun _=>⟨hg,hoff,hvv,fun i hi=>hin i (by omega)⟩,fun _=>rfl⟩
 have hlt:=lt24 hlt
 have u17:=u16.trans u7
 have he : ∀ k',Up k7 k'→SQ k' (Sy.pickL c2 (Int.toNat (j : Int)*12+0) 12).toArray (f j) K:=fun k' u=>ArrV.get ((hf.up u7).up u) hlt
 have i1 : In64 1:=⟨by decide,by decide⟩
 refine rprice_v (hp.up u7) hn hlt (by omega) fun k8 d8 u8 h8=>⟨d8,h8.seg,rfl,?_⟩
 refine rfraction_v i1 i1 fun k9 d9 u9 h9=>⟨d9,h9.seg,rfl,?_⟩
 have e1' : Q4.real (((1 : Int) : Rat) / ((1 : Int) : Rat)) = Q4.real 1:=by decide +kernel
 rw [e1'] at h9
 refine scmp_v (h8.up u9) h9 (by omega) fun k10 u10=>⟨_,rfl,ix24 hlt,?_⟩
 have u710:=(u8.trans u9).trans u10
 have ec : Plain.C.sg ((prc p n j).sub (Q4.real 1)).toQ = sgd (prc p n j) (Q4.real 1):=rfl
 rw [ec]
 refine szero_v (he k10 u710) fun k11 u11=>⟨_,rfl,ix24 hlt,?_⟩
 refine real_v ((hq.up u7).up (u710.trans u11)) (by decide) fun k12 m12 u12 hm=>⟨m12,hm.seg,rfl,?_⟩
 have u712:=(u710.trans u11).trans u12
 refine ssame_v (he k12 u712) hm (by omega) fun k13 u13=>⟨_,rfl,?_⟩
 have u713:=u712.trans u13
 have stop : badP (f j) (Q4.real q) (sgd (prc p n j) (Q4.real 1))→∀ k'',Up k13 k''→R k'' (.bool false):=fun h k'' u=>no (fun c=>c.2.2.2 j hlt h) k'' ((u17.trans u713).trans u)
 have again : ¬ badP (f j) (Q4.real q) (sgd (prc p n j) (Q4.real 1))→∀ k'',Up k13 k''→∃ m,m < m'∧∃ i,i+m = 24∧[Value.int .i64 (IntKind.wrap .i64 ((j : Int)+1))] = [.int .i64 ((i : Nat) : Int)]∧∀ i',i' < i→¬ badP (f i') (Q4.real q) (sgd (prc p n i') (Q4.real 1)):=fun h _ _=>by
  refine ⟨m' - 1,by omega,j+1,by omega,by rw [wup (by omega)],fun i hi=>?_⟩
  by_cases e : i = j
  ·subst e; exact h
  ·exact hin i (by omega)
 generalize sgd (prc p n j) (Q4.real 1) = cc at *
 unfold badP at stop again
 by_cases h0 : f j = Q4.zero
 ·by_cases h1 : f j = Q4.real q
  ·rw [decide_eq_true h0,decide_eq_true h1]
   refine ⟨fun _=>⟨fun g=>stop (Or.inl ⟨h0,of_decide_eq_true g⟩),fun g=>⟨fun _=>⟨fun g'=>stop (Or.inr (Or.inl ⟨h1,of_decide_eq_true g'⟩)),fun g'=>⟨fun h=>(nomatch h),fun _=>again ?_⟩⟩,fun h=>(nomatch h)⟩⟩,fun h=>(nomatch h)⟩
   have g:=of_decide_eq_false g
   have g':=of_decide_eq_false g'
   rintro (⟨_,h⟩ | ⟨_,h⟩ | ⟨h,_⟩)
   ·exact g h
   ·exact g' h
   ·exact h h0
  ·rw [decide_eq_true h0,decide_eq_false h1]
   refine ⟨fun _=>⟨fun g=>stop (Or.inl ⟨h0,of_decide_eq_true g⟩),fun g=>⟨fun h=>(nomatch h),fun _=>⟨fun h=>(nomatch h),fun _=>again ?_⟩⟩⟩,fun h=>(nomatch h)⟩
   have g:=of_decide_eq_false g
   rintro (⟨_,h⟩ | ⟨h,_⟩ | ⟨h,_⟩)
   ·exact g h
   ·exact h1 h
   ·exact h h0
 ·by_cases h1 : f j = Q4.real q
  ·rw [decide_eq_false h0,decide_eq_true h1]
   refine ⟨fun h=>(nomatch h),fun _=>⟨fun _=>⟨fun g'=>stop (Or.inr (Or.inl ⟨h1,of_decide_eq_true g'⟩)),fun g'=>⟨fun _=>⟨fun h=>(nomatch h),fun _=>again ?_⟩,fun h=>(nomatch h)⟩⟩,fun h=>(nomatch h)⟩⟩
   have g':=of_decide_eq_false g'
   rintro (⟨h,_⟩ | ⟨_,h⟩ | ⟨_,h,_⟩)
   ·exact h0 h
   ·exact g' h
   ·exact h h1
  ·rw [decide_eq_false h0,decide_eq_false h1]
   refine ⟨fun h=>(nomatch h),fun _=>⟨fun h=>(nomatch h),fun _=>⟨fun _=>⟨fun _=>⟨fun g=>stop (Or.inr (Or.inr ⟨h0,h1,by simpa using g⟩)),fun g=>again ?_⟩,fun h=>(nomatch h)⟩,fun h=>(nomatch h)⟩⟩⟩
   have g : cc = 0:=by simpa using g
   rintro (⟨h,_⟩ | ⟨h,_⟩ | ⟨_,_,h⟩)
   ·exact h0 h
   ·exact h1 h
   ·exact h g
theorem both_s {c4 c6 c7 : Array Value} {n0 n1 : Int} (i0 : In64 n0) (i1 : In64 n1) (hv : WaveV k c0 v 219) (hw : WQ k c4 v 3782) (hf : RoundV k c2 f 6) (hg : RoundQ k c6 f 2) (hp : WaveV k c3 p 6) (hr : WQ k c7 p 2) (C : ∀ k',Up k k'→R k' (.bool true)) :
 Cl k 10 #[.agg #[.int .i64 n0,.int .i64 n1]] fun k1 r1=>Gt 3 r1 fun cs43 =>
  Cl k1 9 #[.agg c0,.int .i64 n,.agg cs43,.agg (c2.toList ++ (c3.toList ++ ([]))).toArray] fun k3 r2=>∃ b44,some (Value.bool b44) = some r2 ∧
  Cl k3 12 #[.agg #[.int .i64 n0,.int .i64 n1]] fun k5 r3=>Gt 3 r3 fun cs45 =>
  Cl k5 11 #[.agg c4,.int .i64 n,.agg cs45,.agg (c6.toList ++ (c7.toList ++ ([]))).toArray] fun k7 r4=>∃ b46,some (Value.bool b46) = some r4 ∧
  ((b44 == b46) = true→(Cl k7 13 #[] fun k9 r5=>∃ b47,some (Value.bool b47) = some r5∧∀ k10,Up k9 k10→R k10 (Value.bool b47))) ∧
  ((b44 == b46) = false→(∀ k11,Up k7 k11→R k11 (Value.bool false))):=by
 intro k0 u0
 refine Of_s i0 i1 ?_ k0 (Up.refl k0)
 intro k1 d1 u1 q1
 refine ⟨d1,q1.seg,rfl,?_⟩
 have u:=u0.trans u1
 refine cert_s (hv.up u) q1 (hf.up u) (hp.up u) (by decide) (by decide) fun k3 b u3 e=>⟨b,rfl,?_⟩
 refine of_v i0 i1 fun k5 d5 u5 q5=>⟨d5,q5.seg,rfl,?_⟩
 have u':=(u.trans u3).trans u5
 refine rcert_v (hw.up u') (by decide) q5 (hg.up u') (hr.up u') (by decide) fun k7 b' u7 e'=>⟨b',rfl,fun _=>?_,fun h=>?_⟩
 ·exact lawake_s fun k9 u9=>⟨_,rfl,fun k10 u10=>C k10 (((u'.trans u7).trans u9).trans u10)⟩
 ·exfalso
  have : b = b':=Bool.eq_iff_iff.2 (e.trans e'.symm)
  rw [this] at h
  simp at h
set_option maxRecDepth 4000 in
theorem ocertified_s {n1 n2 n3 n4 n5 n6 n7 n8 n9 n10 n11 n12 n13 n14 n15 n16 n18 n19 n20 n21 n22 n23 n24 n25 n26 n27 n28 n29 n30 n31 n32 n33 n34 n35 : Int} (hx : ArrV 24 8 IsQuad cs f) (i1 : In64 n1) (i2 : In64 n2) (i3 : In64 n3) (i4 : In64 n4) (i5 : In64 n5) (i6 : In64 n6) (i7 : In64 n7) (i8 : In64 n8) (i9 : In64 n9) (i10 : In64 n10) (i11 : In64 n11) (i12 : In64 n12) (i13 : In64 n13) (i14 : In64 n14) (i15 : In64 n15) (i16 : In64 n16) (n17 : Int) (i18 : In64 n18) (i19 : In64 n19) (i20 : In64 n20) (i21 : In64 n21) (i22 : In64 n22) (i23 : In64 n23) (i24 : In64 n24) (i25 : In64 n25) (i26 : In64 n26) (i27 : In64 n27) (i28 : In64 n28) (i29 : In64 n29) (i30 : In64 n30) (i31 : In64 n31) (i32 : In64 n32) (i33 : In64 n33) (i34 : In64 n34) (i35 : In64 n35) (b36 : Bool) (C : ∀ k',Up k k'→R k' (.bool true)) :
 Cl k 3 #[.agg cs,.agg #[.int .i64 n1,.int .i64 n2,.int .i64 n3,.int .i64 n4,.int .i64 n5,.int .i64 n6,.int .i64 n7,.int .i64 n8,.int .i64 n9,.int .i64 n10,.int .i64 n11,.int .i64 n12,.int .i64 n13,.int .i64 n14,.int .i64 n15,.int .i64 n16],.int .i64 n17,.agg #[.int .i64 n18,.int .i64 n19],.agg #[.int .i64 n20,.int .i64 n21,.int .i64 n22,.int .i64 n23,.int .i64 n24,.int .i64 n25,.int .i64 n26,.int .i64 n27,.int .i64 n28,.int .i64 n29,.int .i64 n30,.int .i64 n31,.int .i64 n32,.int .i64 n33,.int .i64 n34,.int .i64 n35],.bool b36] R:=by
 intro k0 u0
 refine ocertified_vc (ArrV.seg hx fun _ _ h=>h.seg) (rounds_s hx fun k1 a b u1 ha hb=>⟨a,ha.seg,b,hb.seg,rfl,?_⟩)
 refine OfWave_s i1 i2 i3 i4 i5 i6 i7 i8 i9 i10 i11 i12 i13 i14 i15 i16 fun k2 p u2 hp=>⟨p,hp.seg,rfl,?_⟩
 refine wofwave_v i1 i2 i3 i4 i5 i6 i7 i8 i9 i10 i11 i12 i13 i14 i15 i16 fun k3 r u3 hr=>⟨r,hr.seg,rfl,?_⟩
 refine OfWave_s i20 i21 i22 i23 i24 i25 i26 i27 i28 i29 i30 i31 i32 i33 i34 i35 fun k4 v u4 hv=>⟨v,hv.seg,rfl,?_⟩
 refine wofwave_v i20 i21 i22 i23 i24 i25 i26 i27 i28 i29 i30 i31 i32 i33 i34 i35 fun k5 w u5 hw=>⟨w,hw.seg,rfl,?_⟩
 have u35:=(u3.trans u4).trans u5
 replace ha:=(ha.up u2).up u35
 replace hb:=(hb.up u2).up u35
 replace hp:=hp.up u35
 replace hr:=(hr.up u4).up u5
 replace hv:=(hv.up u5).mono (show 6≤219 by decide)
 replace hw:=hw.mono (show 2≤3782 by decide)
 replace C:=fun k' u=>C k' ((((u0.trans u1).trans u2).trans u35).trans u)
 clear u0 u1 u2 u3 u4 u5 u35 i1 i2 i3 i4 i5 i6 i7 i8 i9 i10 i11 i12 i13 i14 i15 i16 i20 i21 i22 i23 i24 i25 i26 i27 i28 i29 i30 i31 i32 i33 i34 i35
 have rest:=both_s (R:=R) (n:=n17) i18 i19 hv hw ha hb hp hr C
 refine ⟨fun _=>⟨fun h0=>⟨fun h1=>?_,fun _=>rest⟩,fun _=>rest⟩,fun _=>rest⟩
 have h0:=of_decide_eq_true h0
 have h1:=of_decide_eq_true h1
 clear rest hv hw
 obtain ⟨n,rfl⟩:=Int.eq_ofNat_of_zero_le (show 0≤n17 by omega)
 have hn : n < 13:=by omega
 refine analyze_s ha (by decide) (by decide) fun k6 s u6 hs=>⟨s,hs.seg,rfl,ix13 hn,?_⟩
 refine rorder_v (hb.up u6) hn (by decide) fun k7 d u7 hd=>⟨d,hd.seg,rfl,?_⟩
 have u:=u6.trans u7
 exact both_s (R:=R) i18 i19 (ArrV.get (hs.up u7) hn) hd (ha.up u) (hb.up u) (hp.up u) (hr.up u) fun k' u'=>C k' (u.trans u')
end
end Go.Proofs.YtmilhgkacmofmaaGreat

