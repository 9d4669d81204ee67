/- Several texts in one. (Printed by prep.py.) -/
import Derived.Test.YtampehijkiencaaGreatRows
import Derived.WalkKit
import Derived.ProofKit
import Derived.OpenShut
import Derived.Carry
import Derived.Deep.Slices
import Derived.Test.YtampehijkiencaaGreatBwCZ6
namespace Go.Proofs.YtampehijkiencaaGreat.Row
open Go.ChangeShapes Go.WideShapes Go.ChangeAt Go.RowKit Num W32
open Sy (Seg RowC)
theorem own : ownKnob Tryz.prog.godebug = none:=by kernel_rfl
theorem laid : laidOutB Tryz.prog = true:=by kernel_rfl
theorem aMq {α : Type} {l : List α} (h : l.length = 2) : ∃ a b,l = [a,b]:=by
 match l,h with
 | [a,b],_=>exact ⟨a,b,rfl⟩
theorem vF {α : Type} {l : List α} (h : l.length = 3) : ∃ a b c,l = [a,b,c]:=by
 match l,h with
 | [a,b,c],_=>exact ⟨a,b,c,rfl⟩
theorem aBe {α : Type} {l : List α} (h : l.length = 4) : ∃ a b c d,l = [a,b,c,d]:=by
 match l,h with
 | [a,b,c,d],_=>exact ⟨a,b,c,d,rfl⟩
theorem aNw {α : Type} {l : List α} (h : l.length = 6) : ∃ a b c d e f,l = [a,b,c,d,e,f]:=by
 match l,h with
 | [a,b,c,d,e,f],_=>exact ⟨a,b,c,d,e,f,rfl⟩
theorem aIo {α : Type} {l : List α} (h : l.length = 7) : ∃ a b c d e f g,l = [a,b,c,d,e,f,g]:=by
 match l,h with
 | [a,b,c,d,e,f,g],_=>exact ⟨a,b,c,d,e,f,g,rfl⟩
theorem aEx {W : World} {a : Addr} {u : Value} (h : W.cell? a = some u) : a.spot = none∧a.block < W.heap.size:=by
 unfold World.cell? at h
 split at h
 ·rename_i hb
  refine ⟨?_,(Array.getElem?_eq_some_iff.1 hb).1⟩
  split at h
  ·cases h
  ·rename_i hs
   simpa using hs
 ·cases h
section
variable {H : Type} {enc : TypeId × Value→H} {W : World} {t : TypeId} {cs : List Value}
def TR (enc : TypeId × Value→H) (W : World) (t : TypeId) (cs : List Value) : Prop:=∃ fuel x,DataW.trod enc Tryz.prog W 0 (fun _=>true) true fuel t cs = some x
theorem TR.int (h : TR enc W t cs) (ht : Tryz.prog.underlying t = some (.int .i64)) : ∃ n,cs = [.int .i64 n]∧In64 n:=by
 obtain ⟨fuel,x,h⟩:=h
 obtain ⟨n,rfl,_,hw⟩:=DataW.trod_int ht h
 refine ⟨n,rfl,?_⟩
 simp only [Lit.wf,Bool.and_eq_true,decide_eq_true_eq] at hw
 obtain ⟨h1,h2⟩:=hw
 have e1 : IntKind.i64.min = -9223372036854775808:=rfl
 have e2 : IntKind.i64.max = 9223372036854775807:=rfl
 rw [e1] at h1
 rw [e2] at h2
 exact ⟨h1,by omega⟩
theorem TR.len {fs : Array Field} {m : Nat} (h : TR enc W t cs) (ht : Tryz.prog.underlying t = some (.struct fs)) (hm : Tryz.prog.cellsOf t = m) : cs.length = m:=by
 obtain ⟨fuel,x,h⟩:=h
 obtain ⟨xs,n,_,_,hl,_⟩:=DataW.trod_struct ht h
 rw [hl,hm]
theorem TR.part {fs : Array Field} (h : TR enc W t cs) (ht : Tryz.prog.underlying t = some (.struct fs)) (i t' o m : Nat) (hf : (fs[i]?).map (fun f=>(f.type,f.offset,Tryz.prog.cellsOf f.type)) = some (t',o,m)) : TR enc W t' ((cs.drop o).take m):=by
 obtain ⟨fuel,x,h⟩:=h
 obtain ⟨xs,n,_,_,_,hlen,hx⟩:=DataW.trod_struct ht h
 obtain ⟨f,h1,h2⟩:=Option.map_eq_some_iff.1 hf
 injection h2 with e1 h2
 injection h2 with e2 e3
 subst e1 e2 e3
 have hi : i < xs.length:=by rw [hlen]; exact (Array.getElem?_eq_some_iff.1 h1).1
 exact ⟨n,xs[i],by rw [hx i f h1,List.getElem?_eq_getElem hi]⟩
set_option maxHeartbeats 400000 in
theorem TR.list {α : Type} [Inhabited α] {P : Array Value→α→Prop} {e s : Nat} (h : TR enc W t cs) (ht : Tryz.prog.underlying t = some (.slice e)) (hs : Tryz.prog.cellsOf e = s) (h0 : 0 < s)
 (hP : ∀ cs',TR enc W e cs'→∃ v,P cs'.toArray v) (hS : ∀ a v,P a v→Seg s a) : ∃ A n c l,cs = [.slice A n c]∧Lst W A n s P l:=by
 obtain ⟨fuel,x,h⟩:=h
 rcases Go.Deep.open_slice ht h with ⟨rfl,_⟩ | ⟨a,n,c,m,fu,D,Pl,rfl,_,hl,_,hm,_,hx⟩
 ·exact ⟨none,0,0,[],rfl,Lst.nil⟩
 rw [if_pos rfl] at hm
 subst hm
 by_cases hn : n = 0
 ·subst hn
  exact ⟨some a,0,m,[],rfl,Lst.nil⟩
 obtain ⟨f,hf⟩:=Go.Deep.choose_lt (α:=List Value × α) (n:=n) (p:=fun i p=>W.cells? 0 (a.add (i*s)) s = some p.1∧P p.1.toArray p.2) fun i hi=>by
  obtain ⟨cs',h1,h2⟩:=hx i (by omega)
  rw [hs] at h1
  obtain ⟨v,hv⟩:=hP cs' ⟨_,_,h2⟩
  exact ⟨(cs',v),h1,hv⟩
 have hc : ∀ i q u,i < n→(f i).1[q]? = some u→W.cell? (a.add (i*s+q)) = some u:=fun i q u hi hq=>by
  obtain ⟨_,h2,h3⟩:=World.cells?_some (hf i hi).1
  have hlt : q < (f i).1.length:=(List.getElem?_eq_some_iff.1 hq).1
  rw [← hq,← h3 q (by omega),Go.Deep.add_add]
 have hsp : a.spot = none∧a.block < W.heap.size:=by
  obtain ⟨_,h2,h3⟩:=World.cells?_some (hf 0 (by omega)).1
  have:=hc 0 0 ((f 0).1[0]'(by omega)) (by omega) (List.getElem?_eq_getElem _)
  have:=aEx this
  rw [Nat.zero_mul] at this
  exact this
 obtain ⟨b,o,sp⟩:=a
 obtain ⟨rfl,hb⟩:=hsp
 have key : ∀ j,j≤n→∃ xs,InAt W (some ⟨b,o,none⟩) xs∧ArrV j s P xs (fun i=>(f i).2):=by
  intro j
  induction j with
  | zero=>intro _; exact ⟨#[],fun p u hp=>by simp at hp,ArrV.empty⟩
  | succ j ih =>
   intro hj
   obtain ⟨xs,h1,h2⟩:=ih (by omega)
   obtain ⟨_,h3,_⟩:=World.cells?_some (hf j hj).1
   refine ⟨_,?_,ArrV.push (a:=(f j).1.toArray) h2 (by simpa using h3) (hf j hj).2⟩
   intro p u hp
   by_cases c : p < xs.size
   ·rw [Array.getElem?_append_left c] at hp
    exact h1 p u hp
   ·rw [Array.getElem?_append_right (by omega)] at hp
    have hz:=h2.size
    have:=hc j (p - xs.size) u hj (by simpa using hp)
    rw [add_plain,← hz,show xs.size+(p - xs.size) = p by omega] at this
    exact ⟨b,o,rfl,hb,this⟩
 obtain ⟨xs,h1,h2⟩:=key n (Nat.le_refl n)
 refine ⟨_,n,m,(List.range n).map fun i=>(f i).2,rfl,by simp,xs,h1,h2.rowC hS,h2.congr fun i hi=>?_⟩
 rw [dU (by simpa using hi)]
 simp
theorem TR.ratio (h : TR enc W 63 cs) : ∃ y z,In64 y∧In64 z∧cs = [.int .i64 y,.int .i64 z]:=by
 obtain ⟨a,b,rfl⟩:=aMq (h.len Tryz.underlying63 (m:=2) (by kernel_rfl))
 obtain ⟨y,e,hy⟩:=TR.int (cs:=[a]) (h.part Tryz.underlying63 0 2 0 1 (by kernel_rfl)) Tryz.underlying2
 obtain ⟨z,e',hz⟩:=TR.int (cs:=[b]) (h.part Tryz.underlying63 1 2 1 1 (by kernel_rfl)) Tryz.underlying2
 injection e with e
 injection e' with e'
 exact ⟨y,z,hy,hz,by rw [e,e']⟩
theorem TR.num (h : TR enc W 63 cs) : ∃ q,yA cs.toArray q:=by
 obtain ⟨y,z,hy,hz,rfl⟩:=h.ratio
 exact ⟨_,y,z,hy,hz,rfl,rfl⟩
theorem TR.rate (h : TR enc W 156 cs) : ∃ r,sL cs.toArray r:=by
 obtain ⟨a,b,c,d,rfl⟩:=aBe (h.len Tryz.underlying156 (m:=4) (by kernel_rfl))
 obtain ⟨y,z,hy,hz,e⟩:=TR.ratio (cs:=[a,b]) (h.part Tryz.underlying156 0 63 0 2 (by kernel_rfl))
 obtain ⟨y',z',hy',hz',e'⟩:=TR.ratio (cs:=[c,d]) (h.part Tryz.underlying156 1 63 2 2 (by kernel_rfl))
 simp only [List.cons.injEq,and_true] at e e'
 obtain ⟨rfl,rfl⟩:=e
 obtain ⟨rfl,rfl⟩:=e'
 exact ⟨_,y,z,y',z',hy,hz,hy',hz',rfl,rfl⟩
theorem seg2 {q : Rat} {a : Array Value} (h : yA a q) : Seg 2 a:=by
 obtain ⟨_,_,_,_,rfl,_⟩:=h
 exact ⟨rfl,by simp [Value.scalar,Value.noWord]⟩
theorem seg4 {q : PRate} {a : Array Value} (h : sL a q) : Seg 4 a:=by
 obtain ⟨_,_,_,_,_,_,_,_,rfl,_⟩:=h
 exact ⟨rfl,by simp [Value.scalar,Value.noWord]⟩
theorem TR.rates (h : TR enc W 80 cs) : ∃ A n c l,cs = [.slice A n c]∧Lst W A n 4 sL l :=
 h.list Tryz.underlying80 (by kernel_rfl) (by decide) (fun _ h=>h.rate) fun _ _ h=>seg4 h
theorem TR.nums (h : TR enc W 27 cs) : ∃ A n c l,cs = [.slice A n c]∧Lst W A n 2 yA l :=
 h.list Tryz.underlying27 (by kernel_rfl) (by decide) (fun _ h=>h.num) fun _ _ h=>seg2 h
theorem TR.mat (h : TR enc W 128 cs) : ∃ r,MatA W cs.toArray r:=by
 obtain ⟨a,b,c,d,e,f,rfl⟩:=aNw (h.len Tryz.underlying128 (m:=6) (by kernel_rfl))
 obtain ⟨A,n,cc,l,e0,hA⟩:=TR.rates (cs:=[a]) (h.part Tryz.underlying128 0 80 0 1 (by kernel_rfl))
 obtain ⟨B,n',cc',l',e1,hB⟩:=TR.rates (cs:=[b]) (h.part Tryz.underlying128 1 80 1 1 (by kernel_rfl))
 obtain ⟨y,z,hy,hz,e2⟩:=TR.ratio (cs:=[c,d]) (h.part Tryz.underlying128 2 63 2 2 (by kernel_rfl))
 obtain ⟨y',z',hy',hz',e3⟩:=TR.ratio (cs:=[e,f]) (h.part Tryz.underlying128 3 63 4 2 (by kernel_rfl))
 simp only [List.cons.injEq,and_true] at e0 e1 e2 e3
 obtain rfl:=e0
 obtain rfl:=e1
 obtain ⟨rfl,rfl⟩:=e2
 obtain ⟨rfl,rfl⟩:=e3
 exact ⟨⟨l,l',ofQ y z,ofQ y' z'⟩,A,n,cc,B,n',cc',y,z,y',z',hy,hz,hy',hz',rfl,hA,hB,rfl,rfl⟩
theorem TR.cell (h : TR enc W 136 cs) : ∃ r,aAw cs.toArray r:=by
 obtain ⟨a,b,c,d,e,f,g,rfl⟩:=aIo (h.len Tryz.underlying136 (m:=7) (by kernel_rfl))
 obtain ⟨m,e0,hm⟩:=TR.int (cs:=[a]) (h.part Tryz.underlying136 0 3 0 1 (by kernel_rfl)) Tryz.underlying3
 obtain ⟨y,z,hy,hz,e1⟩:=TR.ratio (cs:=[b,c]) (h.part Tryz.underlying136 1 63 1 2 (by kernel_rfl))
 obtain ⟨y',z',hy',hz',e2⟩:=TR.ratio (cs:=[d,e]) (h.part Tryz.underlying136 2 63 3 2 (by kernel_rfl))
 obtain ⟨y'',z'',hy'',hz'',e3⟩:=TR.ratio (cs:=[f,g]) (h.part Tryz.underlying136 3 63 5 2 (by kernel_rfl))
 simp only [List.cons.injEq,and_true] at e0 e1 e2 e3
 obtain rfl:=e0
 obtain ⟨rfl,rfl⟩:=e1
 obtain ⟨rfl,rfl⟩:=e2
 obtain ⟨rfl,rfl⟩:=e3
 exact ⟨_,m,y,z,y',z',y'',z'',hm,hy,hz,hy',hz',hy'',hz'',rfl,rfl⟩
theorem TR.link (h : TR enc W 140 cs) : ∃ r,aAn cs.toArray r:=by
 obtain ⟨a,b,c,d,rfl⟩:=aBe (h.len Tryz.underlying140 (m:=4) (by kernel_rfl))
 obtain ⟨m,e0,hm⟩:=TR.int (cs:=[a]) (h.part Tryz.underlying140 0 3 0 1 (by kernel_rfl)) Tryz.underlying3
 obtain ⟨m',e1,hm'⟩:=TR.int (cs:=[b]) (h.part Tryz.underlying140 1 3 1 1 (by kernel_rfl)) Tryz.underlying3
 obtain ⟨y,z,hy,hz,e2⟩:=TR.ratio (cs:=[c,d]) (h.part Tryz.underlying140 2 63 2 2 (by kernel_rfl))
 simp only [List.cons.injEq,and_true] at e0 e1 e2
 obtain rfl:=e0
 obtain rfl:=e1
 obtain ⟨rfl,rfl⟩:=e2
 exact ⟨_,m,m',y,z,hm,hm',hy,hz,rfl,rfl⟩
theorem seg6 {q : PMat} {a : Array Value} (h : MatA W a q) : Seg 6 a:=by
 obtain ⟨_,_,_,_,_,_,_,_,_,_,_,_,_,_,rfl,_⟩:=h
 exact ⟨rfl,by simp [Value.scalar,Value.noWord]⟩
theorem seg7 {q : PCell} {a : Array Value} (h : aAw a q) : Seg 7 a:=by
 obtain ⟨_,_,_,_,_,_,_,_,_,_,_,_,_,_,rfl,_⟩:=h
 exact ⟨rfl,by simp [Value.scalar,Value.noWord]⟩
theorem aPj {q : PLink} {a : Array Value} (h : aAn a q) : Seg 4 a:=by
 obtain ⟨_,_,_,_,_,_,_,_,rfl,_⟩:=h
 exact ⟨rfl,by simp [Value.scalar,Value.noWord]⟩
set_option maxRecDepth 100000
variable {v : Value} {base : Nat}
theorem aLz (hv : Value.okWide Tryz.prog W .any base 26 v) (h : TR enc W 26 v.cells.toList) :
 ∃ A0 n0 d0 A1 n1 d1 A2 n2 d2 s,v = .agg #[.slice A0 n0 d0,.slice A1 n1 d1,.slice A2 n2 d2]∧SecA W A0 n0 A1 n1 A2 n2 s:=by
 obtain ⟨cs,rfl,_⟩:=okWide_struct Tryz.underlying26 hv
 obtain ⟨cs⟩:=cs
 replace h : TR enc W 26 cs:=h
 obtain ⟨a,b,c,rfl⟩:=vF (h.len Tryz.underlying26 (m:=3) (by kernel_rfl))
 obtain ⟨A0,n0,d0,l0,e0,h0⟩:=TR.list (P:=MatA W) (cs:=[a]) (h.part Tryz.underlying26 0 22 0 1 (by kernel_rfl)) Tryz.underlying22 (s:=6) (by kernel_rfl) (by decide) (fun _ h=>h.mat) fun _ _ h=>seg6 h
 obtain ⟨A1,n1,d1,l1,e1,h1⟩:=TR.list (P:=aAw) (cs:=[b]) (h.part Tryz.underlying26 1 23 1 1 (by kernel_rfl)) Tryz.underlying23 (s:=7) (by kernel_rfl) (by decide) (fun _ h=>h.cell) fun _ _ h=>seg7 h
 obtain ⟨A2,n2,d2,l2,e2,h2⟩:=TR.list (P:=aAn) (cs:=[c]) (h.part Tryz.underlying26 2 24 2 1 (by kernel_rfl)) Tryz.underlying24 (s:=4) (by kernel_rfl) (by decide) (fun _ h=>h.link) fun _ _ h=>aPj h
 simp only [List.cons.injEq,and_true] at e0 e1 e2
 subst e0 e1 e2
 exact ⟨A0,n0,d0,A1,n1,d1,A2,n2,d2,⟨l0,l1,l2⟩,rfl,h0,h1,h2⟩
theorem aDj (hv : Value.okWide Tryz.prog W .any base 29 v) (h : TR enc W 29 v.cells.toList) :
 ∃ A0 n0 d0 A1 n1 d1 A2 n2 d2 x,v = .agg #[.slice A0 n0 d0,.slice A1 n1 d1,.slice A2 n2 d2]∧StateA W A0 n0 A1 n1 A2 n2 x:=by
 obtain ⟨cs,rfl,_⟩:=okWide_struct Tryz.underlying29 hv
 obtain ⟨cs⟩:=cs
 replace h : TR enc W 29 cs:=h
 obtain ⟨a,b,c,rfl⟩:=vF (h.len Tryz.underlying29 (m:=3) (by kernel_rfl))
 obtain ⟨A0,n0,d0,l0,e0,h0⟩:=TR.nums (cs:=[a]) (h.part Tryz.underlying29 0 27 0 1 (by kernel_rfl))
 obtain ⟨A1,n1,d1,l1,e1,h1⟩:=TR.nums (cs:=[b]) (h.part Tryz.underlying29 1 27 1 1 (by kernel_rfl))
 obtain ⟨A2,n2,d2,l2,e2,h2⟩:=TR.nums (cs:=[c]) (h.part Tryz.underlying29 2 27 2 1 (by kernel_rfl))
 simp only [List.cons.injEq,and_true] at e0 e1 e2
 subst e0 e1 e2
 exact ⟨A0,n0,d0,A1,n1,d1,A2,n2,d2,⟨l0,l1,l2⟩,rfl,h0,h1,h2⟩
theorem rT (hv : Value.okWide Tryz.prog W .any base 63 v) (h : TR enc W 63 v.cells.toList) : ∃ y z,v = .agg #[.int .i64 y,.int .i64 z]∧In64 y∧In64 z:=by
 obtain ⟨cs,rfl,_⟩:=okWide_struct Tryz.underlying63 hv
 obtain ⟨cs⟩:=cs
 obtain ⟨y,z,hy,hz,rfl⟩:=TR.ratio (cs:=cs) h
 exact ⟨y,z,rfl,hy,hz⟩
end
end Go.Proofs.YtampehijkiencaaGreat.Row

namespace Go.Proofs.YtampehijkiencaaGreat.cbetween
open Go.ChangeShapes Go.WideShapes Go.ChangeAt Go.RowKit
open Sy (Up Sees CallsG Seg)
open Go.Proofs.YtampehijkiencaaGreat.Row
set_option maxRecDepth 100000 in
theorem lifted (os : Os) (started : os.Started) (H : Type) (enc : TypeId × Value→H) :
 ReturnsInHanded {} Tryz.checked os 4 .any (Rows.cureBetweenSpec.pre6 enc Tryz.prog Tryz.f4 Rows.cureBetweenRow.domain false) (Rows.cureBetweenSpec.post enc Tryz.prog Tryz.f4 false true false false):=by
 refine returnsInHanded_of_change (C:=Tryz.checked) own started (by kernel_rfl) Tryz.func4
  (ChangeSpec.witness6 (enc:=enc) (C:=Tryz.checked) false ⟨#[],#[.agg #[.slice none 0 0,.slice none 0 0,.slice none 0 0],.agg #[.slice none 0 0,.slice none 0 0,.slice none 0 0],.agg #[.int .i64 0,.int .i64 0],.agg #[.int .i64 0,.int .i64 0]],[]⟩ 8 (by kernel_rfl) (by kernel_rfl) (by kernel_rfl) (by kernel_rfl)) ?_
 intro W base args ds gs before hval0 hW hcnd _
 have hval : ∀ (j : Nat) t v,Tryz.f4.params[j]? = some t→args[j]? = some v→Value.okWide Tryz.prog W .any base t v:=hval0
 have hW':=hW
 obtain ⟨p,q,hA0,hV,rfl,hfz,hnd⟩:=hW
 have hA : DataW.TrodAll enc Tryz.prog W 0 (fun _=>true) true Tryz.f4.params.toList args.toList ds p:=hA0
 rw [Tryz.params4] at hA hval
 obtain ⟨v0,vs0,d0,ds0,p0,q0,hargs,rfl,rfl,h0,r0⟩:=trodAll_cons hA
 obtain ⟨v1,vs1,d1,ds1,p1,q1,rfl,rfl,rfl,h1,r1⟩:=trodAll_cons r0
 obtain ⟨v2,vs2,d2,ds2,p2,q2,rfl,rfl,rfl,h2,r2⟩:=trodAll_cons r1
 obtain ⟨v3,vs3,d3,ds3,p3,q3,rfl,rfl,rfl,h3,r3⟩:=trodAll_cons r2
 obtain ⟨rfl,rfl,rfl⟩:=trodAll_nil r3
 obtain rfl : args = #[v0,v1,v2,v3]:=by cases args; simp_all
 obtain ⟨rfl,rfl⟩:=trodVars_none hV
 obtain ⟨A0,n0,c0,B0,n0',c0',C0,n0'',c0'',s0,rfl,a0⟩:=aLz (hval 0 26 v0 rfl rfl) (h0.elim fun f g=>⟨f,_,g⟩ : TR enc W 26 v0.cells.toList)
 obtain ⟨A1,n1,c1,B1,n1',c1',C1,n1'',c1'',s1,rfl,a1⟩:=aDj (hval 1 29 v1 rfl rfl) (h1.elim fun f g=>⟨f,_,g⟩ : TR enc W 29 v1.cells.toList)
 obtain ⟨y2,z2,rfl,iy2,iz2⟩:=rT (hval 2 63 v2 rfl rfl) (h2.elim fun f g=>⟨f,_,g⟩ : TR enc W 63 v2.cells.toList)
 obtain ⟨y3,z3,rfl,iy3,iz3⟩:=rT (hval 3 63 v3 rfl rfl) (h3.elim fun f g=>⟨f,_,g⟩ : TR enc W 63 v3.cells.toList)
 clear hA0 hval0
 have hlt : ∀ x ∈ p0 ++ (p1 ++ (p2 ++ (p3 ++ []))),x.block < W.heap.size:=fun x hx=>by simpa using hW'.lt x (by simpa using hx)
 have hc : CallsG Tryz.prog 4 #[.agg #[.slice A0 n0 c0,.slice B0 n0' c0',.slice C0 n0'' c0''],.agg #[.slice A1 n1 c1,.slice B1 n1' c1',.slice C1 n1'' c1''],.agg #[.int .i64 y2,.int .i64 z2],.agg #[.int .i64 y3,.int .i64 z3]] W fun _ v=>v = .bool true:=rL (k:=W) (R:=fun _ v=>v = .bool true) a0 a1 iy2 iz2 iy3 iz3 (fun _ _=>rfl) W (Up.refl W)
 have hcall:=hc W (Sees.refl W)
 refine hcall.mono fun e W' he=>?_
 obtain ⟨v,k',rfl,_,_,hB,rfl⟩:=he
 refine ⟨_,rfl,_,_,_,[],p0 ++ (p1 ++ (p2 ++ (p3 ++ []))),[],hW',?_,?_,?_,hB.frame _,fun h=>by cases h⟩
 ·exact trodAll_mk1 (shut_bool Tryz.underlying4 _)
 ·exact trodAll_cons_mk (Below.trod laid (by kernel_rfl) (of_decide_eq_true (by kernel_rfl)) h0 hB (fun x hx=>hlt x (by simp [hx]))) (trodAll_cons_mk (Below.trod laid (by kernel_rfl) (of_decide_eq_true (by kernel_rfl)) h1 hB (fun x hx=>hlt x (by simp [hx]))) (trodAll_cons_mk (Below.trod laid (by kernel_rfl) (of_decide_eq_true (by kernel_rfl)) h2 hB (fun x hx=>hlt x (by simp [hx]))) (trodAll_cons_mk (Below.trod laid (by kernel_rfl) (of_decide_eq_true (by kernel_rfl)) h3 hB (fun x hx=>hlt x (by simp [hx]))) trodAll_mk0)))
 ·exact rfl
theorem over : Rows.cureBetweenRow.holds Tryz.pinned (OpenSpec.ofChange Rows.cureBetweenSpec) :=
 OpenClaim.holds_of_wide 4 Tryz.f4 rfl rfl rfl rfl rfl rfl rfl ⟨rfl,rfl,rfl,rfl,rfl⟩ rfl rfl rfl rfl rfl (by kernel_rfl) Tryz.func4 (by kernel_rfl)
  (of_decide_eq_true (by kernel_rfl)) (by unfold Func.isWrapper; first | (rw [if_pos (by decide +kernel)]; kernel_rfl) | (rw [if_neg (by decide +kernel)]; exact ⟨rfl,rfl⟩))
  (fun os started H enc _=>lifted os started H enc)
theorem proved : Rows.CureBetweenSaid:=over
#print axioms proved
end Go.Proofs.YtampehijkiencaaGreat.cbetween

