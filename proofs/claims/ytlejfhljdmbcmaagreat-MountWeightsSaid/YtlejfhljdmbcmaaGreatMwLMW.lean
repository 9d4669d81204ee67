/- Several texts in one. (Printed by prep.py.) -/
import Derived.ProofKit
import Derived.OpenShut
import Derived.Carry
import Derived.Deep.Slices
import Derived.Test.YtlejfhljdmbcmaaGreatMwMWL
namespace Go.Proofs.YtlejfhljdmbcmaaGreat.Row
open Go.ChangeShapes Go.WideShapes Go.ChangeAt Go.RowKit Num W32
open Sy (Seg RowC)
theorem own:ownKnob Tryz.prog.godebug=none:=by kernel_rfl
theorem laid:laidOutB Tryz.prog=true:=by kernel_rfl
theorem aCy {α:Type}{l:List α}(h:l.length=2):∃a b,l=[a,b]:=by
 match l,h with
 | [a,b],_=>exact⟨a,b,rfl⟩
theorem aNk {α:Type}{l:List α}(h:l.length=3):∃a b c,l=[a,b,c]:=by
 match l,h with
 | [a,b,c],_=>exact⟨a,b,c,rfl⟩
theorem aEz {W:World}{a:Addr}{u:Value}(h:W.cell? a=some u):a.spot=none∧a.block<W.heap.size:=by
 unfold World.cell? at h;split at h
 ·rename_i hb;refine⟨?_,(jc.1 hb).1⟩;split at h
  ·cases h
  ·rename_i hs;simpa using hs
 ·cases h
section
variable {H:Type}{enc:TypeId×Value→H}{W:World}{t:TypeId}{cs:List Value}
def TR (enc:TypeId×Value→H) (W:World) (t:TypeId) (cs:List Value):Prop:=∃fuel x,DataW.trod enc Tryz.prog W 0 (fun _=>true) true fuel t cs=some x
theorem TR.int (h:TR enc W t cs) (ht:Tryz.prog.underlying t=some (.int .i64)):∃n,cs=[.int .i64 n]∧In64 n:=by
 obtain⟨fuel,x,h⟩:=h;obtain⟨n,rfl,_,hw⟩:=DataW.trod_int ht h;refine⟨n,rfl,?_⟩;simp only [Lit.wf,qd,decide_eq_true_eq]at hw;obtain⟨h1,h2⟩:=hw;have e1:IntKind.i64.min=-9223372036854775808:=rfl;have e2:IntKind.i64.max=9223372036854775807:=rfl;rw [e1]at h1;rw [e2]at h2;exact⟨h1,oq⟩
theorem TR.len {fs:Array Field}{m:Nat}(h:TR enc W t cs) (ht:Tryz.prog.underlying t=some (.struct fs)) (hm:Tryz.prog.cellsOf t=m):cs.length=m:=by
 obtain⟨fuel,x,h⟩:=h;obtain⟨xs,n,_,_,hl,_⟩:=DataW.trod_struct ht h;rw [hl,hm]
theorem TR.part {fs:Array Field}(h:TR enc W t cs) (ht:Tryz.prog.underlying t=some (.struct fs)) (i t' o m:Nat) (hf:(fs[i]?).map (fun f=>(f.type,f.offset,Tryz.prog.cellsOf f.type))=some (t',o,m)):TR enc W t' ((cs.drop o).take m):=by
 obtain⟨fuel,x,h⟩:=h;obtain⟨xs,n,_,_,_,hlen,hx⟩:=DataW.trod_struct ht h;obtain⟨f,h1,h2⟩:=vo.1 hf;injection h2 with e1 h2;injection h2 with e2 e3;subst e1 e2 e3;have hi:i<xs.length:=by rw [hlen];exact (jc.1 h1).1
 exact⟨n,xs[i],by rw [hx i f h1,ql hi]⟩
set_option maxHeartbeats 400000 in
theorem TR.list {α:Type}[Inhabited α] {P:Array Value→α→Prop}{e s:Nat}(h:TR enc W t cs) (ht:Tryz.prog.underlying t=some (.slice e)) (hs:Tryz.prog.cellsOf e=s) (h0:0<s)
 (hP:∀cs',TR enc W e cs'→∃v,P cs'.toArray v) (hS:∀a v,P a v→Seg s a):∃A n c l,cs=[.slice A n c]∧Lst W A n s P l:=by
 obtain⟨fuel,x,h⟩:=h;rcases Go.Deep.open_slice ht h with ⟨rfl,_⟩|⟨a,n,c,m,fu,D,Pl,rfl,_,hl,_,hm,_,hx⟩
 ·exact⟨none,0,0,[],rfl,Lst.nil⟩
 rw [od rfl]at hm;subst hm
 by_cases hn:n=0
 ·subst hn;exact⟨some a,0,m,[],rfl,Lst.nil⟩
 obtain⟨f,hf⟩:=Go.Deep.choose_lt (α:=List Value×α) (n:=n) (p:=fun i p=>W.cells? 0 (a.add (i*s)) s=some p.1∧P p.1.toArray p.2) fun i hi=>by
  obtain⟨cs',h1,h2⟩:=hx i oq;rw [hs]at h1;obtain⟨v,hv⟩:=hP cs' ⟨_,_,h2⟩;exact⟨(cs',v),h1,hv⟩
 have hc:∀i q u,i<n→(f i).1[q]?=some u→W.cell? (a.add (i*s+q))=some u:=fun i q u hi hq=>by
  obtain⟨_,h2,h3⟩:=World.cells?_some (hf i hi).1;have hlt:q<(f i).1.length:=(qz.1 hq).1;rw [←hq,←h3 q oq,Go.Deep.add_add]
 have hsp:a.spot=none∧a.block<W.heap.size:=by
  obtain⟨_,h2,h3⟩:=World.cells?_some (hf 0 oq).1;have:=hc 0 0 ((f 0).1[0]' oq) oq (ql _);have:=aEz this;rw [vm]at this;exact this
 obtain⟨b,o,sp⟩:=a;obtain⟨rfl,hb⟩:=hsp;have key:∀j,j≤n→∃xs,InAt W (some ⟨b,o,none⟩) xs∧ArrV j s P xs (fun i=>(f i).2):=by
  intro j
  induction j with
  | zero=>intro _;exact⟨#[],fun p u hp=>by simp at hp,ArrV.empty⟩
  | succ j ih=>
   intro hj;obtain⟨xs,h1,h2⟩:=ih oq;obtain⟨_,h3,_⟩:=World.cells?_some (hf j hj).1;refine⟨_,?_,ArrV.push (a:=(f j).1.toArray) h2 (by simpa using h3) (hf j hj).2⟩;intro p u hp
   by_cases c:p<xs.size
   ·rw [xi c]at hp;exact h1 p u hp
   ·rw [Array.getElem?_append_right oq]at hp;have hz:=h2.size;have:=hc j (p-xs.size) u hj (by simpa using hp);rw [add_plain,←hz,show xs.size+(p-xs.size)=p by omega]at this;exact⟨b,o,rfl,hb,this⟩
 obtain⟨xs,h1,h2⟩:=key n (oy n);refine⟨_,n,m,(List.range n).map fun i=>(f i).2,rfl,by simp,xs,h1,h2.rowC hS,h2.congr fun i hi=>?_⟩;rw [aIs (by simpa using hi)];simp
theorem TR.ratio (h:TR enc W 131 cs):∃y z,In64 y∧In64 z∧cs=[.int .i64 y,.int .i64 z]:=by
 obtain⟨a,b,rfl⟩:=aCy (h.len Tryz.underlying131 (m:=2) ox);obtain⟨y,e,hy⟩:=TR.int (cs:=[a]) (h.part Tryz.underlying131 0 2 0 1 ox) Tryz.underlying2;obtain⟨z,e',hz⟩:=TR.int (cs:=[b]) (h.part Tryz.underlying131 1 2 1 1 ox) Tryz.underlying2;injection e with e;injection e' with e';exact⟨y,z,hy,hz,by rw [e,e']⟩
theorem TR.item {n e m:Nat}(h:TR enc W t cs) (ht:Tryz.prog.underlying t=some (.array n e)) (hm:Tryz.prog.cellsOf e=m) (i:Nat) (hi:i<n):TR enc W e ((cs.drop (i*m)).take m):=by
 obtain⟨fuel,x,h⟩:=h;obtain⟨xs,f,_,_,_,hlen,hx⟩:=DataW.trod_array ht h;subst hm;exact⟨f,xs[i],by rw [hx i hi,ql oq]⟩
set_option maxRecDepth 100000
variable {base:Nat}
theorem aAi {v:Value}{t':TypeId}(ht:Tryz.prog.underlying t=some (.slice t')) (hv:Value.okWide Tryz.prog W .any base t v):v.cells.toList=[v]:=by
 simp only [Value.okWide,ht]at hv;cases v <;> simp_all [Value.cells,Cell.okWide,Cell.ok]
theorem TR.i8 (h:TR enc W 22 cs):∃n,cs=[.int .i8 n]∧In8 n:=by
 obtain⟨fuel,x,h⟩:=h;obtain⟨n,rfl,_,hw⟩:=DataW.trod_int Tryz.underlying22 h;exact⟨n,rfl,bounds_i8 hw⟩
theorem TR.u8 (h:TR enc W 5 cs):∃n,cs=[.int .u8 n]∧0≤n∧n≤255:=by
 obtain⟨fuel,x,h⟩:=h;obtain⟨n,rfl,_,hw⟩:=DataW.trod_int Tryz.underlying5 h;simp only [Lit.wf,qd,decide_eq_true_eq]at hw;obtain⟨h1,h2⟩:=hw;have e1:IntKind.u8.min=0:=rfl;have e2:IntKind.u8.max=255:=rfl;rw [e1]at h1;rw [e2]at h2;exact⟨n,rfl,h1,h2⟩
theorem TR.force (h:TR enc W 98 cs):∃a b c d e f,cs=[.int .i8 a,.int .i8 b,.int .i8 c,.int .i8 d,.int .i8 e,.int .i8 f]∧In8 a∧In8 b∧In8 c∧In8 d∧In8 e∧In8 f:=by
 have hl:cs.length=6:=h.len Tryz.underlying98 ox;obtain⟨x0,x1,x2,x3,x4,x5,rfl⟩:∃a b c d e f,cs=[a,b,c,d,e,f]:=by
  match cs,hl with
  | [a,b,c,d,e,f],_=>exact⟨a,b,c,d,e,f,rfl⟩
 have p0:TR enc W 96 [x0,x1,x2]:=h.part Tryz.underlying98 0 96 0 3 ox;have p1:TR enc W 96 [x3,x4,x5]:=h.part Tryz.underlying98 1 96 3 3 ox;have hu:=Tryz.underlying96;obtain⟨a,e0,h0⟩:=TR.i8 (cs:=[x0]) (p0.item hu (m:=1) ox 0 oz);obtain⟨b,e1,h1⟩:=TR.i8 (cs:=[x1]) (p0.item hu (m:=1) ox 1 oz);obtain⟨c,e2,h2⟩:=TR.i8 (cs:=[x2]) (p0.item hu (m:=1) ox 2 oz);obtain⟨d,e3,h3⟩:=TR.i8 (cs:=[x3]) (p1.item hu (m:=1) ox 0 oz);obtain⟨e,e4,h4⟩:=TR.i8 (cs:=[x4]) (p1.item hu (m:=1) ox 1 oz);obtain⟨f,e5,h5⟩:=TR.i8 (cs:=[x5]) (p1.item hu (m:=1) ox 2 oz);simp only [xz,and_true]at e0 e1 e2 e3 e4 e5;subst e0 e1 e2 e3 e4 e5;exact⟨a,b,c,d,e,f,rfl,h0,h1,h2,h3,h4,h5⟩
theorem TR.weight (h:TR enc W 181 cs):∃x,WtA cs.toArray x:=by
 obtain⟨a,b,c,rfl⟩:=aNk (h.len Tryz.underlying181 (m:=3) ox);obtain⟨y,z,hy,hz,e0⟩:=TR.ratio (cs:=[a,b]) (h.part Tryz.underlying181 0 131 0 2 ox);obtain⟨m,e1,hm⟩:=TR.int (cs:=[c]) (h.part Tryz.underlying181 1 3 2 1 ox) Tryz.underlying3;simp only [xz,and_true]at e0 e1;obtain⟨rfl,rfl⟩:=e0;obtain rfl:=e1;exact⟨_,y,z,m,hy,hz,hm,rfl,rfl⟩
theorem TR.two (h:TR enc W 113 cs):∃x,PlV cs.toArray x:=by
 have hu:=Tryz.underlying113;obtain⟨fuel,x,h'⟩:=h;obtain⟨_,_,_,_,hl,_,_⟩:=DataW.trod_array hu h';have h:TR enc W 113 cs:=⟨fuel,x,h'⟩;obtain⟨a,b,rfl⟩:=aCy (hl.trans (by kernel_rfl:_=2));obtain⟨y,e0,_⟩:=TR.int (cs:=[a]) (h.item hu (m:=1) ox 0 oz) Tryz.underlying3;obtain⟨z,e1,_⟩:=TR.int (cs:=[b]) (h.item hu (m:=1) ox 1 oz) Tryz.underlying3;simp only [xz,and_true]at e0 e1;subst e0 e1;exact⟨⟨y,z⟩,rfl⟩
theorem aZc {q:PWt}{a:Array Value}(h:WtA a q):Seg 3 a:=by
 obtain⟨_,_,_,_,_,_,rfl,_⟩:=h;exact⟨rfl,by simp [Value.scalar,Value.noWord]⟩
variable {v:Value}
theorem aBa (hv:Value.okWide Tryz.prog W .any base 99 v) (h:TR enc W 99 v.cells.toList) :
 ∃a b c d e f a' b' c' d' e' f',v=.agg #[.int .i8 a,.int .i8 b,.int .i8 c,.int .i8 d,.int .i8 e,.int .i8 f,.int .i8 a',.int .i8 b',.int .i8 c',.int .i8 d',.int .i8 e',.int .i8 f']∧
  In8 a∧In8 b∧In8 c∧In8 d∧In8 e∧In8 f∧In8 a'∧In8 b'∧In8 c'∧In8 d'∧In8 e'∧In8 f':=by
 have hu:=Tryz.underlying99;simp only [Value.okWide,hu]at hv;obtain⟨cs,rfl,hs,_⟩:=hv;obtain⟨cs⟩:=cs;replace h:TR enc W 99 cs:=h;have hl:cs.length=12:=hs.trans ox;have i0:=h.item hu (m:=6) ox 0 oz;have i1:=h.item hu (m:=6) ox 1 oz;obtain⟨a,b,c,d,e,f,e0,g⟩:=TR.force i0;obtain⟨a',b',c',d',e',f',e1,g'⟩:=TR.force i1;have ec:cs=cs.take 6++(cs.drop 6).take 6:=by
  rw [xb (l:=cs.drop 6) (by simp;omega),List.take_append_drop]
 simp only [vm,List.drop_zero,vw]at e0 e1;rw [e0,e1]at ec;subst ec;obtain⟨g1,g2,g3,g4,g5,g6⟩:=g;obtain⟨q1,q2,q3,q4,q5,q6⟩:=g';exact⟨a,b,c,d,e,f,a',b',c',d',e',f',rfl,g1,g2,g3,g4,g5,g6,q1,q2,q3,q4,q5,q6⟩
theorem aAo (hv:Value.okWide Tryz.prog W .any base 100 v) (h:TR enc W 100 v.cells.toList):∃A n c l,v=.slice A n c∧Lst W A n 3 WtA l:=by
 rw [aAi Tryz.underlying100 hv]at h;obtain⟨A,n,c,l,e,hl⟩:=TR.list (P:=WtA) h Tryz.underlying100 (s:=3) ox oz (fun _ h=>h.weight) fun _ _ h=>aZc h;injection e with e;exact⟨A,n,c,l,e,hl⟩
theorem aBu (hv:Value.okWide Tryz.prog W .any base 102 v) (h:TR enc W 102 v.cells.toList) :
 ∃A n c l A' n' c' l',v=.agg #[.slice A n c,.slice A' n' c']∧Lst W A n 2 PlV l∧Lst W A' n' 2 PlV l':=by
 have hu:=Tryz.underlying102;simp only [Value.okWide,hu]at hv;obtain⟨cs,rfl,hs,_⟩:=hv;obtain⟨cs⟩:=cs;replace h:TR enc W 102 cs:=h;obtain⟨a,b,rfl⟩:=aCy (hs.trans (by kernel_rfl:_=2));obtain⟨A,n,c,l,e0,hA⟩:=TR.list (P:=PlV) (cs:=[a]) (h.item hu (m:=1) ox 0 oz) Tryz.underlying101 (s:=2) ox oz (fun _ h=>h.two) fun _ _ h=>h.seg;obtain⟨A',n',c',l',e1,hA'⟩:=TR.list (P:=PlV) (cs:=[b]) (h.item hu (m:=1) ox 1 oz) Tryz.underlying101 (s:=2) ox oz (fun _ h=>h.two) fun _ _ h=>h.seg;simp only [xz,and_true]at e0 e1;subst e0 e1;exact⟨A,n,c,l,A',n',c',l',rfl,hA,hA'⟩
theorem aQd (hv:Value.okWide Tryz.prog W .any base 3 v) (h:TR enc W 3 v.cells.toList):∃n,v=.int .i64 n∧In64 n:=by
 obtain⟨n,rfl⟩:=okWide_int Tryz.underlying3 hv;obtain⟨m,e,hm⟩:=TR.int (cs:=[.int .i64 n]) h Tryz.underlying3;simp only [xz,and_true,Value.int.injEq,true_and]at e;subst e;exact⟨n,rfl,hm⟩
theorem aWj (hv:Value.okWide Tryz.prog W .any base 5 v) (h:TR enc W 5 v.cells.toList):∃n,v=.int .u8 n∧0≤n∧n≤255:=by
 obtain⟨n,rfl⟩:=okWide_int Tryz.underlying5 hv;obtain⟨m,e,hm⟩:=TR.u8 (cs:=[.int .u8 n]) h;simp only [xz,and_true,Value.int.injEq,true_and]at e;subst e;exact⟨n,rfl,hm⟩
end
end Go.Proofs.YtlejfhljdmbcmaaGreat.Row

namespace Go.Proofs.YtlejfhljdmbcmaaGreat.mweigh
open Go.ChangeShapes Go.WideShapes Go.ChangeAt Go.RowKit
open Sy (Up Sees CallsG Seg)
open Go.Proofs.YtlejfhljdmbcmaaGreat.Row
set_option maxRecDepth 100000 in
theorem lifted (os:Os) (started:os.Started) (H:Type) (enc:TypeId×Value→H) :
 ReturnsInHanded {} Tryz.checked os 5 .any (Rows.mountWeightsSpec.pre6 enc Tryz.prog Tryz.f5 Rows.mountWeightsRow.domain false) (Rows.mountWeightsSpec.post enc Tryz.prog Tryz.f5 false true false false):=by
 refine returnsInHanded_of_change (C:=Tryz.checked) own started ox Tryz.func5
  (ChangeSpec.witness6 (enc:=enc) (C:=Tryz.checked) false ⟨#[],#[.agg #[.int .i8 0,.int .i8 0,.int .i8 0,.int .i8 0,.int .i8 0,.int .i8 0,.int .i8 0,.int .i8 0,.int .i8 0,.int .i8 0,.int .i8 0,.int .i8 0],.slice none 0 0,.int .i64 0,.agg #[.slice none 0 0,.slice none 0 0],.int .u8 0],[]⟩ 8 ox ox ox ox) ?_
 intro W base args ds gs before hval0 hW hcnd _;have hval:∀(j:Nat) t v,Tryz.f5.params[j]?=some t→args[j]?=some v→Value.okWide Tryz.prog W .any base t v:=hval0;have hW':=hW;obtain⟨p,q,hA0,hV,rfl,hfz,hnd⟩:=hW;have hA:DataW.TrodAll enc Tryz.prog W 0 (fun _=>true) true Tryz.f5.params.toList args.toList ds p:=hA0;rw [Tryz.params5]at hA hval;obtain⟨v0,vs0,d0,ds0,p0,q0,hargs,rfl,rfl,h0,r0⟩:=trodAll_cons hA;obtain⟨v1,vs1,d1,ds1,p1,q1,rfl,rfl,rfl,h1,r1⟩:=trodAll_cons r0;obtain⟨v2,vs2,d2,ds2,p2,q2,rfl,rfl,rfl,h2,r2⟩:=trodAll_cons r1;obtain⟨v3,vs3,d3,ds3,p3,q3,rfl,rfl,rfl,h3,r3⟩:=trodAll_cons r2;obtain⟨v4,vs4,d4,ds4,p4,q4,rfl,rfl,rfl,h4,r4⟩:=trodAll_cons r3;obtain⟨rfl,rfl,rfl⟩:=trodAll_nil r4;obtain rfl:args=#[v0,v1,v2,v3,v4]:=by cases args;simp_all
 obtain⟨rfl,rfl⟩:=trodVars_none hV;obtain⟨f0_0,f0_1,f0_2,f0_3,f0_4,f0_5,f0_6,f0_7,f0_8,f0_9,f0_10,f0_11,rfl,g0_0,g0_1,g0_2,g0_3,g0_4,g0_5,g0_6,g0_7,g0_8,g0_9,g0_10,g0_11⟩:=aBa (hval 0 99 v0 rfl rfl) (h0.elim fun f g=>⟨f,_,g⟩:TR enc W 99 v0.cells.toList);obtain⟨A1,n1,c1,l1,rfl,a1⟩:=aAo (hval 1 100 v1 rfl rfl) (h1.elim fun f g=>⟨f,_,g⟩:TR enc W 100 v1.cells.toList);obtain⟨i2,rfl,ii2⟩:=aQd (hval 2 3 v2 rfl rfl) (h2.elim fun f g=>⟨f,_,g⟩:TR enc W 3 v2.cells.toList);obtain⟨A3,n3,c3,l3,B3,m3,e3,k3,rfl,a3,b3⟩:=aBu (hval 3 102 v3 rfl rfl) (h3.elim fun f g=>⟨f,_,g⟩:TR enc W 102 v3.cells.toList);obtain⟨i4,rfl,ii4⟩:=aWj (hval 4 5 v4 rfl rfl) (h4.elim fun f g=>⟨f,_,g⟩:TR enc W 5 v4.cells.toList);clear hA0 hval0;have hlt:∀x∈p0++(p1++(p2++(p3++(p4++[])))),x.block<W.heap.size:=fun x hx=>by simpa using hW'.lt x (by simpa using hx)
 have hc:CallsG Tryz.prog 5 #[.agg #[.int .i8 f0_0,.int .i8 f0_1,.int .i8 f0_2,.int .i8 f0_3,.int .i8 f0_4,.int .i8 f0_5,.int .i8 f0_6,.int .i8 f0_7,.int .i8 f0_8,.int .i8 f0_9,.int .i8 f0_10,.int .i8 f0_11],.slice A1 n1 c1,.int .i64 i2,.agg #[.slice A3 n3 c3,.slice B3 m3 e3],.int .u8 i4] W fun _ v=>v=.bool true:=aBn (k:=W) (R:=fun _ v=>v=.bool true) g0_0 g0_1 g0_2 g0_3 g0_4 g0_5 g0_6 g0_7 g0_8 g0_9 g0_10 g0_11 a1 ii2 a3 b3 i4 ii4 (fun _ _=>rfl) W (Up.refl W);have hcall:=hc W (Sees.refl W);refine hcall.mono fun e W' he=>?_;obtain⟨v,k',rfl,_,_,hB,rfl⟩:=he;refine⟨_,rfl,_,_,_,[],p0++(p1++(p2++(p3++(p4++[])))),[],hW',?_,?_,?_,hB.frame _,fun h=>by cases h⟩
 ·exact trodAll_mk1 (shut_bool Tryz.underlying4 _)
 ·exact trodAll_cons_mk (Below.trod laid ox (ow ox) h0 hB (fun x hx=>hlt x (by simp [hx]))) (trodAll_cons_mk (Below.trod laid ox (ow ox) h1 hB (fun x hx=>hlt x (by simp [hx]))) (trodAll_cons_mk (Below.trod laid ox (ow ox) h2 hB (fun x hx=>hlt x (by simp [hx]))) (trodAll_cons_mk (Below.trod laid ox (ow ox) h3 hB (fun x hx=>hlt x (by simp [hx]))) (trodAll_cons_mk (Below.trod laid ox (ow ox) h4 hB (fun x hx=>hlt x (by simp [hx]))) trodAll_mk0))))
 ·exact rfl
theorem over:Rows.mountWeightsRow.holds Tryz.pinned (OpenSpec.ofChange Rows.mountWeightsSpec):=
 OpenClaim.holds_of_wide 5 Tryz.f5 rfl rfl rfl rfl rfl rfl rfl ⟨rfl,rfl,rfl,rfl,rfl⟩ rfl rfl rfl rfl rfl ox Tryz.func5 ox
  (ow ox) (by unfold Func.isWrapper;first|(rw [od (by decide +kernel)];kernel_rfl)|(rw [oh (by decide +kernel)];exact⟨rfl,rfl⟩))
  (fun os started H enc _=>lifted os started H enc)
theorem proved:Rows.MountWeightsSaid:=over
#print axioms proved
end Go.Proofs.YtlejfhljdmbcmaaGreat.mweigh

