/- Several texts in one. (Printed by prep.py.) -/
import Derived.ProofKit
import Derived.OpenShut
import Derived.Carry
import Derived.Deep.Slices
import Derived.Test.YtebaclefnpipfaaGreatTeTE
namespace Go.Proofs.YtebaclefnpipfaaGreat.Row
open Go.ChangeShapes Go.WideShapes Go.ChangeAt Go.RowKit Num W32
open Sy (Seg RowC)
theorem own:ownKnob Tryz.prog.godebug=none:=by kernel_rfl
theorem laid:laidOutB Tryz.prog=true:=by kernel_rfl
theorem aGz {W:World}{a:Addr}{u:Value}(h:W.cell? a=some u):a.spot=none∧a.block<W.heap.size:=by
 unfold World.cell? at h;split at h
 ·rename_i hb;refine⟨?_,(oi.1 hb).1⟩;split at h
  ·cases h
  ·rename_i hs;simpa using hs
 ·cases h
section
variable {H:Type}{enc:TypeId×Value→H}{W:World}{t:TypeId}{cs:List Value}
def TR (enc:TypeId×Value→H) (W:World) (t:TypeId) (cs:List Value):Prop:=∃fuel x,DataW.trod enc Tryz.prog W 0 (fun _=>true) true fuel t cs=some x
set_option maxHeartbeats 400000 in
theorem TR.list {α:Type}[Inhabited α] {P:Array Value→α→Prop}{e s:Nat}(h:TR enc W t cs) (ht:Tryz.prog.underlying t=some (.slice e)) (hs:Tryz.prog.cellsOf e=s) (h0:0<s)
 (hP:∀cs',TR enc W e cs'→∃v,P cs'.toArray v) (hS:∀a v,P a v→Seg s a):∃A n c l,cs=[.slice A n c]∧Lst W A n s P l:=by
 obtain⟨fuel,x,h⟩:=h;rcases Go.Deep.open_slice ht h with ⟨rfl,_⟩|⟨a,n,c,m,fu,D,Pl,rfl,_,hl,_,hm,_,hx⟩
 ·exact⟨none,0,0,[],rfl,Lst.nil⟩
 rw [og rfl]at hm;subst hm
 by_cases hn:n=0
 ·subst hn;exact⟨some a,0,m,[],rfl,Lst.nil⟩
 obtain⟨f,hf⟩:=Go.Deep.choose_lt (α:=List Value×α) (n:=n) (p:=fun i p=>W.cells? 0 (a.add (i*s)) s=some p.1∧P p.1.toArray p.2) fun i hi=>by
  obtain⟨cs',h1,h2⟩:=hx i oq;rw [hs]at h1;obtain⟨v,hv⟩:=hP cs' ⟨_,_,h2⟩;exact⟨(cs',v),h1,hv⟩
 have hc:∀i q u,i<n→(f i).1[q]?=some u→W.cell? (a.add (i*s+q))=some u:=fun i q u hi hq=>by
  obtain⟨_,h2,h3⟩:=World.cells?_some (hf i hi).1;have hlt:q<(f i).1.length:=(oc.1 hq).1;rw [←hq,←h3 q oq,Go.Deep.add_add]
 have hsp:a.spot=none∧a.block<W.heap.size:=by
  obtain⟨_,h2,h3⟩:=World.cells?_some (hf 0 oq).1;have:=hc 0 0 ((f 0).1[0]' oq) oq (qd _);have:=aGz this;rw [Nat.zero_mul]at this;exact this
 obtain⟨b,o,sp⟩:=a;obtain⟨rfl,hb⟩:=hsp;have key:∀j,j≤n→∃xs,InAt W (some ⟨b,o,none⟩) xs∧ArrV j s P xs (fun i=>(f i).2):=by
  intro j
  induction j with
  | zero=>intro _;exact⟨#[],fun p u hp=>by simp at hp,ArrV.empty⟩
  | succ j ih=>
   intro hj;obtain⟨xs,h1,h2⟩:=ih oq;obtain⟨_,h3,_⟩:=World.cells?_some (hf j hj).1;refine⟨_,?_,ArrV.push (a:=(f j).1.toArray) h2 (by simpa using h3) (hf j hj).2⟩;intro p u hp
   by_cases c:p<xs.size
   ·rw [ka c]at hp;exact h1 p u hp
   ·rw [Array.getElem?_append_right oq]at hp;have hz:=h2.size;have:=hc j (p-xs.size) u hj (by simpa using hp);rw [add_plain,←hz,show xs.size+(p-xs.size)=p by omega]at this;exact⟨b,o,rfl,hb,this⟩
 obtain⟨xs,h1,h2⟩:=key n (oy n);refine⟨_,n,m,(List.range n).map fun i=>(f i).2,rfl,by simp,xs,h1,h2.rowC hS,h2.congr fun i hi=>?_⟩;rw [cH (by simpa using hi)];simp
set_option maxRecDepth 100000
variable {v:Value}{base:Nat}
theorem aBs {v:Value}{t':TypeId}(ht:Tryz.prog.underlying t=some (.slice t')) (hv:Value.okWide Tryz.prog W .any base t v):v.cells.toList=[v]:=by
 simp only [Value.okWide,ht]at hv;cases v <;> simp_all [Value.cells,Cell.okWide,Cell.ok]
end
section
variable {H:Type}{enc:TypeId×Value→H}{W:World}{t:TypeId}{cs:List Value}{v:Value}{base:Nat}
theorem TR.item {n e m:Nat}(h:TR enc W t cs) (ht:Tryz.prog.underlying t=some (.array n e)) (hm:Tryz.prog.cellsOf e=m) (i:Nat) (hi:i<n):TR enc W e ((cs.drop (i*m)).take m):=by
 obtain⟨fuel,x,h⟩:=h;obtain⟨xs,f,_,_,_,hlen,hx⟩:=DataW.trod_array ht h;subst hm;exact⟨f,xs[i],by rw [hx i hi,qd oq]⟩
set_option maxRecDepth 100000
end
set_option maxRecDepth 100000
section
variable {H:Type}{enc:TypeId×Value→H}{W:World}{t:TypeId}{cs:List Value}{v:Value}{base:Nat}
theorem TR.u8 (h:TR enc W 5 cs):∃n,U8A cs.toArray n:=by
 obtain⟨fuel,x,h⟩:=h;obtain⟨n,rfl,_,hw⟩:=DataW.trod_int Tryz.underlying5 h;simp only [Lit.wf,qb,decide_eq_true_eq]at hw;obtain⟨h1,h2⟩:=hw;have e1:IntKind.u8.min=0:=rfl;have e2:IntKind.u8.max=255:=rfl;rw [e1]at h1;rw [e2]at h2;exact⟨n,h1,h2,rfl⟩
theorem aXc {q:Int}{a:Array Value}(h:U8A a q):Seg 1 a:=by
 obtain⟨_,_,rfl⟩:=h;exact⟨rfl,by simp [Value.scalar,Value.noWord]⟩
theorem aSw (hv:Value.okWide Tryz.prog W .any base 25 v) (h:TR enc W 25 v.cells.toList):∃A n c l,v=.slice A n c∧Lst W A n 1 U8A l:=by
 rw [aBs Tryz.underlying25 hv]at h;obtain⟨A,n,c,l,e,hl⟩:=TR.list (P:=U8A) h Tryz.underlying25 (s:=1) ox oz (fun _ h=>h.u8) fun _ _ h=>aXc h;injection e with e;exact⟨A,n,c,l,e,hl⟩
theorem aGj (hv:Value.okWide Tryz.prog W .any base 22 v) (h:TR enc W 22 v.cells.toList):∃a b,v=.agg #[.int .u8 a,.int .u8 b]∧0≤a∧0≤b:=by
 have hu:=Tryz.underlying22;simp only [Value.okWide,hu]at hv;obtain⟨cs,rfl,hs,_⟩:=hv;obtain⟨cs⟩:=cs;replace h:TR enc W 22 cs:=h;have hl:cs.length=2:=hs.trans ox;obtain⟨a,b,rfl⟩:∃a b,cs=[a,b]:=by
  match cs,hl with
  | [a,b],_=>exact⟨a,b,rfl⟩
 obtain⟨n,h0,_,e0⟩:=TR.u8 (cs:=[a]) (h.item hu (m:=1) ox 0 oz);obtain⟨m,h1,_,e1⟩:=TR.u8 (cs:=[b]) (h.item hu (m:=1) ox 1 oz);simp only [List.toArray,Array.mk.injEq,List.cons.injEq,and_true]at e0 e1;subst e0 e1;exact⟨n,m,rfl,h0,h1⟩
end
set_option maxRecDepth 100000
section
variable {H:Type}{enc:TypeId×Value→H}{W:World}{t:TypeId}{cs:List Value}{v:Value}{base:Nat}
theorem aSv (hv:Value.okWide Tryz.prog W .any base 23 v) (h:TR enc W 23 v.cells.toList):∃a b c d,v=.agg #[.int .u8 a,.int .u8 b,.int .u8 c,.int .u8 d]∧0≤a∧0≤b∧0≤c∧0≤d:=by
 have hu:=Tryz.underlying23;simp only [Value.okWide,hu]at hv;obtain⟨cs,rfl,hs,_⟩:=hv;obtain⟨cs⟩:=cs;replace h:TR enc W 23 cs:=h;have hl:cs.length=4:=hs.trans ox;obtain⟨a,b,c,d,rfl⟩:∃a b c d,cs=[a,b,c,d]:=by
  match cs,hl with
  | [a,b,c,d],_=>exact⟨a,b,c,d,rfl⟩
 obtain⟨n,h0,_,e0⟩:=TR.u8 (cs:=[a]) (h.item hu (m:=1) ox 0 oz);obtain⟨m,h1,_,e1⟩:=TR.u8 (cs:=[b]) (h.item hu (m:=1) ox 1 oz);obtain⟨q,h2,_,e2⟩:=TR.u8 (cs:=[c]) (h.item hu (m:=1) ox 2 oz);obtain⟨w,h3,_,e3⟩:=TR.u8 (cs:=[d]) (h.item hu (m:=1) ox 3 oz);simp only [List.toArray,Array.mk.injEq,List.cons.injEq,and_true]at e0 e1 e2 e3;subst e0 e1 e2 e3;exact⟨n,m,q,w,rfl,h0,h1,h2,h3⟩
end
end Go.Proofs.YtebaclefnpipfaaGreat.Row

namespace Go.Proofs.YtebaclefnpipfaaGreat.ctopreleased
open Go.ChangeShapes Go.WideShapes Go.ChangeAt Go.RowKit
open Sy (Up Sees CallsG Seg)
open Go.Proofs.YtebaclefnpipfaaGreat.Row
set_option maxRecDepth 100000 in
theorem lifted (os:Os) (started:os.Started) (H:Type) (enc:TypeId×Value→H) :
 ReturnsInHanded {} Tryz.checked os 4 .any (Rows.topReleasedSpec.pre6 enc Tryz.prog Tryz.f4 Rows.topReleasedRow.domain false) (Rows.topReleasedSpec.post enc Tryz.prog Tryz.f4 false true false false):=by
 refine returnsInHanded_of_change (C:=Tryz.checked) own started ox Tryz.func4
  (ChangeSpec.witness6 (enc:=enc) (C:=Tryz.checked) false ⟨#[],#[.agg #[.int .u8 0,.int .u8 0],.agg #[.int .u8 0,.int .u8 0,.int .u8 0,.int .u8 0],.agg #[.int .u8 0,.int .u8 0],.slice none 0 0],[]⟩ 8 ox ox ox ox) ?_
 intro W base args ds gs before hval0 hW hcnd _;have hval:∀(j:Nat) t v,Tryz.f4.params[j]?=some t→args[j]?=some v→Value.okWide Tryz.prog W .any base t v:=hval0;have hW':=hW;obtain⟨p,q,hA0,hV,rfl,hfz,hnd⟩:=hW;have hA:DataW.TrodAll enc Tryz.prog W 0 (fun _=>true) true Tryz.f4.params.toList args.toList ds p:=hA0;rw [Tryz.params4]at hA hval;obtain⟨v0,vs0,d0,ds0,p0,q0,hargs,rfl,rfl,h0,r0⟩:=trodAll_cons hA;obtain⟨v1,vs1,d1,ds1,p1,q1,rfl,rfl,rfl,h1,r1⟩:=trodAll_cons r0;obtain⟨v2,vs2,d2,ds2,p2,q2,rfl,rfl,rfl,h2,r2⟩:=trodAll_cons r1;obtain⟨v3,vs3,d3,ds3,p3,q3,rfl,rfl,rfl,h3,r3⟩:=trodAll_cons r2;obtain⟨rfl,rfl,rfl⟩:=trodAll_nil r3;obtain rfl:args=#[v0,v1,v2,v3]:=by cases args;simp_all
 obtain⟨rfl,rfl⟩:=trodVars_none hV;obtain⟨y0,z0,rfl,iy0,iz0⟩:=aGj (hval 0 22 v0 rfl rfl) (h0.elim fun f g=>⟨f,_,g⟩:TR enc W 22 v0.cells.toList);obtain⟨y1_0,y1_1,y1_2,y1_3,rfl,iy1_0,iy1_1,iy1_2,iy1_3⟩:=aSv (hval 1 23 v1 rfl rfl) (h1.elim fun f g=>⟨f,_,g⟩:TR enc W 23 v1.cells.toList);obtain⟨y2,z2,rfl,iy2,iz2⟩:=aGj (hval 2 22 v2 rfl rfl) (h2.elim fun f g=>⟨f,_,g⟩:TR enc W 22 v2.cells.toList);obtain⟨A3,n3,c3,l3,rfl,a3⟩:=aSw (hval 3 25 v3 rfl rfl) (h3.elim fun f g=>⟨f,_,g⟩:TR enc W 25 v3.cells.toList);clear hA0 hval0;have hlt:∀x∈p0++(p1++(p2++(p3++[]))),x.block<W.heap.size:=fun x hx=>by simpa using hW'.lt x (by simpa using hx)
 have hc:CallsG Tryz.prog 4 #[.agg #[.int .u8 y0,.int .u8 z0],.agg #[.int .u8 y1_0,.int .u8 y1_1,.int .u8 y1_2,.int .u8 y1_3],.agg #[.int .u8 y2,.int .u8 z2],.slice A3 n3 c3] W fun _ v=>v=.bool true:=vA (k:=W) (R:=fun _ v=>v=.bool true) iy0 iz0 iy1_0 iy1_1 iy1_2 iy1_3 iy2 iz2 a3 (fun _ _=>rfl) W (Up.refl W);have hcall:=hc W (Sees.refl W);refine hcall.mono fun e W' he=>?_;obtain⟨v,k',rfl,_,_,hB,rfl⟩:=he;refine⟨_,rfl,_,_,_,[],p0++(p1++(p2++(p3++[]))),[],hW',?_,?_,?_,hB.frame _,fun h=>by cases h⟩
 ·exact trodAll_mk1 (shut_bool Tryz.underlying4 _)
 ·exact trodAll_cons_mk (Below.trod laid ox (ow ox) h0 hB (fun x hx=>hlt x (by simp [hx]))) (trodAll_cons_mk (Below.trod laid ox (ow ox) h1 hB (fun x hx=>hlt x (by simp [hx]))) (trodAll_cons_mk (Below.trod laid ox (ow ox) h2 hB (fun x hx=>hlt x (by simp [hx]))) (trodAll_cons_mk (Below.trod laid ox (ow ox) h3 hB (fun x hx=>hlt x (by simp [hx]))) trodAll_mk0)))
 ·exact rfl
theorem over:Rows.topReleasedRow.holds Tryz.pinned (OpenSpec.ofChange Rows.topReleasedSpec):=
 OpenClaim.holds_of_wide 4 Tryz.f4 rfl rfl rfl rfl rfl rfl rfl ⟨rfl,rfl,rfl,rfl,rfl⟩ rfl rfl rfl rfl rfl ox Tryz.func4 ox
  (ow ox) (by unfold Func.isWrapper;first|(rw [og (by decide +kernel)];kernel_rfl)|(rw [oh (by decide +kernel)];exact⟨rfl,rfl⟩))
  (fun os started H enc _=>lifted os started H enc)
theorem proved:Rows.TopReleasedSaid:=over
#print axioms proved
end Go.Proofs.YtebaclefnpipfaaGreat.ctopreleased

