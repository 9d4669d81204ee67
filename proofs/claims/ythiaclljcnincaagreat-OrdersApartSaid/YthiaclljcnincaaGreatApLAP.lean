/- Several texts in one. (Printed by prep.py.) -/
import Derived.ProofKit
import Derived.OpenShut
import Derived.Carry
import Derived.Deep.Slices
import Derived.Test.YthiaclljcnincaaGreatApEI
namespace Go.Proofs.YthiaclljcnincaaGreat.Row
open Go.ChangeShapes Go.WideShapes Go.ChangeAt Go.RowKit Num W32
open Sy (Seg RowC)
theorem own:ownKnob Tryz.prog.godebug=none:=by kernel_rfl
theorem laid:laidOutB Tryz.prog=true:=by kernel_rfl
theorem aZc {α:Type}{l:List α}(h:l.length=2):∃a b,l=[a,b]:=by
 match l,h with
 | [a,b],_=>exact⟨a,b,rfl⟩
theorem aHa {W:World}{a:Addr}{u:Value}(h:W.cell? a=some u):a.spot=none∧a.block<W.heap.size:=by
 unfold World.cell? at h;split at h
 ·rename_i hb;refine⟨?_,(jq.1 hb).1⟩;split at h
  ·cases h
  ·rename_i hs;simpa using hs
 ·cases h
section
variable {H:Type}{enc:TypeId×Value→H}{W:World}{t:TypeId}{cs:List Value}
def TR (enc:TypeId×Value→H) (W:World) (t:TypeId) (cs:List Value):Prop:=∃fuel x,DataW.trod enc Tryz.prog W 0 (fun _=>true) true fuel t cs=some x
theorem TR.int (h:TR enc W t cs) (ht:Tryz.prog.underlying t=some (.int .i64)):∃n,cs=[.int .i64 n]∧In64 n:=by
 obtain⟨fuel,x,h⟩:=h;obtain⟨n,rfl,_,hw⟩:=DataW.trod_int ht h;refine⟨n,rfl,?_⟩;simp only [Lit.wf,qf,decide_eq_true_eq]at hw;obtain⟨h1,h2⟩:=hw;have e1:IntKind.i64.min=-9223372036854775808:=rfl;have e2:IntKind.i64.max=9223372036854775807:=rfl;rw [e1]at h1;rw [e2]at h2;exact⟨h1,oq⟩
theorem TR.len {fs:Array Field}{m:Nat}(h:TR enc W t cs) (ht:Tryz.prog.underlying t=some (.struct fs)) (hm:Tryz.prog.cellsOf t=m):cs.length=m:=by
 obtain⟨fuel,x,h⟩:=h;obtain⟨xs,n,_,_,hl,_⟩:=DataW.trod_struct ht h;rw [hl,hm]
theorem TR.part {fs:Array Field}(h:TR enc W t cs) (ht:Tryz.prog.underlying t=some (.struct fs)) (i t' o m:Nat) (hf:(fs[i]?).map (fun f=>(f.type,f.offset,Tryz.prog.cellsOf f.type))=some (t',o,m)):TR enc W t' ((cs.drop o).take m):=by
 obtain⟨fuel,x,h⟩:=h;obtain⟨xs,n,_,_,_,hlen,hx⟩:=DataW.trod_struct ht h;obtain⟨f,h1,h2⟩:=vr.1 hf;injection h2 with e1 h2;injection h2 with e2 e3;subst e1 e2 e3;have hi:i<xs.length:=by rw [hlen];exact (jq.1 h1).1
 exact⟨n,xs[i],by rw [hx i f h1,qi hi]⟩
theorem Els.none {α:Type}{A:Option Addr}{s:Nat}{P:Array Value→α→Prop}{f:Nat→α}:Els W A 0 s P f:=⟨#[],fun p u h=>by simp at h,fun u h=>(by cases h),ArrV.empty⟩
set_option maxHeartbeats 400000 in
theorem TR.list {α:Type}[Inhabited α] {P:Array Value→α→Prop}{e s:Nat}(h:TR enc W t cs) (ht:Tryz.prog.underlying t=some (.slice e)) (hs:Tryz.prog.cellsOf e=s) (h0:0<s)
 (hP:∀cs',TR enc W e cs'→∃v,P cs'.toArray v) (hS:∀a v,P a v→Seg s a):∃A n c f,cs=[.slice A n c]∧Els W A n s P f:=by
 obtain⟨fuel,x,h⟩:=h;rcases Go.Deep.open_slice ht h with ⟨rfl,_⟩|⟨a,n,c,m,fu,D,Pl,rfl,_,hl,_,hm,_,hx⟩
 ·exact⟨none,0,0,fun _=>default,rfl,Els.none⟩
 rw [og rfl]at hm;subst hm
 by_cases hn:n=0
 ·subst hn;exact⟨some a,0,m,fun _=>default,rfl,Els.none⟩
 obtain⟨f,hf⟩:=Go.Deep.choose_lt (α:=List Value×α) (n:=n) (p:=fun i p=>W.cells? 0 (a.add (i*s)) s=some p.1∧P p.1.toArray p.2) fun i hi=>by
  obtain⟨cs',h1,h2⟩:=hx i oq;rw [hs]at h1;obtain⟨v,hv⟩:=hP cs' ⟨_,_,h2⟩;exact⟨(cs',v),h1,hv⟩
 have hc:∀i q u,i<n→(f i).1[q]?=some u→W.cell? (a.add (i*s+q))=some u:=fun i q u hi hq=>by
  obtain⟨_,h2,h3⟩:=World.cells?_some (hf i hi).1;have hlt:q<(f i).1.length:=(qe.1 hq).1;rw [←hq,←h3 q oq,Go.Deep.add_add]
 have hsp:a.spot=none∧a.block<W.heap.size:=by
  obtain⟨_,h2,h3⟩:=World.cells?_some (hf 0 oq).1;have:=hc 0 0 ((f 0).1[0]' oq) oq (qi _);have:=aHa this;rw [xf]at this;exact this
 obtain⟨b,o,sp⟩:=a;obtain⟨rfl,hb⟩:=hsp;have key:∀j,j≤n→∃xs,InAt W (some ⟨b,o,none⟩) xs∧ArrV j s P xs (fun i=>(f i).2):=by
  intro j
  induction j with
  | zero=>intro _;exact⟨#[],fun p u hp=>by simp at hp,ArrV.empty⟩
  | succ j ih=>
   intro hj;obtain⟨xs,h1,h2⟩:=ih oq;obtain⟨_,h3,_⟩:=World.cells?_some (hf j hj).1;refine⟨_,?_,ArrV.push (a:=(f j).1.toArray) h2 (by simpa using h3) (hf j hj).2⟩;intro p u hp
   by_cases c:p<xs.size
   ·rw [vo c]at hp;exact h1 p u hp
   ·rw [Array.getElem?_append_right oq]at hp;have hz:=h2.size;have:=hc j (p-xs.size) u hj (by simpa using hp);rw [add_plain,←hz,show xs.size+(p-xs.size)=p by omega]at this;exact⟨b,o,rfl,hb,this⟩
 obtain⟨xs,h1,h2⟩:=key n (oy n);exact⟨_,n,m,fun i=>(f i).2,rfl,xs,h1,h2.rowC hS,h2⟩
theorem TR.mount (h:TR enc W 24 cs):∃y z,In64 y∧In64 z∧cs=[.int .i64 y,.int .i64 z]:=by
 obtain⟨a,b,rfl⟩:=aZc (h.len Tryz.underlying24 (m:=2) ox);obtain⟨y,e,hy⟩:=TR.int (cs:=[a]) (h.part Tryz.underlying24 0 3 0 1 ox) Tryz.underlying3;obtain⟨z,e',hz⟩:=TR.int (cs:=[b]) (h.part Tryz.underlying24 1 3 1 1 ox) Tryz.underlying3;injection e with e;injection e' with e';exact⟨y,z,hy,hz,by rw [e,e']⟩
set_option maxRecDepth 100000
variable {base:Nat}{v:Value}
theorem aBr {v:Value}{t':TypeId}(ht:Tryz.prog.underlying t=some (.slice t')) (hv:Value.okWide Tryz.prog W .any base t v):v.cells.toList=[v]:=by
 simp only [Value.okWide,ht]at hv;cases v <;> simp_all [Value.cells,Cell.okWide,Cell.ok]
theorem aCz (hv:Value.okWide Tryz.prog W .any base 22 v) (h:TR enc W 22 v.cells.toList):∃A n c f,v=.slice A n c∧Els W A n 2 MtV f:=by
 rw [aBr Tryz.underlying22 hv]at h
 obtain⟨A,n,c,f,e,hl⟩:=TR.list (P:=MtV) h Tryz.underlying22 (s:=2) ox oz (fun _ h=>by
  obtain⟨y,z,_,_,e⟩:=h.mount
  exact⟨(y,z),by rw [e];rfl⟩) fun _ _ h=>h.seg
 injection e with e;exact⟨A,n,c,f,e,hl⟩
theorem aIi (hv:Value.okWide Tryz.prog W .any base 24 v) (h:TR enc W 24 v.cells.toList):∃y z,v=.agg #[.int .i64 y,.int .i64 z]∧In64 y∧In64 z:=by
 obtain⟨cs,rfl,_⟩:=okWide_struct Tryz.underlying24 hv;obtain⟨cs⟩:=cs;obtain⟨y,z,hy,hz,rfl⟩:=TR.mount (cs:=cs) h;exact⟨y,z,rfl,hy,hz⟩
theorem aTo (hv:Value.okWide Tryz.prog W .any base 3 v) (h:TR enc W 3 v.cells.toList):∃n,v=.int .i64 n∧In64 n:=by
 obtain⟨n,rfl⟩:=okWide_int Tryz.underlying3 hv;obtain⟨m,e,hm⟩:=TR.int (cs:=[.int .i64 n]) h Tryz.underlying3;simp only [List.cons.injEq,and_true,Value.int.injEq,true_and]at e;subst e;exact⟨n,rfl,hm⟩
end
end Go.Proofs.YthiaclljcnincaaGreat.Row

namespace Go.Proofs.YthiaclljcnincaaGreat.oapart
open Go.ChangeShapes Go.WideShapes Go.ChangeAt Go.RowKit
open Sy (Up Sees CallsG Seg)
open Go.Proofs.YthiaclljcnincaaGreat.Row
set_option maxRecDepth 100000 in
theorem lifted (os:Os) (started:os.Started) (H:Type) (enc:TypeId×Value→H) :
 ReturnsInHanded {} Tryz.checked os 3 .any (Rows.ordersApartSpec.pre6 enc Tryz.prog Tryz.f3 Rows.ordersApartRow.domain false) (Rows.ordersApartSpec.post enc Tryz.prog Tryz.f3 false true false false):=by
 refine returnsInHanded_of_change (C:=Tryz.checked) own started ox Tryz.func3
  (ChangeSpec.witness6 (enc:=enc) (C:=Tryz.checked) false ⟨#[],#[.slice none 0 0,.int .i64 0,.agg #[.int .i64 0,.int .i64 0]],[]⟩ 8 ox ox ox ox) ?_
 intro W base args ds gs before hval0 hW hcnd _;have hval:∀(j:Nat) t v,Tryz.f3.params[j]?=some t→args[j]?=some v→Value.okWide Tryz.prog W .any base t v:=hval0;have hW':=hW;obtain⟨p,q,hA0,hV,rfl,hfz,hnd⟩:=hW;have hA:DataW.TrodAll enc Tryz.prog W 0 (fun _=>true) true Tryz.f3.params.toList args.toList ds p:=hA0;rw [Tryz.params3]at hA hval;obtain⟨v0,vs0,d0,ds0,p0,q0,hargs,rfl,rfl,h0,r0⟩:=trodAll_cons hA;obtain⟨v1,vs1,d1,ds1,p1,q1,rfl,rfl,rfl,h1,r1⟩:=trodAll_cons r0;obtain⟨v2,vs2,d2,ds2,p2,q2,rfl,rfl,rfl,h2,r2⟩:=trodAll_cons r1;obtain⟨rfl,rfl,rfl⟩:=trodAll_nil r2;obtain rfl:args=#[v0,v1,v2]:=by cases args;simp_all
 obtain⟨rfl,rfl⟩:=trodVars_none hV;obtain⟨A0,n0,c0,l0,rfl,a0⟩:=aCz (hval 0 22 v0 rfl rfl) (h0.elim fun f g=>⟨f,_,g⟩:TR enc W 22 v0.cells.toList);obtain⟨i1,rfl,ii1⟩:=aTo (hval 1 3 v1 rfl rfl) (h1.elim fun f g=>⟨f,_,g⟩:TR enc W 3 v1.cells.toList);obtain⟨y2,z2,rfl,iy2,iz2⟩:=aIi (hval 2 24 v2 rfl rfl) (h2.elim fun f g=>⟨f,_,g⟩:TR enc W 24 v2.cells.toList);clear hA0 hval0;have hlt:∀x∈p0++(p1++(p2++[])),x.block<W.heap.size:=fun x hx=>by simpa using hW'.lt x (by simpa using hx)
 have hc:CallsG Tryz.prog 3 #[.slice A0 n0 c0,.int .i64 i1,.agg #[.int .i64 y2,.int .i64 z2]] W fun _ v=>v=.bool true:=aGu (k:=W) (R:=fun _ v=>v=.bool true) a0 ii1 iy2 iz2 (fun _ _=>rfl) W (Up.refl W);have hcall:=hc W (Sees.refl W);refine hcall.mono fun e W' he=>?_;obtain⟨v,k',rfl,_,_,hB,rfl⟩:=he;refine⟨_,rfl,_,_,_,[],p0++(p1++(p2++[])),[],hW',?_,?_,?_,hB.frame _,fun h=>by cases h⟩
 ·exact trodAll_mk1 (shut_bool Tryz.underlying4 _)
 ·exact trodAll_cons_mk (Below.trod laid ox (ow ox) h0 hB (fun x hx=>hlt x (by simp [hx]))) (trodAll_cons_mk (Below.trod laid ox (ow ox) h1 hB (fun x hx=>hlt x (by simp [hx]))) (trodAll_cons_mk (Below.trod laid ox (ow ox) h2 hB (fun x hx=>hlt x (by simp [hx]))) trodAll_mk0))
 ·exact rfl
theorem bAe:Tryz.prog.inPlace 3=Rows.ordersApartRow.inPlace:=by kernel_rfl
theorem bAf:Tryz.prog.unfollowed 3=Rows.ordersApartRow.unfollowed:=by kernel_rfl
theorem bAg:Tryz.prog.recurses 3=Rows.ordersApartRow.recurses:=by kernel_rfl
theorem bAh:Tryz.prog.varsNamed 3=Rows.ordersApartRow.named:=by kernel_rfl
theorem bAi:joinedFacts Tryz.prog 3 Tryz.f3 Rows.ordersApartSpec Rows.ordersApartRow=true:=by
 unfold joinedFacts;rw [bAe,bAf,bAg,bAh]
 kernel_rfl
theorem bAj:Tryz.f3.isWrapper Tryz.prog Rows.ordersApartRow.wrapper Rows.ordersApartRow.mainSum:=by
 unfold Func.isWrapper
 first|(rw [og (by decide +kernel)];kernel_rfl)|(rw [oh (by decide +kernel)];exact⟨rfl,rfl⟩)
theorem over:Rows.ordersApartRow.holds Tryz.pinned (OpenSpec.ofChange Rows.ordersApartSpec):=
 OpenClaim.holds_of_wide 3 Tryz.f3 rfl rfl rfl rfl rfl rfl rfl ⟨rfl,rfl,rfl,rfl,rfl⟩ rfl rfl rfl rfl rfl ox Tryz.func3 bAi
  (ow ox) bAj (fun os started H enc _=>lifted os started H enc)
theorem proved:Rows.OrdersApartSaid:=over
#print axioms proved
end Go.Proofs.YthiaclljcnincaaGreat.oapart

