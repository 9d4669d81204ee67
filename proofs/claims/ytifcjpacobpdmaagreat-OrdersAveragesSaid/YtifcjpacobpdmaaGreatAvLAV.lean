/- Several texts in one. (Printed by prep.py.) -/
import Derived.ProofKit
import Derived.OpenShut
import Derived.Carry
import Derived.Deep.Slices
import Derived.Test.YtifcjpacobpdmaaGreatAvAV6
namespace Go.Proofs.YtifcjpacobpdmaaGreat.Row
open Go.ChangeShapes Go.WideShapes Go.ChangeAt Go.RowKit Num W32
open Sy (Seg RowC)
theorem own:ownKnob Tryz.prog.godebug=none:=by kernel_rfl
theorem laid:laidOutB Tryz.prog=true:=by kernel_rfl
theorem aNq {α:Type}{l:List α}(h:l.length=3):∃a b c,l=[a,b,c]:=by
 match l,h with
 | [a,b,c],_=>exact⟨a,b,c,rfl⟩
theorem aGf {W:World}{a:Addr}{u:Value}(h:W.cell? a=some u):a.spot=none∧a.block<W.heap.size:=by
 unfold World.cell? at h;split at h
 ·rename_i hb;refine⟨?_,(zq.1 hb).1⟩;split at h
  ·cases h
  ·rename_i hs;simpa using hs
 ·cases h
section
variable {H:Type}{enc:TypeId×Value→H}{W:World}{t:TypeId}{cs:List Value}
def TR (enc:TypeId×Value→H) (W:World) (t:TypeId) (cs:List Value):Prop:=∃fuel x,DataW.trod enc Tryz.prog W 0 (fun _=>true) true fuel t cs=some x
set_option maxHeartbeats 400000 in
theorem TR.els {α:Type}[Inhabited α] {P:Array Value→α→Prop}{e s:Nat}(h:TR enc W t cs) (ht:Tryz.prog.underlying t=some (.slice e)) (hs:Tryz.prog.cellsOf e=s) (h0:0<s)
 (hP:∀cs',TR enc W e cs'→∃v,P cs'.toArray v) (hS:∀a v,P a v→Seg s a):∃A n c f,cs=[.slice A n c]∧Els W A n s P f:=by
 obtain⟨fuel,x,h⟩:=h;rcases Go.Deep.open_slice ht h with ⟨rfl,_⟩|⟨a,n,c,m,fu,D,Pl,rfl,_,hl,_,hm,_,hx⟩
 ·exact⟨none,0,0,fun _=>default,rfl,#[],fun p u hp=>by simp at hp,(ArrV.empty (f:=fun _=>default)).rowC hS,ArrV.empty⟩
 rw [om rfl]at hm;subst hm
 by_cases hn:n=0
 ·subst hn;exact⟨some a,0,m,fun _=>default,rfl,#[],fun p u hp=>by simp at hp,(ArrV.empty (f:=fun _=>default)).rowC hS,ArrV.empty⟩
 obtain⟨f,hf⟩:=Go.Deep.choose_lt (α:=List Value×α) (n:=n) (p:=fun i p=>W.cells? 0 (a.add (i*s)) s=some p.1∧P p.1.toArray p.2) fun i hi=>by
  obtain⟨cs',h1,h2⟩:=hx i oq;rw [hs]at h1;obtain⟨v,hv⟩:=hP cs' ⟨_,_,h2⟩;exact⟨(cs',v),h1,hv⟩
 have hc:∀i q u,i<n→(f i).1[q]?=some u→W.cell? (a.add (i*s+q))=some u:=fun i q u hi hq=>by
  obtain⟨_,h2,h3⟩:=World.cells?_some (hf i hi).1;have hlt:q<(f i).1.length:=(qk.1 hq).1;rw [←hq,←h3 q oq,Go.Deep.add_add]
 have hsp:a.spot=none∧a.block<W.heap.size:=by
  obtain⟨_,h2,h3⟩:=World.cells?_some (hf 0 oq).1;have:=hc 0 0 ((f 0).1[0]' oq) oq (jq _);have:=aGf this;rw [zb]at this;exact this
 obtain⟨b,o,sp⟩:=a;obtain⟨rfl,hb⟩:=hsp;have key:∀j,j≤n→∃xs,InAt W (some ⟨b,o,none⟩) xs∧ArrV j s P xs (fun i=>(f i).2):=by
  intro j
  induction j with
  | zero=>intro _;exact⟨#[],fun p u hp=>by simp at hp,ArrV.empty⟩
  | succ j ih=>
   intro hj;obtain⟨xs,h1,h2⟩:=ih oq;obtain⟨_,h3,_⟩:=World.cells?_some (hf j hj).1;refine⟨_,?_,ArrV.push (a:=(f j).1.toArray) h2 (by simpa using h3) (hf j hj).2⟩;intro p u hp
   by_cases c:p<xs.size
   ·rw [wj c]at hp;exact h1 p u hp
   ·rw [Array.getElem?_append_right oq]at hp;have hz:=h2.size;have:=hc j (p-xs.size) u hj (by simpa using hp);rw [add_plain,←hz,show xs.size+(p-xs.size)=p by omega]at this;exact⟨b,o,rfl,hb,this⟩
 obtain⟨xs,h1,h2⟩:=key n (oy n);exact⟨_,n,m,_,rfl,xs,h1,h2.rowC hS,h2⟩
theorem TR.item {n e m:Nat}(h:TR enc W t cs) (ht:Tryz.prog.underlying t=some (.array n e)) (hm:Tryz.prog.cellsOf e=m) (i:Nat) (hi:i<n):TR enc W e ((cs.drop (i*m)).take m):=by
 obtain⟨fuel,x,h⟩:=h;obtain⟨xs,f,_,_,_,hlen,hx⟩:=DataW.trod_array ht h;subst hm;exact⟨f,xs[i],by rw [hx i hi,jq oq]⟩
theorem aDl {P:Program}{k:FloatKind}{w:World}{b0:Nat}{sp:Nat→Bool}{hd:Bool}{fuel:Nat}{x:DataW H×List MemPlace}(ht:P.underlying t=some (.float k)) (h:DataW.trod enc P w b0 sp hd fuel t cs=some x):∃b,cs=[.float k b]∧(Lit.float k b).wf=true:=by
 cases fuel with
 | zero=>simp [DataW.trod]at h
 | succ n=>
  unfold DataW.trod at h;rw [ht]at h;split at h <;> simp_all
set_option maxRecDepth 100000
theorem TR.f32 (h:TR enc W 67 cs):∃b,cs=[.float .f32 b]∧b<2^32:=by
 obtain⟨fuel,x,h⟩:=h;obtain⟨b,rfl,hb⟩:=aDl Tryz.underlying67 h;exact⟨b,rfl,ow hb⟩
theorem TR.sample (h:TR enc W 227 cs):∃g,oM cs.toArray g:=by
 have hu:=Tryz.underlying227;have hl:cs.length=3:=by
  obtain⟨fuel,x,h⟩:=h;obtain⟨_,_,_,_,hl,_⟩:=DataW.trod_array hu h;rw [hl];kernel_rfl
 obtain⟨a,b,c,rfl⟩:=aNq hl;obtain⟨x,e0,h0⟩:=TR.f32 (cs:=[a]) (h.item hu (m:=1) ox 0 oz);obtain⟨y,e1,h1⟩:=TR.f32 (cs:=[b]) (h.item hu (m:=1) ox 1 oz);obtain⟨z,e2,h2⟩:=TR.f32 (cs:=[c]) (h.item hu (m:=1) ox 2 oz);simp only [List.cons.injEq,and_true]at e0 e1 e2;subst e0 e1 e2;exact⟨fun i=>if i=0 then x else if i=1 then y else z,rfl,h0,h1,h2⟩
theorem aYr {q:Nat→Nat}{a:Array Value}(h:oM a q):Seg 3 a:=by
 obtain⟨rfl,_⟩:=h;exact⟨rfl,by simp [Value.scalar,Value.noWord]⟩
variable {base:Nat}
theorem aAn {v:Value}{t':TypeId}(ht:Tryz.prog.underlying t=some (.slice t')) (hv:Value.okWide Tryz.prog W .any base t v):v.cells.toList=[v]:=by
 simp only [Value.okWide,ht]at hv;cases v <;> simp_all [Value.cells,Cell.okWide,Cell.ok]
variable {v:Value}
theorem aAl (hv:Value.okWide Tryz.prog W .any base 78 v) (h:TR enc W 78 v.cells.toList):∃A n c f,v=.slice A n c∧Els W A n 3 oM f:=by
 rw [aAn Tryz.underlying78 hv]at h;obtain⟨A,n,c,f,e,hf⟩:=h.els Tryz.underlying78 (by kernel_rfl:Tryz.prog.cellsOf 227=3) oz (fun _ h=>h.sample) fun _ _=>aYr;injection e with e;exact⟨A,n,c,f,e,hf⟩
theorem aQh (hv:Value.okWide Tryz.prog W .any base 3 v):∃n,v=.int .i64 n:=by
 simp only [Value.okWide,Tryz.underlying3,Cell.okWide]at hv;cases v <;> simp_all [Cell.ok]
end
end Go.Proofs.YtifcjpacobpdmaaGreat.Row

namespace Go.Proofs.YtifcjpacobpdmaaGreat.averages
open Go.ChangeShapes Go.WideShapes Go.ChangeAt Go.RowKit
open Sy (Up Sees CallsG Seg)
open Go.Proofs.YtifcjpacobpdmaaGreat.Row
set_option maxRecDepth 100000 in
theorem lifted (os:Os) (started:os.Started) (H:Type) (enc:TypeId×Value→H) :
 ReturnsInHanded {} Tryz.checked os 5 .any (Rows.ordersAveragesSpec.pre6 enc Tryz.prog Tryz.f5 Rows.ordersAveragesRow.domain false) (Rows.ordersAveragesSpec.post enc Tryz.prog Tryz.f5 false true false false):=by
 refine returnsInHanded_of_change (C:=Tryz.checked) own started ox Tryz.func5
  (ChangeSpec.witness6 (enc:=enc) (C:=Tryz.checked) false ⟨#[],#[.slice none 0 0,.int .i64 0],[]⟩ 8 ox ox ox ox) ?_
 intro W base args ds gs before hval0 hW hcnd _;have hval:∀(j:Nat) t v,Tryz.f5.params[j]?=some t→args[j]?=some v→Value.okWide Tryz.prog W .any base t v:=hval0;have hW':=hW;obtain⟨p,q,hA0,hV,rfl,hfz,hnd⟩:=hW;have hA:DataW.TrodAll enc Tryz.prog W 0 (fun _=>true) true Tryz.f5.params.toList args.toList ds p:=hA0;rw [Tryz.params5]at hA hval;obtain⟨v0,vs0,d0,ds0,p0,q0,hargs,rfl,rfl,h0,r0⟩:=trodAll_cons hA;obtain⟨v1,vs1,d1,ds1,p1,q1,rfl,rfl,rfl,h1,r1⟩:=trodAll_cons r0;obtain⟨rfl,rfl,rfl⟩:=trodAll_nil r1;obtain rfl:args=#[v0,v1]:=by cases args;simp_all
 obtain⟨rfl,rfl⟩:=trodVars_none hV;obtain⟨A0,n0,c0,l0,rfl,a0⟩:=aAl (hval 0 78 v0 rfl rfl) (h0.elim fun f g=>⟨f,_,g⟩:TR enc W 78 v0.cells.toList);obtain⟨i1,rfl⟩:=aQh (hval 1 3 v1 rfl rfl);clear hA0 hval0;have hlt:∀x∈p0++(p1++[]),x.block<W.heap.size:=fun x hx=>by simpa using hW'.lt x (by simpa using hx)
 have hc:CallsG Tryz.prog 5 #[.slice A0 n0 c0,.int .i64 i1] W fun _ v=>v=.bool true:=zH (k:=W) (R:=fun _ v=>v=.bool true) a0 (fun _ _=>rfl) W (Up.refl W);have hcall:=hc W (Sees.refl W);refine hcall.mono fun e W' he=>?_;obtain⟨v,k',rfl,_,_,hB,rfl⟩:=he;refine⟨_,rfl,_,_,_,[],p0++(p1++[]),[],hW',?_,?_,?_,hB.frame _,fun h=>by cases h⟩
 ·exact trodAll_mk1 (shut_bool Tryz.underlying4 _)
 ·exact trodAll_cons_mk (Below.trod laid ox (ow ox) h0 hB (fun x hx=>hlt x (by simp [hx]))) (trodAll_cons_mk (Below.trod laid ox (ow ox) h1 hB (fun x hx=>hlt x (by simp [hx]))) trodAll_mk0)
 ·exact rfl
theorem aXg:Tryz.prog.inPlace 5=Rows.ordersAveragesRow.inPlace:=by kernel_rfl
theorem aXh:Tryz.prog.unfollowed 5=Rows.ordersAveragesRow.unfollowed:=by kernel_rfl
theorem aXi:Tryz.prog.recurses 5=Rows.ordersAveragesRow.recurses:=by kernel_rfl
theorem aXj:Tryz.prog.varsNamed 5=Rows.ordersAveragesRow.named:=by kernel_rfl
theorem aXk:joinedFacts Tryz.prog 5 Tryz.f5 Rows.ordersAveragesSpec Rows.ordersAveragesRow=true:=by
 unfold joinedFacts;rw [aXg,aXh,aXi,aXj]
 kernel_rfl
theorem aXl:Tryz.f5.isWrapper Tryz.prog Rows.ordersAveragesRow.wrapper Rows.ordersAveragesRow.mainSum:=by
 unfold Func.isWrapper
 first|(rw [om (by decide +kernel)];kernel_rfl)|(rw [oh (by decide +kernel)];exact⟨rfl,rfl⟩)
theorem over:Rows.ordersAveragesRow.holds Tryz.pinned (OpenSpec.ofChange Rows.ordersAveragesSpec):=
 OpenClaim.holds_of_wide 5 Tryz.f5 rfl rfl rfl rfl rfl rfl rfl ⟨rfl,rfl,rfl,rfl,rfl⟩ rfl rfl rfl rfl rfl ox Tryz.func5 aXk
  (ow ox) aXl (fun os started H enc _=>lifted os started H enc)
theorem proved:Rows.OrdersAveragesSaid:=over
#print axioms proved
end Go.Proofs.YtifcjpacobpdmaaGreat.averages

