/- Several texts in one. (Printed by prep.py.) -/
import Derived.ProofKit
import Derived.OpenShut
import Derived.Carry
import Derived.Deep.Slices
import Derived.Test.YtmifbgccpdmjpaaGreatTbTBL
namespace Go.Proofs.YtmifbgccpdmjpaaGreat.Row
open Go.ChangeShapes Go.WideShapes Go.ChangeAt Go.RowKit Num W32 Plain
open Sy (Seg RowC)
theorem own:ownKnob Tryz.prog.godebug=none:=by kernel_rfl
theorem laid:laidOutB Tryz.prog=true:=by kernel_rfl
instance:Inhabited W4:=⟨W4.zero⟩
theorem aHe {W:World}{a:Addr}{u:Value}(h:W.cell? a=some u):a.spot=none∧a.block<W.heap.size:=by
 unfold World.cell? at h;split at h
 ·rename_i hb;refine⟨?_,(qs.1 hb).1⟩;split at h
  ·cases h
  ·rename_i hs;simpa using hs
 ·cases h
section
variable {H:Type}{enc:TypeId×Value→H}{W:World}{t:TypeId}{cs:List Value}
def TR (enc:TypeId×Value→H) (W:World) (t:TypeId) (cs:List Value):Prop:=∃fuel x,DataW.trod enc Tryz.prog W 0 (fun _=>true) true fuel t cs=some x
theorem TR.len {fs:Array Field}{m:Nat}(h:TR enc W t cs) (ht:Tryz.prog.underlying t=some (.struct fs)) (hm:Tryz.prog.cellsOf t=m):cs.length=m:=by
 obtain⟨fuel,x,h⟩:=h;obtain⟨xs,n,_,_,hl,_⟩:=DataW.trod_struct ht h;rw [hl,hm]
theorem TR.part {fs:Array Field}(h:TR enc W t cs) (ht:Tryz.prog.underlying t=some (.struct fs)) (i t' o m:Nat) (hf:(fs[i]?).map (fun f=>(f.type,f.offset,Tryz.prog.cellsOf f.type))=some (t',o,m)):TR enc W t' ((cs.drop o).take m):=by
 obtain⟨fuel,x,h⟩:=h;obtain⟨xs,n,_,_,_,hlen,hx⟩:=DataW.trod_struct ht h;obtain⟨f,h1,h2⟩:=xk.1 hf;injection h2 with e1 h2;injection h2 with e2 e3;subst e1 e2 e3;have hi:i<xs.length:=by rw [hlen];exact (qs.1 h1).1
 exact⟨n,xs[i],by rw [hx i f h1,qi hi]⟩
theorem TR.els {α:Type}[Inhabited α] {P:Array Value→α→Prop}{e s:Nat}(h:TR enc W t cs) (ht:Tryz.prog.underlying t=some (.slice e)) (hs:Tryz.prog.cellsOf e=s) (h0:0<s)
 (hP:∀cs',TR enc W e cs'→∃v,P cs'.toArray v) (hS:∀a v,P a v→Seg s a):∃A n c f,cs=[.slice A n c]∧Els W A n s P f:=by
 obtain⟨fuel,x,h⟩:=h;rcases Go.Deep.open_slice ht h with ⟨rfl,_⟩|⟨a,n,c,m,fu,D,Pl,rfl,_,hl,_,hm,_,hx⟩
 ·exact⟨none,0,0,fun _=>default,rfl,#[],fun p u hp=>by simp at hp,(ArrV.empty (f:=fun _=>default)).rowC hS,ArrV.empty⟩
 rw [od rfl]at hm;subst hm
 by_cases hn:n=0
 ·subst hn;exact⟨some a,0,m,fun _=>default,rfl,#[],fun p u hp=>by simp at hp,(ArrV.empty (f:=fun _=>default)).rowC hS,ArrV.empty⟩
 obtain⟨f,hf⟩:=Go.Deep.choose_lt (α:=List Value×α) (n:=n) (p:=fun i p=>W.cells? 0 (a.add (i*s)) s=some p.1∧P p.1.toArray p.2) fun i hi=>by
  obtain⟨cs',h1,h2⟩:=hx i oq;rw [hs]at h1;obtain⟨v,hv⟩:=hP cs' ⟨_,_,h2⟩;exact⟨(cs',v),h1,hv⟩
 have hc:∀i q u,i<n→(f i).1[q]?=some u→W.cell? (a.add (i*s+q))=some u:=fun i q u hi hq=>by
  obtain⟨_,h2,h3⟩:=World.cells?_some (hf i hi).1;have hlt:q<(f i).1.length:=(oa.1 hq).1;rw [←hq,←h3 q oq,Go.Deep.add_add]
 have hsp:a.spot=none∧a.block<W.heap.size:=by
  obtain⟨_,h2,h3⟩:=World.cells?_some (hf 0 oq).1;have:=hc 0 0 ((f 0).1[0]' oq) oq (qi _);have:=aHe this;rw [xg]at this;exact this
 obtain⟨b,o,sp⟩:=a;obtain⟨rfl,hb⟩:=hsp;have key:∀j,j≤n→∃xs,InAt W (some ⟨b,o,none⟩) xs∧ArrV j s P xs (fun i=>(f i).2):=by
  intro j
  induction j with
  | zero=>intro _;exact⟨#[],fun p u hp=>by simp at hp,ArrV.empty⟩
  | succ j ih=>
   intro hj;obtain⟨xs,h1,h2⟩:=ih oq;obtain⟨_,h3,_⟩:=World.cells?_some (hf j hj).1;refine⟨_,?_,ArrV.push (a:=(f j).1.toArray) h2 (by simpa using h3) (hf j hj).2⟩;intro p u hp
   by_cases c:p<xs.size
   ·rw [kf c]at hp;exact h1 p u hp
   ·rw [Array.getElem?_append_right oq]at hp;have hz:=h2.size;have:=hc j (p-xs.size) u hj (by simpa using hp);rw [add_plain,←hz,show xs.size+(p-xs.size)=p by omega]at this;exact⟨b,o,rfl,hb,this⟩
 obtain⟨xs,h1,h2⟩:=key n (oy n);exact⟨_,n,m,_,rfl,xs,h1,h2.rowC hS,h2⟩
theorem TR.item {n e m:Nat}(h:TR enc W t cs) (ht:Tryz.prog.underlying t=some (.array n e)) (hm:Tryz.prog.cellsOf e=m) (i:Nat) (hi:i<n):TR enc W e ((cs.drop (i*m)).take m):=by
 obtain⟨fuel,x,h⟩:=h;obtain⟨xs,f,_,_,_,hlen,hx⟩:=DataW.trod_array ht h;subst hm;exact⟨f,xs[i],by rw [hx i hi,qi oq]⟩
set_option maxRecDepth 100000
theorem TR.i8 (h:TR enc W 73 cs):∃n,cs=[.int .i8 n]∧In8 n:=by
 obtain⟨fuel,x,h⟩:=h;obtain⟨n,rfl,_,hw⟩:=DataW.trod_int Tryz.underlying73 h;exact⟨n,rfl,bounds_i8 hw⟩
theorem TR.force (h:TR enc W 76 cs):∃a b c d e f,cs=[.int .i8 a,.int .i8 b,.int .i8 c,.int .i8 d,.int .i8 e,.int .i8 f]∧In8 a∧In8 b∧In8 c∧In8 d∧In8 e∧In8 f:=by
 have hl:cs.length=6:=h.len Tryz.underlying76 ox;obtain⟨x0,x1,x2,x3,x4,x5,rfl⟩:∃a b c d e f,cs=[a,b,c,d,e,f]:=by
  match cs,hl with
  | [a,b,c,d,e,f],_=>exact⟨a,b,c,d,e,f,rfl⟩
 have p0:TR enc W 74 [x0,x1,x2]:=h.part Tryz.underlying76 0 74 0 3 ox;have p1:TR enc W 74 [x3,x4,x5]:=h.part Tryz.underlying76 1 74 3 3 ox;have hu:=Tryz.underlying74;obtain⟨a,e0,h0⟩:=TR.i8 (cs:=[x0]) (p0.item hu (m:=1) ox 0 oz);obtain⟨b,e1,h1⟩:=TR.i8 (cs:=[x1]) (p0.item hu (m:=1) ox 1 oz);obtain⟨c,e2,h2⟩:=TR.i8 (cs:=[x2]) (p0.item hu (m:=1) ox 2 oz);obtain⟨d,e3,h3⟩:=TR.i8 (cs:=[x3]) (p1.item hu (m:=1) ox 0 oz);obtain⟨e,e4,h4⟩:=TR.i8 (cs:=[x4]) (p1.item hu (m:=1) ox 1 oz);obtain⟨f,e5,h5⟩:=TR.i8 (cs:=[x5]) (p1.item hu (m:=1) ox 2 oz);simp only [List.cons.injEq,and_true]at e0 e1 e2 e3 e4 e5;subst e0 e1 e2 e3 e4 e5;exact⟨a,b,c,d,e,f,rfl,h0,h1,h2,h3,h4,h5⟩
variable {base:Nat}{v:Value}
theorem aBq {v:Value}{t':TypeId}(ht:Tryz.prog.underlying t=some (.slice t')) (hv:Value.okWide Tryz.prog W .any base t v):v.cells.toList=[v]:=by
 simp only [Value.okWide,ht]at hv;cases v <;> simp_all [Value.cells,Cell.okWide,Cell.ok]
theorem bDg (a:Array Value) (w:W4) (h:aGt a w):Seg 6 a:=by
 obtain⟨_,_,_,_,_,_,_,rfl,_⟩:=h;exact⟨rfl,by simp [Value.scalar,Value.noWord]⟩
theorem zW (hv:Value.okWide Tryz.prog W .any base 22 v) (h:TR enc W 22 v.cells.toList):∃A n c f,v=.slice A n c∧Els W A n 6 aGt f:=by
 rw [aBq Tryz.underlying22 hv]at h
 obtain⟨A,n,c,f,e,hf⟩:=h.els Tryz.underlying22 (by kernel_rfl:Tryz.prog.cellsOf 76=6) oz (P:=aGt) (fun cs' h=>by
  obtain⟨a,b,c,d,e,f,rfl,h0,h1,h2,h3,h4,h5⟩:=h.force
  exact⟨_,a,b,c,d,e,f,⟨h0,h1,h2,h3,h4,h5⟩,rfl,rfl⟩) bDg
 injection e with e;exact⟨A,n,c,f,e,hf⟩
end
end Go.Proofs.YtmifbgccpdmjpaaGreat.Row

namespace Go.Proofs.YtmifbgccpdmjpaaGreat.mtables
open Go.ChangeShapes Go.WideShapes Go.ChangeAt Go.RowKit
open Sy (Up Sees CallsG Seg)
open Go.Proofs.YtmifbgccpdmjpaaGreat.Row
set_option maxRecDepth 100000 in
theorem lifted (os:Os) (started:os.Started) (H:Type) (enc:TypeId×Value→H) :
 ReturnsInHanded {} Tryz.checked os 4 .any (Rows.mountTableSpec.pre6 enc Tryz.prog Tryz.f4 Rows.mountTableRow.domain false) (Rows.mountTableSpec.post enc Tryz.prog Tryz.f4 false true false false):=by
 refine returnsInHanded_of_change (C:=Tryz.checked) own started ox Tryz.func4
  (ChangeSpec.witness6 (enc:=enc) (C:=Tryz.checked) false ⟨#[],#[.slice none 0 0,.slice none 0 0],[]⟩ 8 ox ox ox ox) ?_
 intro W base args ds gs before hval0 hW hcnd _;have hval:∀(j:Nat) t v,Tryz.f4.params[j]?=some t→args[j]?=some v→Value.okWide Tryz.prog W .any base t v:=hval0;have hW':=hW;obtain⟨p,q,hA0,hV,rfl,hfz,hnd⟩:=hW;have hA:DataW.TrodAll enc Tryz.prog W 0 (fun _=>true) true Tryz.f4.params.toList args.toList ds p:=hA0;rw [Tryz.params4]at hA hval;obtain⟨v0,vs0,d0,ds0,p0,q0,hargs,rfl,rfl,h0,r0⟩:=trodAll_cons hA;obtain⟨v1,vs1,d1,ds1,p1,q1,rfl,rfl,rfl,h1,r1⟩:=trodAll_cons r0;obtain⟨rfl,rfl,rfl⟩:=trodAll_nil r1;obtain rfl:args=#[v0,v1]:=by cases args;simp_all
 obtain⟨rfl,rfl⟩:=trodVars_none hV;obtain⟨A0,n0,c0,l0,rfl,a0⟩:=zW (hval 0 22 v0 rfl rfl) (h0.elim fun f g=>⟨f,_,g⟩:TR enc W 22 v0.cells.toList);obtain⟨A1,n1,c1,l1,rfl,a1⟩:=zW (hval 1 22 v1 rfl rfl) (h1.elim fun f g=>⟨f,_,g⟩:TR enc W 22 v1.cells.toList);clear hA0 hval0;have hlt:∀x∈p0++(p1++[]),x.block<W.heap.size:=fun x hx=>by simpa using hW'.lt x (by simpa using hx)
 have hc:CallsG Tryz.prog 4 #[.slice A0 n0 c0,.slice A1 n1 c1] W fun _ v=>v=.bool true:=aMs (k:=W) (R:=fun _ v=>v=.bool true) a0 a1 (fun _ _=>rfl) W (Up.refl W);have hcall:=hc W (Sees.refl W);refine hcall.mono fun e W' he=>?_;obtain⟨v,k',rfl,_,_,hB,rfl⟩:=he;refine⟨_,rfl,_,_,_,[],p0++(p1++[]),[],hW',?_,?_,?_,hB.frame _,fun h=>by cases h⟩
 ·exact trodAll_mk1 (shut_bool Tryz.underlying4 _)
 ·exact trodAll_cons_mk (Below.trod laid ox (ow ox) h0 hB (fun x hx=>hlt x (by simp [hx]))) (trodAll_cons_mk (Below.trod laid ox (ow ox) h1 hB (fun x hx=>hlt x (by simp [hx]))) trodAll_mk0)
 ·exact rfl
theorem bBj:Tryz.prog.inPlace 4=Rows.mountTableRow.inPlace:=by kernel_rfl
theorem bBk:Tryz.prog.unfollowed 4=Rows.mountTableRow.unfollowed:=by kernel_rfl
theorem bBl:Tryz.prog.recurses 4=Rows.mountTableRow.recurses:=by kernel_rfl
theorem bBm:Tryz.prog.varsNamed 4=Rows.mountTableRow.named:=by kernel_rfl
theorem bBn:joinedFacts Tryz.prog 4 Tryz.f4 Rows.mountTableSpec Rows.mountTableRow=true:=by
 unfold joinedFacts;rw [bBj,bBk,bBl,bBm]
 kernel_rfl
theorem bBo:Tryz.f4.isWrapper Tryz.prog Rows.mountTableRow.wrapper Rows.mountTableRow.mainSum:=by
 unfold Func.isWrapper
 first|(rw [od (by decide +kernel)];kernel_rfl)|(rw [oh (by decide +kernel)];exact⟨rfl,rfl⟩)
theorem over:Rows.mountTableRow.holds Tryz.pinned (OpenSpec.ofChange Rows.mountTableSpec):=
 OpenClaim.holds_of_wide 4 Tryz.f4 rfl rfl rfl rfl rfl rfl rfl ⟨rfl,rfl,rfl,rfl,rfl⟩ rfl rfl rfl rfl rfl ox Tryz.func4 bBn
  (ow ox) bBo (fun os started H enc _=>lifted os started H enc)
theorem proved:Rows.MountTableSaid:=over
#print axioms proved
end Go.Proofs.YtmifbgccpdmjpaaGreat.mtables

