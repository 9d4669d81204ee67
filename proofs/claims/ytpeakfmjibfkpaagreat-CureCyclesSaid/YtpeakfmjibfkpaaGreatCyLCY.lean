/- Several texts in one. (Printed by prep.py.) -/
import Derived.ProofKit
import Derived.OpenShut
import Derived.Carry
import Derived.Deep.Slices
import Derived.Test.YtpeakfmjibfkpaaGreatCyYX
namespace Go.Proofs.YtpeakfmjibfkpaaGreat.Row
open Go.ChangeShapes Go.WideShapes Go.ChangeAt Go.RowKit Num W32
open Sy (Seg RowC)
theorem own:ownKnob Tryz.prog.godebug=none:=by kernel_rfl
theorem laid:laidOutB Tryz.prog=true:=by kernel_rfl
theorem bAo {α:Type}{l:List α}(h:l.length=2):∃a b,l=[a,b]:=by
 match l,h with
 | [a,b],_=>exact⟨a,b,rfl⟩
theorem aUa {α:Type}{l:List α}(h:l.length=3):∃a b c,l=[a,b,c]:=by
 match l,h with
 | [a,b,c],_=>exact⟨a,b,c,rfl⟩
theorem aIj {α:Type}{l:List α}(h:l.length=4):∃a b c d,l=[a,b,c,d]:=by
 match l,h with
 | [a,b,c,d],_=>exact⟨a,b,c,d,rfl⟩
theorem bAm {α:Type}{l:List α}(h:l.length=6):∃a b c d e f,l=[a,b,c,d,e,f]:=by
 match l,h with
 | [a,b,c,d,e,f],_=>exact⟨a,b,c,d,e,f,rfl⟩
theorem aTp {α:Type}{l:List α}(h:l.length=7):∃a b c d e f g,l=[a,b,c,d,e,f,g]:=by
 match l,h with
 | [a,b,c,d,e,f,g],_=>exact⟨a,b,c,d,e,f,g,rfl⟩
theorem aJz {W:World}{a:Addr}{u:Value}(h:W.cell? a=some u):a.spot=none∧a.block<W.heap.size:=by
 unfold World.cell? at h;split at h
 ·rename_i hb;refine⟨?_,(oa.1 hb).1⟩;split at h
  ·cases h
  ·rename_i hs;simpa using hs
 ·cases h
section
variable {H:Type}{enc:TypeId×Value→H}{W:World}{t:TypeId}{cs:List Value}
def TR (enc:TypeId×Value→H) (W:World) (t:TypeId) (cs:List Value):Prop:=∃fuel x,DataW.trod enc Tryz.prog W 0 (fun _=>true) true fuel t cs=some x
theorem TR.int (h:TR enc W t cs) (ht:Tryz.prog.underlying t=some (.int .i64)):∃n,cs=[.int .i64 n]∧In64 n:=by
 obtain⟨fuel,x,h⟩:=h;obtain⟨n,rfl,_,hw⟩:=DataW.trod_int ht h;refine⟨n,rfl,?_⟩;simp only [Lit.wf,qr,decide_eq_true_eq]at hw;obtain⟨h1,h2⟩:=hw;have e1:IntKind.i64.min=-9223372036854775808:=rfl;have e2:IntKind.i64.max=9223372036854775807:=rfl;rw [e1]at h1;rw [e2]at h2;exact⟨h1,oq⟩
theorem TR.len {fs:Array Field}{m:Nat}(h:TR enc W t cs) (ht:Tryz.prog.underlying t=some (.struct fs)) (hm:Tryz.prog.cellsOf t=m):cs.length=m:=by
 obtain⟨fuel,x,h⟩:=h;obtain⟨xs,n,_,_,hl,_⟩:=DataW.trod_struct ht h;rw [hl,hm]
theorem TR.part {fs:Array Field}(h:TR enc W t cs) (ht:Tryz.prog.underlying t=some (.struct fs)) (i t' o m:Nat) (hf:(fs[i]?).map (fun f=>(f.type,f.offset,Tryz.prog.cellsOf f.type))=some (t',o,m)):TR enc W t' ((cs.drop o).take m):=by
 obtain⟨fuel,x,h⟩:=h;obtain⟨xs,n,_,_,_,hlen,hx⟩:=DataW.trod_struct ht h;obtain⟨f,h1,h2⟩:=xb.1 hf;injection h2 with e1 h2;injection h2 with e2 e3;subst e1 e2 e3;have hi:i<xs.length:=by rw [hlen];exact (oa.1 h1).1
 exact⟨n,xs[i],by rw [hx i f h1,qu hi]⟩
set_option maxHeartbeats 400000 in
theorem TR.list {α:Type}[Inhabited α] {P:Array Value→α→Prop}{e s:Nat}(h:TR enc W t cs) (ht:Tryz.prog.underlying t=some (.slice e)) (hs:Tryz.prog.cellsOf e=s) (h0:0<s)
 (hP:∀cs',TR enc W e cs'→∃v,P cs'.toArray v) (hS:∀a v,P a v→Seg s a):∃A n c l,cs=[.slice A n c]∧Lst W A n s P l:=by
 obtain⟨fuel,x,h⟩:=h;rcases Go.Deep.open_slice ht h with ⟨rfl,_⟩|⟨a,n,c,m,fu,D,Pl,rfl,_,hl,_,hm,_,hx⟩
 ·exact⟨none,0,0,[],rfl,Lst.nil⟩
 rw [og rfl]at hm;subst hm
 by_cases hn:n=0
 ·subst hn;exact⟨some a,0,m,[],rfl,Lst.nil⟩
 obtain⟨f,hf⟩:=Go.Deep.choose_lt (α:=List Value×α) (n:=n) (p:=fun i p=>W.cells? 0 (a.add (i*s)) s=some p.1∧P p.1.toArray p.2) fun i hi=>by
  obtain⟨cs',h1,h2⟩:=hx i oq;rw [hs]at h1;obtain⟨v,hv⟩:=hP cs' ⟨_,_,h2⟩;exact⟨(cs',v),h1,hv⟩
 have hc:∀i q u,i<n→(f i).1[q]?=some u→W.cell? (a.add (i*s+q))=some u:=fun i q u hi hq=>by
  obtain⟨_,h2,h3⟩:=World.cells?_some (hf i hi).1;have hlt:q<(f i).1.length:=(oo.1 hq).1;rw [←hq,←h3 q oq,Go.Deep.add_add]
 have hsp:a.spot=none∧a.block<W.heap.size:=by
  obtain⟨_,h2,h3⟩:=World.cells?_some (hf 0 oq).1;have:=hc 0 0 ((f 0).1[0]' oq) oq (qu _);have:=aJz this;rw [wz]at this;exact this
 obtain⟨b,o,sp⟩:=a;obtain⟨rfl,hb⟩:=hsp;have key:∀j,j≤n→∃xs,InAt W (some ⟨b,o,none⟩) xs∧ArrV j s P xs (fun i=>(f i).2):=by
  intro j
  induction j with
  | zero=>intro _;exact⟨#[],fun p u hp=>by simp at hp,ArrV.empty⟩
  | succ j ih=>
   intro hj;obtain⟨xs,h1,h2⟩:=ih oq;obtain⟨_,h3,_⟩:=World.cells?_some (hf j hj).1;refine⟨_,?_,ArrV.push (a:=(f j).1.toArray) h2 (by simpa using h3) (hf j hj).2⟩;intro p u hp
   by_cases c:p<xs.size
   ·rw [wu c]at hp;exact h1 p u hp
   ·rw [Array.getElem?_append_right oq]at hp;have hz:=h2.size;have:=hc j (p-xs.size) u hj (by simpa using hp);rw [add_plain,←hz,show xs.size+(p-xs.size)=p by omega]at this;exact⟨b,o,rfl,hb,this⟩
 obtain⟨xs,h1,h2⟩:=key n (oy n);refine⟨_,n,m,(List.range n).map fun i=>(f i).2,rfl,by simp,xs,h1,h2.rowC hS,h2.congr fun i hi=>?_⟩;rw [eC (by simpa using hi)];simp
theorem TR.ratio (h:TR enc W 33 cs):∃y z,In64 y∧In64 z∧cs=[.int .i64 y,.int .i64 z]:=by
 obtain⟨a,b,rfl⟩:=bAo (h.len Tryz.underlying33 (m:=2) ox);obtain⟨y,e,hy⟩:=TR.int (cs:=[a]) (h.part Tryz.underlying33 0 2 0 1 ox) Tryz.underlying2;obtain⟨z,e',hz⟩:=TR.int (cs:=[b]) (h.part Tryz.underlying33 1 2 1 1 ox) Tryz.underlying2;injection e with e;injection e' with e';exact⟨y,z,hy,hz,by rw [e,e']⟩
theorem TR.rate (h:TR enc W 269 cs):∃r,wX cs.toArray r:=by
 obtain⟨a,b,c,d,rfl⟩:=aIj (h.len Tryz.underlying269 (m:=4) ox);obtain⟨y,z,hy,hz,e⟩:=TR.ratio (cs:=[a,b]) (h.part Tryz.underlying269 0 33 0 2 ox);obtain⟨y',z',hy',hz',e'⟩:=TR.ratio (cs:=[c,d]) (h.part Tryz.underlying269 1 33 2 2 ox);simp only [xu,and_true]at e e';obtain⟨rfl,rfl⟩:=e;obtain⟨rfl,rfl⟩:=e';exact⟨_,y,z,y',z',hy,hz,hy',hz',rfl,rfl⟩
theorem seg4 {q:PRate}{a:Array Value}(h:wX a q):Seg 4 a:=by
 obtain⟨_,_,_,_,_,_,_,_,rfl,_⟩:=h;exact⟨rfl,by simp [Value.scalar,Value.noWord]⟩
theorem TR.rates (h:TR enc W 153 cs):∃A n c l,cs=[.slice A n c]∧Lst W A n 4 wX l:=
 h.list Tryz.underlying153 ox oz (fun _ h=>h.rate) fun _ _ h=>seg4 h
theorem TR.mat (h:TR enc W 155 cs):∃r,MatA W cs.toArray r:=by
 obtain⟨a,b,c,d,e,f,rfl⟩:=bAm (h.len Tryz.underlying155 (m:=6) ox);obtain⟨A,n,cc,l,e0,hA⟩:=TR.rates (cs:=[a]) (h.part Tryz.underlying155 0 153 0 1 ox);obtain⟨B,n',cc',l',e1,hB⟩:=TR.rates (cs:=[b]) (h.part Tryz.underlying155 1 153 1 1 ox);obtain⟨y,z,hy,hz,e2⟩:=TR.ratio (cs:=[c,d]) (h.part Tryz.underlying155 2 33 2 2 ox);obtain⟨y',z',hy',hz',e3⟩:=TR.ratio (cs:=[e,f]) (h.part Tryz.underlying155 3 33 4 2 ox);simp only [xu,and_true]at e0 e1 e2 e3;obtain rfl:=e0;obtain rfl:=e1;obtain⟨rfl,rfl⟩:=e2;obtain⟨rfl,rfl⟩:=e3;exact⟨⟨l,l',ofQ y z,ofQ y' z'⟩,A,n,cc,B,n',cc',y,z,y',z',hy,hz,hy',hz',rfl,hA,hB,rfl,rfl⟩
theorem TR.cell (h:TR enc W 164 cs):∃r,aHv cs.toArray r:=by
 obtain⟨a,b,c,d,e,f,g,rfl⟩:=aTp (h.len Tryz.underlying164 (m:=7) ox);obtain⟨m,e0,hm⟩:=TR.int (cs:=[a]) (h.part Tryz.underlying164 0 3 0 1 ox) Tryz.underlying3;obtain⟨y,z,hy,hz,e1⟩:=TR.ratio (cs:=[b,c]) (h.part Tryz.underlying164 1 33 1 2 ox);obtain⟨y',z',hy',hz',e2⟩:=TR.ratio (cs:=[d,e]) (h.part Tryz.underlying164 2 33 3 2 ox);obtain⟨y'',z'',hy'',hz'',e3⟩:=TR.ratio (cs:=[f,g]) (h.part Tryz.underlying164 3 33 5 2 ox);simp only [xu,and_true]at e0 e1 e2 e3;obtain rfl:=e0;obtain⟨rfl,rfl⟩:=e1;obtain⟨rfl,rfl⟩:=e2;obtain⟨rfl,rfl⟩:=e3;exact⟨_,m,y,z,y',z',y'',z'',hm,hy,hz,hy',hz',hy'',hz'',rfl,rfl⟩
theorem TR.link (h:TR enc W 168 cs):∃r,aHw cs.toArray r:=by
 obtain⟨a,b,c,d,rfl⟩:=aIj (h.len Tryz.underlying168 (m:=4) ox);obtain⟨m,e0,hm⟩:=TR.int (cs:=[a]) (h.part Tryz.underlying168 0 3 0 1 ox) Tryz.underlying3;obtain⟨m',e1,hm'⟩:=TR.int (cs:=[b]) (h.part Tryz.underlying168 1 3 1 1 ox) Tryz.underlying3;obtain⟨y,z,hy,hz,e2⟩:=TR.ratio (cs:=[c,d]) (h.part Tryz.underlying168 2 33 2 2 ox);simp only [xu,and_true]at e0 e1 e2;obtain rfl:=e0;obtain rfl:=e1;obtain⟨rfl,rfl⟩:=e2;exact⟨_,m,m',y,z,hm,hm',hy,hz,rfl,rfl⟩
theorem seg6 {q:PMat}{a:Array Value}(h:MatA W a q):Seg 6 a:=by
 obtain⟨_,_,_,_,_,_,_,_,_,_,_,_,_,_,rfl,_⟩:=h;exact⟨rfl,by simp [Value.scalar,Value.noWord]⟩
theorem seg7 {q:PCell}{a:Array Value}(h:aHv a q):Seg 7 a:=by
 obtain⟨_,_,_,_,_,_,_,_,_,_,_,_,_,_,rfl,_⟩:=h;exact⟨rfl,by simp [Value.scalar,Value.noWord]⟩
theorem bCf {q:PLink}{a:Array Value}(h:aHw a q):Seg 4 a:=by
 obtain⟨_,_,_,_,_,_,_,_,rfl,_⟩:=h;exact⟨rfl,by simp [Value.scalar,Value.noWord]⟩
set_option maxRecDepth 100000
variable {v:Value}{base:Nat}
theorem aXn (hv:Value.okWide Tryz.prog W .any base 26 v) (h:TR enc W 26 v.cells.toList) :
 ∃A0 n0 d0 A1 n1 d1 A2 n2 d2 s,v=.agg #[.slice A0 n0 d0,.slice A1 n1 d1,.slice A2 n2 d2]∧SecA W A0 n0 A1 n1 A2 n2 s:=by
 obtain⟨cs,rfl,_⟩:=okWide_struct Tryz.underlying26 hv;obtain⟨cs⟩:=cs;replace h:TR enc W 26 cs:=h;obtain⟨a,b,c,rfl⟩:=aUa (h.len Tryz.underlying26 (m:=3) ox);obtain⟨A0,n0,d0,l0,e0,h0⟩:=TR.list (P:=MatA W) (cs:=[a]) (h.part Tryz.underlying26 0 22 0 1 ox) Tryz.underlying22 (s:=6) ox oz (fun _ h=>h.mat) fun _ _ h=>seg6 h;obtain⟨A1,n1,d1,l1,e1,h1⟩:=TR.list (P:=aHv) (cs:=[b]) (h.part Tryz.underlying26 1 23 1 1 ox) Tryz.underlying23 (s:=7) ox oz (fun _ h=>h.cell) fun _ _ h=>seg7 h;obtain⟨A2,n2,d2,l2,e2,h2⟩:=TR.list (P:=aHw) (cs:=[c]) (h.part Tryz.underlying26 2 24 2 1 ox) Tryz.underlying24 (s:=4) ox oz (fun _ h=>h.link) fun _ _ h=>bCf h;simp only [xu,and_true]at e0 e1 e2;subst e0 e1 e2;exact⟨A0,n0,d0,A1,n1,d1,A2,n2,d2,⟨l0,l1,l2⟩,rfl,h0,h1,h2⟩
theorem yS (hv:Value.okWide Tryz.prog W .any base 33 v) (h:TR enc W 33 v.cells.toList):∃y z,v=.agg #[.int .i64 y,.int .i64 z]∧In64 y∧In64 z:=by
 obtain⟨cs,rfl,_⟩:=okWide_struct Tryz.underlying33 hv;obtain⟨cs⟩:=cs;obtain⟨y,z,hy,hz,rfl⟩:=TR.ratio (cs:=cs) h;exact⟨y,z,rfl,hy,hz⟩
end
section
variable {H:Type}{enc:TypeId×Value→H}{W:World}{t:TypeId}{cs:List Value}{v:Value}{base:Nat}
theorem TR.item {n e m:Nat}(h:TR enc W t cs) (ht:Tryz.prog.underlying t=some (.array n e)) (hm:Tryz.prog.cellsOf e=m) (i:Nat) (hi:i<n):TR enc W e ((cs.drop (i*m)).take m):=by
 obtain⟨fuel,x,h⟩:=h;obtain⟨xs,f,_,_,_,hlen,hx⟩:=DataW.trod_array ht h;subst hm;exact⟨f,xs[i],by rw [hx i hi,qu oq]⟩
theorem aQd {α:Type}{l:List α}(h:l.length=8):∃a b c d e f g i,l=[a,b,c,d,e,f,g,i]:=by
 match l,h with
 | [a,b,c,d,e,f,g,i],_=>exact⟨a,b,c,d,e,f,g,i,rfl⟩
theorem TR.pair {a b c d:Value}(h:TR enc W 34 [a,b,c,d]):∃y z y' z',In64 y∧In64 z∧In64 y'∧In64 z'∧a=.int .i64 y∧b=.int .i64 z∧c=.int .i64 y'∧d=.int .i64 z':=by
 obtain⟨y,z,hy,hz,e⟩:=TR.ratio (cs:=[a,b]) (h.item Tryz.underlying34 (m:=2) ox 0 oz);obtain⟨y',z',hy',hz',e'⟩:=TR.ratio (cs:=[c,d]) (h.item Tryz.underlying34 (m:=2) ox 1 oz);simp only [xu,and_true]at e e';exact⟨y,z,y',z',hy,hz,hy',hz',e.1,e.2,e'.1,e'.2⟩
set_option maxRecDepth 100000
theorem aMw (hv:Value.okWide Tryz.prog W .any base 36 v) (h:TR enc W 36 v.cells.toList) :
 ∃i0 i1 i2 i3 i4 i5 i6 i7,v=.agg #[.int .i64 i0,.int .i64 i1,.int .i64 i2,.int .i64 i3,.int .i64 i4,.int .i64 i5,.int .i64 i6,.int .i64 i7]∧In64 i0∧In64 i1∧In64 i2∧In64 i3∧In64 i4∧In64 i5∧In64 i6∧In64 i7:=by
 obtain⟨cs,rfl,_⟩:=okWide_struct Tryz.underlying36 hv;obtain⟨cs⟩:=cs;replace h:TR enc W 36 cs:=h;obtain⟨a,b,c,d,e,f,g,i,rfl⟩:=aQd (h.len Tryz.underlying36 (m:=8) ox);obtain⟨i0,i1,i2,i3,h0,h1,h2,h3,rfl,rfl,rfl,rfl⟩:=TR.pair (a:=a) (b:=b) (c:=c) (d:=d) (h.part Tryz.underlying36 0 34 0 4 ox);obtain⟨i4,i5,i6,i7,h4,h5,h6,h7,rfl,rfl,rfl,rfl⟩:=TR.pair (a:=e) (b:=f) (c:=g) (d:=i) (h.part Tryz.underlying36 1 34 4 4 ox);exact⟨i0,i1,i2,i3,i4,i5,i6,i7,rfl,h0,h1,h2,h3,h4,h5,h6,h7⟩
end
set_option maxRecDepth 100000
section
variable {H:Type}{enc:TypeId×Value→H}{W:World}{t:TypeId}{cs:List Value}{v:Value}{base:Nat}
theorem TR.u8 (h:TR enc W 5 cs):∃n,U8A cs.toArray n:=by
 obtain⟨fuel,x,h⟩:=h;obtain⟨n,rfl,_,hw⟩:=DataW.trod_int Tryz.underlying5 h;simp only [Lit.wf,qr,decide_eq_true_eq]at hw;obtain⟨h1,h2⟩:=hw;have e1:IntKind.u8.min=0:=rfl;have e2:IntKind.u8.max=255:=rfl;rw [e1]at h1;rw [e2]at h2;exact⟨n,h1,h2,rfl⟩
end
set_option maxRecDepth 100000
section
variable {H:Type}{enc:TypeId×Value→H}{W:World}{t:TypeId}{cs:List Value}{v:Value}{base:Nat}
theorem TR.alen {n e m:Nat}(h:TR enc W t cs) (ht:Tryz.prog.underlying t=some (.array n e)) (hm:Tryz.prog.cellsOf t=m):cs.length=m:=by
 obtain⟨fuel,x,h⟩:=h;obtain⟨xs,f,_,_,hl,_⟩:=DataW.trod_array ht h;rw [hl,hm]
theorem TR.u8p (h:TR enc W 137 cs):∃w:Int×Int,U8P cs.toArray w:=by
 have hu:=Tryz.underlying137;have hl:cs.length=2:=h.alen hu ox;obtain⟨a,b,rfl⟩:∃a b,cs=[a,b]:=by
  match cs,hl with
  | [a,b],_=>exact⟨a,b,rfl⟩
 obtain⟨n,h0,h0',e0⟩:=TR.u8 (cs:=[a]) (h.item hu (m:=1) ox 0 oz);obtain⟨m,h1,h1',e1⟩:=TR.u8 (cs:=[b]) (h.item hu (m:=1) ox 1 oz);simp only [List.toArray,Array.mk.injEq,xu,and_true]at e0 e1;subst e0 e1;exact⟨(n,m),⟨h0,h0'⟩,⟨h1,h1'⟩,rfl⟩
end
set_option maxRecDepth 100000
section
variable {H:Type}{enc:TypeId×Value→H}{W:World}{t:TypeId}{cs:List Value}{v:Value}{base:Nat}
theorem aXs (hv:Value.okWide Tryz.prog W .any base 145 v) (h:TR enc W 145 v.cells.toList):∃cs:Array Value,v=.agg cs∧Seg 24 cs∧∀i,i<24→∃n:Int,(0≤n∧n≤255)∧cs[i]?=some (.int .u8 n):=by
 have hu:=Tryz.underlying145;simp only [Value.okWide,hu]at hv;obtain⟨cs,rfl,hs,_⟩:=hv;obtain⟨cs⟩:=cs;replace h:TR enc W 145 cs:=h;have hl:cs.length=24:=hs.trans ox;have key:∀i,i<24→∃n:Int,(0≤n∧n≤255)∧cs[i]?=some (.int .u8 n):=fun i hi=>by
  obtain⟨w,h0,h1,e⟩:=TR.u8p (h.item hu (m:=2) ox (i/2) oq);have e:(cs.drop (i/2*2)).take 2=[.int .u8 w.1,.int .u8 w.2]:=by simpa using congrArg Array.toList e
  have g:∀q,q<2→cs[i/2*2+q]?=([.int .u8 w.1,.int .u8 w.2]:List Value)[q]?:=fun q hq=>by
   rw [←e,zv,og hq,xj]
  rcases Nat.mod_two_eq_zero_or_one i with hm|hm
  ·have:=g 0 oz;rw [show i/2*2+0=i by omega]at this;exact⟨w.1,h0,this⟩
  ·have:=g 1 oz;rw [show i/2*2+1=i by omega]at this;exact⟨w.2,h1,this⟩
 refine⟨⟨cs⟩,rfl,⟨hl,fun u hu=>?_⟩,fun i hi=>by rw [jf];exact key i hi⟩;obtain⟨i,hi⟩:=List.mem_iff_getElem?.1 (show u∈cs from hu);have hlt:i<cs.length:=(oo.1 hi).1;obtain⟨n,_,hn⟩:=key i oq;rw [hi]at hn;injection hn with hn;subst hn;exact⟨rfl,rfl⟩
end
end Go.Proofs.YtpeakfmjibfkpaaGreat.Row

namespace Go.Proofs.YtpeakfmjibfkpaaGreat.ccycles
open Go.ChangeShapes Go.WideShapes Go.ChangeAt Go.RowKit
open Sy (Up Sees CallsG Seg)
open Go.Proofs.YtpeakfmjibfkpaaGreat.Row
set_option maxRecDepth 100000 in
theorem lifted (os:Os) (started:os.Started) (H:Type) (enc:TypeId×Value→H) :
 ReturnsInHanded {} Tryz.checked os 9 .any (Rows.cureCyclesSpec.pre6 enc Tryz.prog Tryz.f9 Rows.cureCyclesRow.domain false) (Rows.cureCyclesSpec.post enc Tryz.prog Tryz.f9 false true false false):=by
 refine returnsInHanded_of_change (C:=Tryz.checked) own started ox Tryz.func9
  (ChangeSpec.witness6 (enc:=enc) (C:=Tryz.checked) false ⟨#[],#[S3 none 0 0 none 0 0 none 0 0,.agg #[.int .i64 0,.int .i64 0],.agg #[.int .i64 0,.int .i64 0],.agg #[.int .i64 0,.int .i64 0,.int .i64 0,.int .i64 0,.int .i64 0,.int .i64 0,.int .i64 0,.int .i64 0],.agg #[.int .u8 0,.int .u8 0,.int .u8 0,.int .u8 0,.int .u8 0,.int .u8 0,.int .u8 0,.int .u8 0,.int .u8 0,.int .u8 0,.int .u8 0,.int .u8 0,.int .u8 0,.int .u8 0,.int .u8 0,.int .u8 0,.int .u8 0,.int .u8 0,.int .u8 0,.int .u8 0,.int .u8 0,.int .u8 0,.int .u8 0,.int .u8 0]],[]⟩ 8 ox ox ox ox) ?_
 intro W base args ds gs before hval0 hW hcnd _;have hval:∀(j:Nat) t v,Tryz.f9.params[j]?=some t→args[j]?=some v→Value.okWide Tryz.prog W .any base t v:=hval0;have hW':=hW;obtain⟨p,q,hA0,hV,rfl,hfz,hnd⟩:=hW;have hA:DataW.TrodAll enc Tryz.prog W 0 (fun _=>true) true Tryz.f9.params.toList args.toList ds p:=hA0;rw [Tryz.params9]at hA hval;obtain⟨v0,vs0,d0,ds0,p0,q0,hargs,rfl,rfl,h0,r0⟩:=trodAll_cons hA;obtain⟨v1,vs1,d1,ds1,p1,q1,rfl,rfl,rfl,h1,r1⟩:=trodAll_cons r0;obtain⟨v2,vs2,d2,ds2,p2,q2,rfl,rfl,rfl,h2,r2⟩:=trodAll_cons r1;obtain⟨v3,vs3,d3,ds3,p3,q3,rfl,rfl,rfl,h3,r3⟩:=trodAll_cons r2;obtain⟨v4,vs4,d4,ds4,p4,q4,rfl,rfl,rfl,h4,r4⟩:=trodAll_cons r3;obtain⟨rfl,rfl,rfl⟩:=trodAll_nil r4;obtain rfl:args=#[v0,v1,v2,v3,v4]:=by cases args;simp_all
 obtain⟨rfl,rfl⟩:=trodVars_none hV;obtain⟨A0,n0,c0,B0,n0',c0',C0,n0'',c0'',s0,rfl,a0⟩:=aXn (hval 0 26 v0 rfl rfl) (h0.elim fun f g=>⟨f,_,g⟩:TR enc W 26 v0.cells.toList);obtain⟨y1,z1,rfl,iy1,iz1⟩:=yS (hval 1 33 v1 rfl rfl) (h1.elim fun f g=>⟨f,_,g⟩:TR enc W 33 v1.cells.toList);obtain⟨y2,z2,rfl,iy2,iz2⟩:=yS (hval 2 33 v2 rfl rfl) (h2.elim fun f g=>⟨f,_,g⟩:TR enc W 33 v2.cells.toList);obtain⟨i3_0,i3_1,i3_2,i3_3,i3_4,i3_5,i3_6,i3_7,rfl,g3_0,g3_1,g3_2,g3_3,g3_4,g3_5,g3_6,g3_7⟩:=aMw (hval 3 36 v3 rfl rfl) (h3.elim fun f g=>⟨f,_,g⟩:TR enc W 36 v3.cells.toList);obtain⟨x4,rfl,sx4,ux4⟩:=aXs (hval 4 145 v4 rfl rfl) (h4.elim fun f g=>⟨f,_,g⟩:TR enc W 145 v4.cells.toList);clear hA0 hval0;have hlt:∀x∈p0++(p1++(p2++(p3++(p4++[])))),x.block<W.heap.size:=fun x hx=>by simpa using hW'.lt x (by simpa using hx)
 have hc:CallsG Tryz.prog 9 #[S3 A0 n0 c0 B0 n0' c0' C0 n0'' c0'',.agg #[.int .i64 y1,.int .i64 z1],.agg #[.int .i64 y2,.int .i64 z2],.agg #[.int .i64 i3_0,.int .i64 i3_1,.int .i64 i3_2,.int .i64 i3_3,.int .i64 i3_4,.int .i64 i3_5,.int .i64 i3_6,.int .i64 i3_7],.agg x4] W fun _ v=>v=.bool true:=zW (k:=W) (R:=fun _ v=>v=.bool true) a0 iy1 iz1 iy2 iz2 g3_0 g3_1 g3_2 g3_3 g3_4 g3_5 g3_6 g3_7 sx4 ux4 (fun _ _=>rfl) W (Up.refl W);have hcall:=hc W (Sees.refl W);refine hcall.mono fun e W' he=>?_;obtain⟨v,k',rfl,_,_,hB,rfl⟩:=he;refine⟨_,rfl,_,_,_,[],p0++(p1++(p2++(p3++(p4++[])))),[],hW',?_,?_,?_,hB.frame _,fun h=>by cases h⟩
 ·exact trodAll_mk1 (shut_bool Tryz.underlying4 _)
 ·exact trodAll_cons_mk (Below.trod laid ox (ow ox) h0 hB (fun x hx=>hlt x (by simp [hx]))) (trodAll_cons_mk (Below.trod laid ox (ow ox) h1 hB (fun x hx=>hlt x (by simp [hx]))) (trodAll_cons_mk (Below.trod laid ox (ow ox) h2 hB (fun x hx=>hlt x (by simp [hx]))) (trodAll_cons_mk (Below.trod laid ox (ow ox) h3 hB (fun x hx=>hlt x (by simp [hx]))) (trodAll_cons_mk (Below.trod laid ox (ow ox) h4 hB (fun x hx=>hlt x (by simp [hx]))) trodAll_mk0))))
 ·exact rfl
theorem over:Rows.cureCyclesRow.holds Tryz.pinned (OpenSpec.ofChange Rows.cureCyclesSpec):=
 OpenClaim.holds_of_wide 9 Tryz.f9 rfl rfl rfl rfl rfl rfl rfl ⟨rfl,rfl,rfl,rfl,rfl⟩ rfl rfl rfl rfl rfl ox Tryz.func9 ox
  (ow ox) (by unfold Func.isWrapper;first|(rw [og (by decide +kernel)];kernel_rfl)|(rw [oh (by decide +kernel)];exact⟨rfl,rfl⟩))
  (fun os started H enc _=>lifted os started H enc)
theorem proved:Rows.CureCyclesSaid:=over
#print axioms proved
end Go.Proofs.YtpeakfmjibfkpaaGreat.ccycles

