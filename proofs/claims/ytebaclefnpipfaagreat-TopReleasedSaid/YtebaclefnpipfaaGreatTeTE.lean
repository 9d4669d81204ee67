/- Several texts in one. (Printed by prep.py.) -/
import Derived.Test.YtebaclefnpipfaaGreatTeLP
import Derived.Test.YtebaclefnpipfaaGreatTeFW
import Derived.Test.YtebaclefnpipfaaGreatTeVTL
namespace Go.Proofs.YtebaclefnpipfaaGreat
set_option maxRecDepth 100000
set_option maxHeartbeats 8000000
open Go.RowKit Num W32
def Grd (M:Nat) (q:Rat):Prop:=∃z:Int,q*((M:Int):Rat)=(z:Rat)
theorem Grd.add {M:Nat}{p q:Rat}(h:Grd M p) (h':Grd M q):Grd M (p+q):=by
 obtain⟨a,ha⟩:=h;obtain⟨b,hb⟩:=h';exact⟨a+b,by rw [Rat.add_mul,ha,hb,Rat.intCast_add]⟩
theorem Grd.neg {M:Nat}{q:Rat}(h:Grd M q):Grd M (-q):=by
 obtain⟨a,ha⟩:=h;exact⟨-a,by rw [Rat.neg_mul,ha,ww]⟩
theorem Grd.sub {M:Nat}{p q:Rat}(h:Grd M p) (h':Grd M q):Grd M (p-q):=by
 rw [Rat.sub_eq_add_neg];exact h.add h'.neg
theorem Grd.mul {M N:Nat}{p q:Rat}(h:Grd M p) (h':Grd N q):Grd (M*N) (p*q):=by
 obtain⟨a,ha⟩:=h;obtain⟨b,hb⟩:=h';refine⟨a*b,?_⟩;rw [zy,←ha,←hb,show ((M*N:Nat):Int)=(M:Int)*(N:Int) from rfl,zy]
 grind
theorem Grd.up {M:Nat}(N:Nat) {q:Rat}(h:Grd M q):Grd (N*M) q:=by
 obtain⟨a,ha⟩:=h;refine⟨(N:Int)*a,?_⟩;rw [zy,←ha,show ((N*M:Nat):Int)=(N:Int)*(M:Int) from rfl,zy]
 grind
structure Wts (P:Nat) (s:PSec):Prop where
 st:∀i,i<s.cells.length→Grd P ((at_ s.cells i).steam/(at_ s.cells i).cap)
 air:∀i,i<s.cells.length→Grd P ((at_ s.cells i).air/(at_ s.cells i).cap)
 lk:∀i,i<s.cells.length→∀z∈nbm s.links (i:Nat),Grd P (z.v/(at_ s.cells i).cap)
section
variable {s:PSec}{x:PState}{P M:Nat}{u v c:Rat}
theorem aAj {X:PLink→Rat}:∀(ls:List PLink) (a:Rat),Grd (P*M) (a/c)→(∀l∈ls,Grd P (l.v/c)∧Grd M (X l))→Grd (P*M) (ls.foldl (fun a l=>a+l.v*X l) a/c)
 | [],a,h,_=>h
 | l :: ls,a,h,hl=>by
  refine aAj ls _ ?_ fun z hz=>hl z (by simp [hz]);obtain⟨h1,h2⟩:=hl l (by simp);have:=h.add (h1.mul h2)
  rwa [show (a+l.v*X l) / c=a/c+l.v/c*X l by simp only [uj];grind]
theorem aPl (hE:aF s=0) (hw:Wts P s) (hT:∀j,j<s.cells.length→Grd M (at_ x.temp j)) (hu:Grd M u) (hv:Grd M v) {i:Nat}(hi:i<s.cells.length):Grd (P*M) (fQ s x u v i):=by
 unfold fQ;refine ((hT i hi).up P).add (aAj _ _ ?_ fun z hz=>⟨hw.lk i hi z hz,(hT _ (mO hE hi hz)).sub (hT i hi)⟩);have:=((hw.st i hi).mul (hu.sub (hT i hi))).add ((hw.air i hi).mul (hv.sub (hT i hi)))
 rwa [show ((at_ s.cells i).steam*(u-at_ x.temp i)+(at_ s.cells i).air*(v-at_ x.temp i)) / (at_ s.cells i).cap=(at_ s.cells i).steam/(at_ s.cells i).cap*(u-at_ x.temp i)+(at_ s.cells i).air/(at_ s.cells i).cap*(v-at_ x.temp i) by simp only [uj];grind]
end
theorem Grd.size {M:Nat}{q:Rat}(hM:0<M) (h:Grd M q) (hq:Mag q):q.den≤M∧q.num.natAbs≤9223372036854775808*M:=by
 obtain⟨z,hz⟩:=h;have e:(q.num*(M:Int):Int)=z*(q.den:Int):=by
  have h1:((q.num*(M:Int):Int):Rat)=((z*(q.den:Int):Int):Rat):=by
   rw [zy,zy,←hz,←yE];grind
  exact Rat.intCast_inj.1 h1
 have hd:q.den ∣ q.num.natAbs*M:=by
  have:=congrArg Int.natAbs e;rw [uz,uz,vr,vr]at this;exact⟨z.natAbs,by rw [this,qy]⟩
 have hd:q.den ∣ M:=Nat.Coprime.dvd_of_dvd_mul_left q.reduced.symm hd;have hle:=Nat.le_of_dvd hM hd;refine⟨hle,?_⟩;obtain⟨h1,h2⟩:=hq;rw [aNc]at h1;rw [aMu]at h2;unfold MM at h1 h2;omega
open Sy (Up Sees CallsG Seg RowC)
section
variable {α:Type}{n s i j:Nat}{P:Array Value→α→Prop}{xs a:Array Value}{ys:List Value}{f g:Nat→α}
theorem aMl {q:Nat}(hs:xs.size=n*s) (hi:i<n) (hq:q<n) (hj:j+ys.length≤s):elt (Sy.over xs (i*s+j) ys) s q=if q=i then Sy.over (elt xs s i) j ys else elt xs s q:=by
 have h1:(i+1)*s≤n*s:=ob s hi;have h2:(q+1)*s≤n*s:=ob s hq;have h3:(i+1)*s=i*s+s:=jr _ _;have h4:(q+1)*s=q*s+s:=jr _ _
 by_cases e:q=i
 ·subst e;rw [og rfl];refine rL (by rw [Sy.over_size,fN]) fun p hp=>?_;rw [fJ _ _ _ _ hp (by rw [Sy.over_size];omega),tK _ _ _ _ oq,tK _ _ _ _ (by rw [fN];exact hj),fJ _ _ _ _ hp oq]
  by_cases c:j≤p∧p<j+ys.length
  ·rw [og oq,og c]
   congr 1
   omega
  ·rw [oh oq,oh c]
 ·rw [oh e];refine rL (fN _ _ _) fun p hp=>?_;rw [fJ _ _ _ _ hp (by rw [Sy.over_size];omega),tK _ _ _ _ oq,fJ _ _ _ _ hp oq,oh];rintro⟨c,d⟩;rcases Nat.lt_or_gt_of_ne e with e|e
  ·have:=ob s e;have h5:(q.succ)*s=q*s+s:=jr _ _;omega
  ·have:=ob s e;have h5:(i.succ)*s=i*s+s:=jr _ _;omega
theorem ArrV.part (h:ArrV n s P xs f) (hi:i<n) (hj:j+ys.length≤s) (hy:∀a,a.size=s→P a (f i)→P (Sy.over a j ys) (g i)) (e:∀q,q<n→q≠i→f q=g q):ArrV n s P (Sy.over xs (Int.toNat (i:Int)*s+j) ys) g:=by
 refine⟨by rw [Sy.over_size];exact h.size,fun q hq=>?_⟩;show P (elt (Sy.over xs (i*s+j) ys) s q) (g q);rw [aMl h.size hi hq hj];split
 ·rename_i e;subst e;exact hy _ (fN _ _ _) (Arr.el h q hq)
 ·rename_i c;rw [←e q hq c];exact Arr.el h q hq
theorem aBc {p m q:List Value}(h:ys.length=m.length):Sy.over (p++(m++q)).toArray p.length ys=(p++(ys++q)).toArray:=by
 apply jl;rw [Sy.over_eq _ _ _ (by simp;omega)];simp [h]
end
section
variable {α:Type}[Inhabited α] {k:World}{A:Option Addr}{n s i:Nat}{P:Array Value→α→Prop}{xs a:Array Value}{l:List α}{v:α}
theorem aQe (h:i<l.length):at_ (l++[v]) i=at_ l i:=by
 rw [cH (by simp;omega),cH h,List.getElem_append_left h]
theorem aQd:at_ (l++[v]) l.length=v:=by
 rw [cH (by simp)];simp
theorem ArrV.snoc (h:ArrV l.length s P xs (at_ l)) (ha:a.size=s) (hp:P a v):ArrV (l.length+1) s P (xs++a.toList.toArray) (at_ (l++[v])):=
 (h.congr fun i hi=>(aQe hi).symm).push ha (by rw [aQd];exact hp)
end
theorem aEy {P:Program}{ops:Array Oper}{rest:List Oper}{o:Oper}{a:Act}{Q:Exit→Act→World→Prop}{w w':World}{v':Value}(hgd:o.guard=none) (s x:Operand) (t:TypeId)
 (ho:o.op=.call { callee:=.builtin .append,args:=#[s,x],argTypes:=#[t,t] }) (hr:(Builtin.append_ #[t,t] o.type #[a.eval s,a.eval x]).run P w=.ok v' w') (h:wpList P ops Q rest (a.put o.dst v') w'):wpList P ops Q (o :: rest) a w:=
 wpList_plain hgd fun _ hK=>by
  unfold Oper.wp execOp;simp only [ho,resolve,invoke,builtin,qp,jg,we,yx,zo,yh,hr];exact hK _ _ h
open Sy in
theorem aHh {P:Program}{k w:World}{t ty e s n c:Nat}{i:TypeInfo}{z:Value}{ad:Addr}{xs:List Value}(hw:Sees k w) (ht:P.underlying t=some (.slice e)) (hi:P.info? e=some i) (hz:i.zero=some z) (hsz:i.size=s) (hzs:z.cells.size=s) (h0:0<s)
 (hzw:∀u∈z.cells.toList,u.noWord=true) (hl:xs.length=n*s) (hrc:∀u∈xs,u.scalar=true∧u.noWord=true) (hc:∀(j:Nat) u,xs[j]?=some u→(w.alloc (.cells #[] e)).cell? (ad.add j)=some u) (hb:i.bytes≤1000) (hn:n≤1000000) :
 ∃A c' w' k',(Builtin.append_ #[t,t] ty #[.slice (some ⟨w.heap.size,0,none⟩) 0 0,.slice (some ad) n c]).run P (w.alloc (.cells #[] e))=.ok (.slice A n c') w'∧Sees k' w'∧Below k.heap.size k k'∧Below w.heap.size w w'∧Gift k.heap.size k' w' e s A n c' xs.toArray:=by
 let ρ0:Env:=⟨fun _=>none,fun _=>none,fun _=>none,fun _=>none⟩
 have hC:Core ρ0 k w k w []:=⟨hw,hw.size.symm,Below.refl _ _,Below.refl _ _,(fun b n h=>by cases h),⟨(fun r hr=>by cases hr),(fun r hr=>by cases hr)⟩⟩;obtain⟨k1,g1⟩:=hC.fresh (n0:=0) (rows0:=[]) (fun r hr=>by cases hr) (xs:=#[]) (cells:=#[]) (n:=0) (c:=0) (s:=s) (ty:=e) w.drawn h0 (by simp) (oy _) (by simp) (fun p u h=>by simp at h) (by simp) (by intro u h;simp at h) (Sy.ext_le ρ0 _ _ (fun _ _=>rfl) (fun _ _=>rfl));have hC1:Core (ρ0.ext 0 [.slice,.row] [.slice (some ⟨w.heap.size,0,none⟩) 0 0,.agg #[]]) k w k1 (w.alloc (.cells #[] e)) [⟨0,1,e,s⟩]:=⟨g1.sees,hw.size.symm,g1.kb,g1.wb,(fun b n h=>by cases h),g1.rows⟩;obtain⟨A,c',w',k',g2,g3,g4⟩:=hC1.app (P:=P) (n0:=2) (rows0:=[]) (r:=⟨0,1,e,s⟩) (by simp) (fun r hr=>by cases hr) (t:=t) (ty:=ty) ht hi hz hsz hzs hzw (A:=some ⟨w.heap.size,0,none⟩) (B:=some ad) (n:=0) (c:=0) (m:=n) (c2:=c) (xs:=#[]) (news:=xs) rfl rfl hl (fun h=>by cases h)
  (fun b hb' j u hj=>by injection hb' with hb';subst hb';exact hc j u hj) hrc (by
    refine⟨?_,oq⟩;rw [ql]
    exact qg (Nat.mul_le_mul hb hn) oz) (by intro u h;simp at h) (fun A' c'=>Sy.ext_le _ _ _ (fun i hi=>by
     show (if i<0 then none else _)=none;rw [oh oq]
     exact om (by simp;omega)) (fun i hi=>by
     show (if i<0 then none else _)=none;rw [oh oq]
     exact om (by simp;omega)))
 rw [ql]at g2 g3 g4;refine⟨A,c',w',k',g2,g4.sees,g4.kb,g4.wb,?_⟩;obtain⟨A1,n1,c1,ys,h1,h2,h3,h4,h5,h6,h7,h8⟩:=g4.rows.ok ⟨2,3,e,s⟩ (by simp);have e1:some (Value.slice A n c')=some (Value.slice A1 n1 c1):=h1;have e2:some (Value.agg (#[]++xs.toArray))=some (Value.agg ys):=h2;injection e1 with e1;injection e1 with f1 f2 f3;subst f1 f2 f3;injection e2 with e2;injection e2 with e2;subst e2;rw [ki]at h6 h8;exact⟨h6,h7,fun u hu=>hrc u (by simpa using hu),h8.imp id fun ⟨g,cs,e,q1,q2,q3,q4,q5,q6,_⟩=>⟨g,cs,e,q1,q2,q3,q4,q5,q6⟩⟩
theorem aIk:(Tryz.prog.info? 83).map (fun i=>(i.zero,i.size,i.bytes))=some (some (.agg #[.bool false,.slice none 0 0,.slice none 0 0,.bool false,.slice none 0 0,.slice none 0 0]),6,112):=by kernel_rfl
theorem sE (w:World) (A:Option Addr) (n c:Nat) (xs:List Value) (hl:xs.length=n*6) (hx:∀u∈xs,u.oneCell'=true) (hc:∀(j:Nat) u,xs[j]?=some u→∃b o,A=some ⟨b,o,none⟩∧b<w.heap.size∧w.cell? ⟨b,o+j,none⟩=some u) (hn:n≤1000000) :
 Calls Tryz.prog 58 #[.slice A n c] w fun e w'=>(∃v,e=.returned v∧rW w w' n 6 83 xs v)∧Below w.heap.size w w':=by
 have qT:∀(w:World) (a:Option Addr) (l c:Nat),(binOp .eql 77 (.slice a l c) (.slice none 0 0)).run Tryz.prog w=.ok (.bool a.isNone) w:=fun w a l c=>Lib.run_eql_slice_nil w _ _ a l c 0 0 Tryz.underlying77;obtain⟨i0,hi,hz0,hz1,hz2⟩:=info_parts aIk;cases A with
 | none=>
  obtain⟨rfl,rfl⟩:=oW hl oz hc
  go_enter Tryz.func58,Tryz.ntmps58
  go_wp2
  go_ret
  exact⟨⟨_,rfl,none,0,rfl,World.ownsRow_nil _ _ _ _⟩,Below.refl _ _⟩
 | some ad=>
  have hnews:∀j u,xs[j]?=some u→(w.alloc (.cells #[] 83)).cell? (ad.add j)=some u:=fun j u hu=>by
   obtain⟨b,o,e,hb,h⟩:=hc j u hu;injection e with e;subst e;have hadd:(⟨b,o,none⟩:Addr).add j=⟨b,o+j,none⟩:=by unfold Addr.add;split <;> simp_all
   rw [hadd];exact (((Below.refl _ w).alloc (oy _) _).cell hb).trans h
  clear hc
  go_enter Tryz.func58,Tryz.ntmps58
  go_wp2_with (at_builtin;refine wpList_append_own _ rfl (.tmp 5) (.tmp 6) 77 rfl w.heap.size 83 i0 _ 6 112 Tryz.underlying77 hi hz0 hz1 hz2 rfl oz _ 0 [] rfl (World.ownsRow_made w #[] 0 (oy _) (jt _) (by simp)) ad n c xs rfl hl hnews hx (by unfold maxLen;omega) oq (by simp) ?_;intro v' w1 hown hgrow _)
  go_wp2
  go_ret
  rw [ql,vk]at hown;exact⟨⟨_,rfl,vK hown⟩,((Below.refl _ w).alloc (oy _) _).grown hgrow (by simp) (fun k hk=>by have h2:some w.heap.size=some k:=hk;injection h2 with h2;omega)⟩
theorem aIi:(Tryz.prog.info? 79).map (fun i=>(i.zero,i.size,i.bytes))=some (some (.agg #[.slice none 0 0,.slice none 0 0,.bool false,.slice none 0 0,.slice none 0 0,.bool false,.slice none 0 0,.slice none 0 0]),8,160):=by kernel_rfl
theorem aCv {k:World}{A:Option Addr}{n c:Nat}{xs:Array Value}{R:World→Value→Prop}(hl:xs.size=n*8) (hrc:RowC xs) (hc:InAt k A xs) (hn:n≤1000000) (C:∀k' B q,Up k k'→R k' (.tuple #[.slice B n q,.agg xs])) :
 Sy.CallsR Tryz.prog 56 #[.slice A n c] k 79 8 R:=by
 intro w hw;have qT:∀(w:World) (a:Option Addr) (l c:Nat),(binOp .eql 26 (.slice a l c) (.slice none 0 0)).run Tryz.prog w=.ok (.bool a.isNone) w:=fun w a l c=>Lib.run_eql_slice_nil w _ _ a l c 0 0 Tryz.underlying26;obtain⟨i0,hi,hz0,hz1,hz2⟩:=info_parts aIi;have hc':∀(j:Nat) u,xs.toList[j]?=some u→∃b o,A=some ⟨b,o,none⟩∧b<w.heap.size∧w.cell? ⟨b,o+j,none⟩=some u:=fun j u hu=>by
  obtain⟨b,o,e1,hb,hc⟩:=hc j u (by simpa using hu);exact⟨b,o,e1,by rw [hw.size];exact hb,hw.cell hc⟩
 cases A with
 | none=>
  obtain⟨rfl,e0⟩:=oW (by rw [zq];exact hl) oz hc';have e1:xs=#[]:=by apply jl;exact e0
  subst e1
  go_enter Tryz.func56,Tryz.ntmps56
  go_wp2
  go_ret
  exact⟨none,0,0,rfl,#[],k,hw,Below.refl _ _,Below.refl _ _,⟨by simp,oy _,hrc,.inl ⟨rfl,rfl⟩⟩,C k none 0 (Up.refl k)⟩
 | some ad=>
  have hnews:∀(j:Nat) u,xs.toList[j]?=some u→(w.alloc (.cells #[] 79)).cell? (ad.add j)=some u:=fun j u hu=>by
   obtain⟨b,o,e,hb,h⟩:=hc' j u hu;injection e with e;subst e;have hadd:(⟨b,o,none⟩:Addr).add j=⟨b,o+j,none⟩:=by unfold Addr.add;split <;> simp_all
   rw [hadd];exact (((Below.refl _ w).alloc (oy _) _).cell hb).trans h
  obtain⟨A',c',w',k',g1,g2,g3,g4,g5⟩:=aHh (c:=c) (ty:=26) hw Tryz.underlying26 hi hz0 hz1 rfl oz (by simp [Value.cells,Value.noWord]) (by rw [Array.length_toList];exact hl) hrc hnews (by rw [hz2];decide) hn;rw [zv]at g5;clear hc hc'
  go_enter Tryz.func56,Tryz.ntmps56
  go_wp2_with (at_builtin;refine aEy rfl (.tmp 5) (.tmp 6) 26 rfl g1 ?_)
  go_wp2
  go_ret
  exact⟨A',n,c',xs,k',rfl,g2,g3,g4,g5,C k' A' c' (Up.of_below g3)⟩
end Go.Proofs.YtebaclefnpipfaaGreat

namespace Go.Proofs.YtebaclefnpipfaaGreat
open Go.RowKit Num
open Sy (Up Sees CallsG Seg RowC)
structure PLayer where
 m:Int
 n:Int
 cap:Rat
 v:Rat
 deriving Inhabited
def sC (l:PLayer):Prop:=l.n<1∨¬ 0<l.v
instance (l:PLayer):Decidable (sC l):=by unfold sC;exact inferInstance
def vH (l:PLayer):PCell:=⟨l.m,l.cap,0,0⟩
def cnt (ls:List PLayer):Nat:=(ls.map fun l=>l.n.toNat).sum
def mK (ls:List PLayer):List PCell:=ls.flatMap fun l=>List.replicate l.n.toNat (vH l)
def kJ (ls:List PLayer):List Rat:=ls.flatMap fun l=>List.replicate l.n.toNat l.v
def pA (ls:List PLayer):Int:=if ls.length<1∨24<ls.length then 4 else if ∃i,i<ls.length∧sC (at_ ls i) then 1 else if 24<cnt ls then 4 else 0
def eS (u:Rat) (l:List PCell):List PCell:=l.modify 0 fun c=>{ c with steam:=u }
def pI (v:Rat) (l:List PCell):List PCell:=l.modify (l.length-1) fun c=>{ c with air:=v }
def jQ (vs:List Rat):List PLink:=(List.range (vs.length-1)).map fun i:Nat=>⟨(i:Int),((i+1:Nat):Int),at_ vs i*at_ vs (i+1) / (at_ vs i+at_ vs (i+1))⟩
def uE (mats:List PMat) (ls:List PLayer) (u v:Rat):PSec:=⟨mats,pI v (eS u (mK ls)),jQ (kJ ls)⟩
def oH (mats:List PMat) (ls:List PLayer) (u v:Rat):Int:=if pA ls≠0 then pA ls else aF (uE mats ls u v)
def aSk (e:Int) (s:PSec):PSec:=if e≠0 then ⟨[],[],[]⟩ else s
theorem sP (ls:List PLayer):(mK ls).length=cnt ls:=by
 unfold mK cnt
 induction ls with
 | nil=>rfl
 | cons l ls ih=>rw [xl,qf,ih,zo,List.sum_cons,ze]
theorem sQ (ls:List PLayer):(kJ ls).length=cnt ls:=by
 unfold kJ cnt
 induction ls with
 | nil=>rfl
 | cons l ls ih=>rw [xl,qf,ih,zo,List.sum_cons,ze]
section
variable {ls:List PLayer}{j:Nat}
theorem aIc (h:j<ls.length):mK (ls.take (j+1))=mK (ls.take j)++List.replicate (at_ ls j).n.toNat (vH (at_ ls j)):=by
 unfold mK;rw [jm h,yq,cH h];simp
theorem aId (h:j<ls.length):kJ (ls.take (j+1))=kJ (ls.take j)++List.replicate (at_ ls j).n.toNat (at_ ls j).v:=by
 unfold kJ;rw [jm h,yq,cH h];simp
theorem zL (h:j<ls.length):cnt (ls.take (j+1))=cnt (ls.take j)+(at_ ls j).n.toNat:=by
 unfold cnt;rw [jm h,wu,List.sum_append,cH h];simp
theorem aLz:cnt (ls.take j)≤cnt ls:=by
 conv=>rhs;rw [←List.take_append_drop j ls]
 unfold cnt;rw [wu,List.sum_append];omega
theorem aFr (h:ls.length<1∨24<ls.length):pA ls=4:=by unfold pA;rw [og h]
theorem aFq (h1:¬ ls.length<1) (h2:¬ 24<ls.length) (hj:j<ls.length) (hb:sC (at_ ls j)):pA ls=1:=by
 unfold pA;rw [oh oq,og ⟨j,hj,hb⟩]
theorem aNa (h1:¬ ls.length<1) (h2:¬ 24<ls.length) (hb:∀i,i<ls.length→¬ sC (at_ ls i)) (h:24<cnt (ls.take j)):pA ls=4:=by
 unfold pA;rw [oh oq,oh (fun ⟨i,hi,hh⟩=>hb i hi hh),og (qk h aLz)]
theorem aNb (h1:¬ ls.length<1) (h2:¬ 24<ls.length) (hb:∀i,i<ls.length→¬ sC (at_ ls i)) (h:cnt ls≤24):pA ls=0:=by
 unfold pA;rw [oh oq,oh (fun ⟨i,hi,hh⟩=>hb i hi hh),oh oq]
theorem aQq (h1:¬ ls.length<1) (hb:∀i,i<ls.length→¬ sC (at_ ls i)):1≤cnt ls:=by
 have h:=hb 0 oq;unfold sC at h;have h2:=zL (ls:=ls) (j:=0) oq;have h3:=aLz (ls:=ls) (j:=0+1);omega
theorem lD {α:Type}[Inhabited α] {l:List α}{i q:Nat}{f:α→α}(hq:q<l.length):at_ (l.modify i f) q=if q=i then f (at_ l q) else at_ l q:=by
 rw [cH (by simpa using hq),cH hq,List.getElem_modify]
 by_cases e:i=q
 ·rw [og e,og e.symm]
 ·rw [oh e,oh (uv e)]
theorem aAq (vs:List Rat):(jQ vs).length=vs.length-1:=by simp [jQ]
theorem aSl {e:Int}{s:PSec}(h:e=0):aSk e s=s:=by unfold aSk;rw [oh (by simp [h])]
end
section
variable {N N':World→Array Value→Rat→Prop}{k k':World}{cs:Array Value}
def LayerV (N:World→Array Value→Rat→Prop) (k:World) (cs:Array Value) (x:PLayer):Prop:=∃c0 c1,cs=((Value.int .i64 x.m) :: ((Value.int .i64 x.n) :: (c0.toList++(c1.toList++([]))))).toArray∧N k c0 x.cap∧N k c1 x.v
theorem LayerV.up (hN:Num3 N) {r:PLayer}(h:LayerV N k cs r) (u:Up k k'):LayerV N k' cs r:=by
 obtain⟨c0,c1,e,h0,h1⟩:=h;exact⟨c0,c1,e,hN.up h0 u,hN.up h1 u⟩
theorem LayerV.seg (hN:Num3 N) {r:PLayer}(h:LayerV N k cs r):Seg 8 cs:=by
 obtain⟨c0,c1,rfl,h0,h1⟩:=h;have s0:=hN.seg h0;have s1:=hN.seg h1;refine⟨by simp [s0.1,s1.1],fun u hu=>?_⟩;simp only [List.append_nil,List.mem_cons,List.mem_append]at hu;rcases hu with rfl|rfl|hu|hu
 ·exact⟨rfl,rfl⟩
 ·exact⟨rfl,rfl⟩
 ·exact s0.2 u hu
 ·exact s1.2 u hu
theorem RateV.monoS {r:PRate}(hN:∀cs q,N k cs q→N' k cs q) (h:RateV N k cs r):RateV N' k cs r:=by
 obtain⟨c0,c1,e,h0,h1⟩:=h;exact⟨c0,c1,e,hN _ _ h0,hN _ _ h1⟩
theorem MatV.monoS {r:PMat}(hN:∀cs q,N k cs q→N' k cs q) (h:MatV N k cs r):MatV N' k cs r:=by
 obtain⟨A,n,c,B,n',c',c0,c1,e,l0,l1,h0,h1⟩:=h;exact⟨A,n,c,B,n',c',c0,c1,e,l0.mono fun _ _ h=>RateV.monoS hN h,l1.mono fun _ _ h=>RateV.monoS hN h,hN _ _ h0,hN _ _ h1⟩
theorem CellV.steam_ (hN:Num3 N) {r:PCell}{c:Array Value}{u:Rat}(h:CellV N k cs r) (hc:N k c u):CellV N k (Sy.over cs 4 (c.toList++([]))) { r with steam:=u }:=by
 obtain⟨c0,c1,c2,rfl,h0,h1,h2⟩:=h;have s0:=(hN.seg h0).1;have s1:=(hN.seg h1).1;have sc:=(hN.seg hc).1;have e:=aBc (p:=Value.int .i64 r.m :: c0.toList) (m:=c1.toList) (q:=c2.toList++[]) (ys:=c.toList++[]) (by simp [s1,sc]);rw [show (Value.int .i64 r.m :: c0.toList).length=4 by simp [s0]]at e;exact⟨c0,c,c2,by rw [show (Value.int .i64 r.m :: (c0.toList++(c1.toList++(c2.toList++[]))))=(Value.int .i64 r.m :: c0.toList)++(c1.toList++(c2.toList++[])) from rfl,e];simp,h0,hc,h2⟩
theorem CellV.air_ (hN:Num3 N) {r:PCell}{c:Array Value}{u:Rat}(h:CellV N k cs r) (hc:N k c u):CellV N k (Sy.over cs 7 (c.toList++([]))) { r with air:=u }:=by
 obtain⟨c0,c1,c2,rfl,h0,h1,h2⟩:=h;have s0:=(hN.seg h0).1;have s1:=(hN.seg h1).1;have s2:=(hN.seg h2).1;have sc:=(hN.seg hc).1;have e:=aBc (p:=Value.int .i64 r.m :: (c0.toList++c1.toList)) (m:=c2.toList) (q:=[]) (ys:=c.toList++[]) (by simp [s2,sc]);rw [show (Value.int .i64 r.m :: (c0.toList++c1.toList)).length=7 by simp [s0,s1]]at e;exact⟨c0,c1,c,by rw [show (Value.int .i64 r.m :: (c0.toList++(c1.toList++(c2.toList++[]))))=(Value.int .i64 r.m :: (c0.toList++c1.toList))++(c2.toList++[]) by simp,e];simp,h0,h1,hc⟩
end
theorem edges {N:World→Array Value→Rat→Prop}{k:World}(hN:Num3 N) {ls:List PLayer}{n:Nat}{xs c d:Array Value}{u v:Rat}(hn:n=cnt ls) (hp:1≤n) (h:ArrV n 10 (CellV N k) xs (at_ (mK ls))) (hc:N k c u) (hd:N k d v) :
 ArrV n 10 (CellV N k) (Sy.over (Sy.over xs (Int.toNat ((0:Nat):Int)*10+4) (c.toList++([]))) (Int.toNat ((n-1:Nat):Int)*10+7) (d.toList++([]))) (at_ (pI v (eS u (mK ls)))):=by
 have hl:=sP ls;have hsc:=(hN.seg hc).1;have hsd:=(hN.seg hd).1;have h1:ArrV n 10 (CellV N k) (Sy.over xs (Int.toNat ((0:Nat):Int)*10+4) (c.toList++([]))) (at_ (eS u (mK ls))):=by
  refine ArrV.part (i:=0) h oq (by simp [hsc]) (fun a _ ha=>?_) fun q hq hne=>?_
  ·unfold eS;rw [lD oq,og rfl];exact CellV.steam_ hN ha hc
  ·unfold eS;rw [lD oq,oh hne]
 have hl2:(eS u (mK ls)).length=cnt ls:=by unfold eS;rw [List.length_modify,hl]
 refine ArrV.part (i:=n-1) h1 oq (by simp [hsd]) (fun a _ ha=>?_) fun q hq hne=>?_
 ·unfold pI;rw [lD oq,og oq];exact CellV.air_ hN ha hd
 ·unfold pI;rw [lD oq,oh oq]
theorem aKd (mats:List PMat) (ls:List PLayer) (u v:Rat):(uE mats ls u v).cells.length=cnt ls∧(uE mats ls u v).links.length=cnt ls-1:=by
 constructor
 ·show (pI v (eS u (mK ls))).length=_;unfold pI eS;rw [List.length_modify,List.length_modify,sP]
 ·show (jQ (kJ ls)).length=_;rw [aAq,sQ]
open Go.RowKit Num W32
open Sy (Up Sees CallsG Seg dead)
section
variable {k kk k' w w' W:World}{a c:Nat}
theorem iJ (h:Sees k w) (b:Below w.heap.size w W):Up k W:=
 ⟨b.os.trans h.os,b.tape.trans h.tape,b.output.trans h.output,by rw [←h.size];exact b.size,fun g o hg hne=>stay (h.live g o hg hne) b⟩
theorem aVg (hb:Below k.heap.size k kk) (u:Up kk w') (u':Up k k') (hs:k'.heap.size=w'.heap.size) (hn:∀g,k.heap.size≤g→k'.heap[g]?=w'.heap[g]?):Up kk k':=
 ⟨u'.os.trans hb.os.symm,u'.tape.trans hb.tape.symm,u'.output.trans hb.output.symm,by rw [hs];exact u.size,fun g o hg hne=>by
   by_cases h:g<k.heap.size
   ·exact u'.live g o ((hb.block g h).symm.trans hg) hne
   ·rw [hn g oq];exact u.live g o hg hne⟩
def Dk (k:World) (a c g:Nat):Prop:=k.heap[g]?=some dead∨g=a∨g=c
theorem kI {ca cc:Array Value}{t t':TypeId}(hs:Sees k w) (hb:Below w.heap.size w W) (ha:W.heap[a]?=some (.cells ca t (0,0))) (hc:W.heap[c]?=some (.cells cc t' (0,0))) (na:∀u∈ca.toList,u.noWord=true) (nc:∀u∈cc.toList,u.noWord=true) :
 ∀g,Dk k a c g→g<W.heap.size→∃cs t fr,W.heap[g]?=some (.cells cs t fr)∧∀u∈cs.toList,u.noWord=true:=by
 rintro g (h|rfl|rfl) _
 ·obtain⟨cs,t,fr,h1,h2⟩:=hs.dark g h;exact⟨cs,t,fr,stay h1 hb,h2⟩
 ·exact⟨_,_,_,ha,na⟩
 ·exact⟨_,_,_,hc,nc⟩
theorem xD (u:Up kk W) (hb:Below k.heap.size k kk) (ha:∀o,kk.heap[a]?=some o→o=dead) (hc:∀o,kk.heap[c]?=some o→o=dead):Up kk (MK (Dk k a c) W):=
 aTk u fun g o hg hne=>by
  rintro (h|rfl|rfl)
  ·have:=(hb.block g (Sy.heap_lt h)).trans h;rw [hg]at this;exact hne (Option.some.inj this)
  ·exact hne (ha o hg)
  ·exact hne (hc o hg)
theorem mY (u:Up k W) (ha:k.heap.size≤a) (hc:k.heap.size≤c):Below k.heap.size k (MK (Dk k a c) W):=
 ⟨u.os,u.tape,u.output,by rw [mk_size];exact u.size,fun g hg=>by
   have hw:=qk hg u.size
   by_cases h:k.heap[g]?=some dead
   ·rw [lX (.inl h) hw,h]
   ·rw [gT (by rintro (h'|rfl|rfl);exact h h';omega;omega)];rw [od hg]at h ⊢
    exact u.live g _ (od hg) fun e=>h (by rw [e])⟩
theorem nA {P:Program}{f:FuncId}{args:Array Value}{D:Nat→Prop}{R:World→Value→Prop}(hD:∀g,D g→g<W.heap.size→∃cs t fr,W.heap[g]?=some (.cells cs t fr)∧∀u∈cs.toList,u.noWord=true) (u:Up kk (MK D W)) (h:∀k0,Up kk k0→CallsG P f args k0 R) :
 Calls P f args W fun e w'=>∃v k',e=.returned v∧Sees k' w'∧Below (MK D W).heap.size (MK D W) k'∧Below W.heap.size W w'∧R k' v:=h _ u W (aRr hD)
end
theorem aRs {D:Nat→Prop}{W:World}:Up (MK D W) W:=
 ⟨rfl,rfl,rfl,by rw [mk_size];exact oy _,fun g o hg hne=>by
   by_cases c:D g
   ·rw [lX c (by have:=Sy.heap_lt hg;rwa [mk_size]at this)]at hg;cases hg;exact absurd rfl hne
   ·rwa [gT c]at hg⟩
theorem aVh {kk W:World}{g:Nat}{t:TypeId}{cs:Array Value}(u:Up kk W) (h:kk.heap[g]?=some dead):Up kk (Sy.World.putBlk W g t cs):=
 ⟨u.os,u.tape,u.output,by rw [tR];exact u.size,fun p o hp hne=>by
   rw [pE fun e=>by subst e;rw [h]at hp;exact hne (Option.some.inj hp).symm];exact u.live p o hp hne⟩
theorem nQ {kk:World}{g:Nat}(h:kk.heap[g]?=some dead):∀o,kk.heap[g]?=some o→o=dead:=fun o ho=>by rw [h]at ho;exact (Option.some.inj ho).symm
def rc (c:RCell):Array Value:=#[.bool c.b,.slice c.A c.n c.c,.slice c.D c.d c.e]
theorem aVa (q:Nat→Nat→RCell) (j:Nat):aBk q j=.agg ((rc (q j 0)).toList++((rc (q j 1)).toList++((rc (q j 2)).toList++((rc (q j 3)).toList++([]))))).toArray:=rfl
theorem yL {k:World}{cs:Array Value}{x:Rat}{K:Nat}(h:RatV k cs x K):∃c,cs=rc c:=by
 obtain⟨g,A,n,c,D,d,e,e1,_⟩:=h;exact⟨⟨g,A,n,c,D,d,e⟩,e1⟩
theorem aJi {k w:World}{A9:Option Addr}{n9 K:Nat}{l:List PPhase}(hp:Lst k A9 n9 13 (PhV (NP K) k) l) (h0:∀j,j<l.length→0≤(at_ l j).steps) (hw:Sees k w) :
 ∃q:Nat→Nat→RCell,(∀j,j<n9→RangeV (NP K) k (rc (q j 0)) (rc (q j 1)) (rc (q j 2)) (rc (q j 3)) (at_ l j).r)∧PhsAt w A9 n9 (fun j=>(at_ l j).steps.toNat) q w.heap.size:=by
 obtain⟨hn,xs,hin,_,hv⟩:=hp;have hx:∀j,∃f:Nat→RCell,j<n9→RangeV (NP K) k (rc (f 0)) (rc (f 1)) (rc (f 2)) (rc (f 3)) (at_ l j).r∧xs[j*13]?=some (.int .i64 (at_ l j).steps)∧∀i v,((rc (f 0)).toList++((rc (f 1)).toList++((rc (f 2)).toList++((rc (f 3)).toList++([]))))).toArray[i]?=some v→xs[j*13+(i+1)]?=some v:=fun j=>by
  by_cases hj:j<n9
  ·obtain⟨a,_,⟨c0,c1,c2,c3,rfl,hr⟩,hq⟩:=hv.el hj;obtain⟨r0,rfl⟩:=yL hr.s0;obtain⟨r1,rfl⟩:=yL hr.s1;obtain⟨r2,rfl⟩:=yL hr.a0;obtain⟨r3,rfl⟩:=yL hr.a1;refine⟨fun i=>match i with|0=>r0|1=>r1|2=>r2|_=>r3,fun _=>⟨hr,by have:=hq 0 _ rfl;rwa [jy]at this,fun i v hi=>hq (i+1) v ?_⟩⟩
   rw [xz]at hi ⊢;rw [vf];exact hi
  ·exact⟨fun _=>⟨false,none,0,0,none,0,0⟩,fun h=>absurd h hj⟩
 obtain⟨q,hq⟩:=Classical.skolem.1 hx;refine⟨q,fun j hj=>(hq j hj).1,fun hpos=>?_⟩;obtain⟨b,o,e,hb,_⟩:=hin _ _ (hq 0 hpos).2.1;have cell:∀p v,xs[p]?=some v→w.cell? ⟨b,o+p,none⟩=some v:=fun p v h=>by
  obtain⟨b',o',e',_,hc⟩:=hin p v h;rw [e]at e';injection e' with e';injection e' with e1 e2;subst e1 e2;exact hw.cell hc
 refine⟨b,o,e,by rw [hw.size];exact hb,fun j hj=>?_,fun j i v hj hi=>?_⟩
 ·have:=cell _ _ (hq j hj).2.1
  rwa [show (at_ l j).steps=(((at_ l j).steps.toNat:Nat):Int) from (Int.toNat_of_nonneg (h0 j oq)).symm]at this
 ·have:=cell _ _ ((hq j hj).2.2 i v hi)
  rwa [←kw]at this
theorem jN {l:List PPhase}:∀ {k:Nat}(hk:k≤l.length),(fO (len:=l.length) (fun j=>(at_ l j).steps.toNat) k hk).map (fun x=>(at_ l x.1).r)=iW (l.take k)
 | 0,_=>rfl
 | k+1,hk=>by
  rw [aGf hk,aIe];show ((fO _ k _++List.replicate _ _).map _)=_;rw [wu,jN oq,List.map_replicate];simp [iW]
def aTb (N N':World→Array Value→Rat→Prop) (x y:PState) (k:World) (v:Value):Prop:=∃c:BCell,v=.agg #[sl c.a0,sl c.a1,sl c.a2,sl c.a3,sl c.a4,sl c.a5]∧StateW N N' k c.a0.A c.a0.n c.a1.A c.a1.n c.a2.A c.a2.n x∧StateW N N' k c.a3.A c.a3.n c.a4.A c.a4.n c.a5.A c.a5.n y
theorem aWa {N N':World→Array Value→Rat→Prop}{x y:PState}{k:World}{B0 B1 B2 B3 B4 B5:Option Addr}{m0 e0 m1 e1 m2 e2 m3 e3 m4 e4 m5 e5:Nat}(h:StateW N N' k B0 m0 B1 m1 B2 m2 x) (h':StateW N N' k B3 m3 B4 m4 B5 m5 y):aTb N N' x y k (S6 B0 m0 e0 B1 m1 e1 B2 m2 e2 B3 m3 e3 B4 m4 e4 B5 m5 e5):=⟨⟨⟨B0,m0,e0⟩,⟨B1,m1,e1⟩,⟨B2,m2,e2⟩,⟨B3,m3,e3⟩,⟨B4,m4,e4⟩,⟨B5,m5,e5⟩⟩,rfl,h,h'⟩
theorem nw6 {A0 A1 A2 A3 A4 A5:Option Addr}{n0 d0 n1 d1 n2 d2 n3 d3 n4 d4 n5 d5:Nat}:∀u∈(#[Value.slice A0 n0 d0,.slice A1 n1 d1,.slice A2 n2 d2,.slice A3 n3 d3,.slice A4 n4 d4,.slice A5 n5 d5]:Array Value).toList,u.noWord=true:=by simp [Value.noWord]
section
variable {k k':World}{R:World→Value→Prop}{l:List PPhase}{s:PSec}{b:PBand}{K T W d n0 n1 n2 n3 n4 n5 n6 n7 n8 n9 d0 d1 d2 d3 d4 d5 d6 d7 d8 d9:Nat}{A0 A1 A2 A3 A4 A5 A6 A7 A8 A9:Option Addr}
theorem aHe (hs:SecV (NP K) k A0 n0 A1 n1 A2 n2 s) (hl:StateV (NP T) k A3 n3 A4 n4 A5 n5 b.lo) (hh:StateV (NP T) k A6 n6 A7 n7 A8 n8 b.hi) (hp:Lst k A9 n9 13 (PhV (NP K) k) l)
 (hd:aF s=0→∀i,i<s.cells.length→(nbm s.links (i:Nat)).length≤d) (hml:rY b.lo) (hmh:rY b.hi) (hmr:∀j,j<l.length→MagR (at_ l j).r) (hK1:1≤K) (hT1:1≤T) (hK:K≤1000000) (hd2:d≤128) (hTT:T≤100000000)
 (hm:mM s b l=0→aU K d (T+(dM l).toNat*(K+1))≤90000) (hfin:mM s b l=0→T+(dM l).toNat*(K+1)≤W)
 (C:∀k' B0 m0 e0 B1 m1 e1 B2 m2 e2 B3 m3 e3 B4 m4 e4 B5 m5 e5,Up k k'→StateV (NP W) k' B0 m0 B1 m1 B2 m2 (aIg s b l).lo→StateV (NP W) k' B3 m3 B4 m4 B5 m5 (aIg s b l).hi→
   R k' (.tuple #[S6 B0 m0 e0 B1 m1 e1 B2 m2 e2 B3 m3 e3 B4 m4 e4 B5 m5 e5,.int .i64 (mM s b l)])) :
 Cl k 13 #[S3 A0 n0 d0 A1 n1 d1 A2 n2 d2,S6 A3 n3 d3 A4 n4 d4 A5 n5 d5 A6 n6 d6 A7 n7 d7 A8 n8 d8,.slice A9 n9 d9] R:=by
 intro k0 u0;have hN:=aD K;have hNT:=aD T;replace hs:=SecV.up hN hs u0;replace hl:=StateV.up hNT hl u0;replace hh:=StateV.up hNT hh u0;replace hp:=tP hN hp u0;replace C:=fun k' B0 m0 e0 B1 m1 e1 B2 m2 e2 B3 m3 e3 B4 m4 e4 B5 m5 e5 u=>C k' B0 m0 e0 B1 m1 e1 B2 m2 e2 B3 m3 e3 B4 m4 e4 B5 m5 e5 (u0.trans u);have out:∀ {w:World},Sees k0 w→∀o,k0.heap[w.heap.size+1+1]?=some o→o=dead:=fun hw o ho=>by
  have:=Sy.heap_lt ho;have:=hw.size;omega
 by_cases f:mM s b l=0
 rotate_left
 ·refine aAx (F:=fun _ _ v=>v=.tuple #[S6 none 0 0 none 0 0 none 0 0 none 0 0 none 0 0 none 0 0,.int .i64 (mM s b l)]) ?_ ?_
  ·rintro w w' k' v _ rfl u _ _;refine C k' _ _ _ _ _ _ _ _ _ _ _ _ _ _ _ _ _ _ u ?_ ?_
   all_goals unfold aIg uV;rw [og f];exact⟨.nil,.nil,.nil⟩
  ·intro w hw;refine (aDi (a0:=⟨A0,n0,d0⟩) (a1:=⟨A1,n1,d1⟩) (a2:=⟨A2,n2,d2⟩) (a3:=⟨A3,n3,d3⟩) (a4:=⟨A4,n4,d4⟩) (a5:=⟨A5,n5,d5⟩) (a6:=⟨A6,n6,d6⟩) (a7:=⟨A7,n7,d7⟩) (a8:=⟨A8,n8,d8⟩) (E:=mM s b l) (fun W hb h6=>?_) f).mono ?_
   ·have uW:=iJ hw hb;refine (nA (kI hw hb h6 h6 nw6 nw6) (xD uW (Below.refl _ k0) (out hw) (out hw)) (aFh hs hl hh hp hK1 hK hT1 oq (R:=fun _ v=>v=.int .i64 (mM s b l)) fun k' u=>rfl)).mono ?_;rintro e w' ⟨v,k',rfl,_,_,hb',rfl⟩;exact⟨rfl,hb'⟩
   ·rintro e w' ⟨rfl,hb⟩;exact⟨⟨_,rfl,rfl⟩,hb⟩
 obtain⟨hB,hPh⟩:=aUi f;obtain⟨hE,hz,hz',_⟩:=aFd hB;obtain⟨h16,hph,h2000⟩:=aUx hPh;have hOK:OkB s b:=⟨hz,hz',hml,hmh⟩;have hc24:s.cells.length≤24:=by have:=bF hE;unfold bW at this;omega
 have hd:=hd hE;have hst:∀j,j<l.length→0≤(at_ l j).steps:=fun j hj=>(aTm (hph j hj)).1;have hm:=hm f;have hfin:=hfin f;obtain rfl:n9=l.length:=hp.1;have hL:(iW l).length=(dM l).toNat:=by have:=aIf hst;omega
 have hLF:(fO (len:=l.length) (fun j=>(at_ l j).steps.toNat) l.length (oy _)).length=(dM l).toNat:=by
  have:=congrArg List.length (jN (l:=l) (oy _));rw [List.length_map,List.take_length,hL]at this;exact this
 have hW:∀j,j≤(dM l).toNat→aU K d (T+j*(K+1))≤90000∧T+j*(K+1)≤90000:=fun j hj=>by
  have h1:T+j*(K+1)≤T+(dM l).toNat*(K+1):=Nat.add_le_add_left (ob _ hj) _;have h2:=qg (uJ h1) hm;exact⟨h2,qg aBv h2⟩
 have hsucc:∀j:Nat,T+(j+1)*(K+1)=T+j*(K+1)+K+1:=fun j=>by rw [jr];omega
 refine aAx (F:=fun w w' v=>∃kk,∃c:BCell,Up kk w'∧Below k0.heap.size k0 kk∧v=.tuple #[.agg #[sl c.a0,sl c.a1,sl c.a2,sl c.a3,sl c.a4,sl c.a5],.int .i64 0]∧StateV (NP W) kk c.a0.A c.a0.n c.a1.A c.a1.n c.a2.A c.a2.n (advL s (iW l) b).lo∧StateV (NP W) kk c.a3.A c.a3.n c.a4.A c.a4.n c.a5.A c.a5.n (advL s (iW l) b).hi) ?_ ?_
 ·rintro w w' k' v _ ⟨kk,c,uk,bk,rfl,g1,g2⟩ u hsz hnw;have uu:=aVg bk uk u hsz hnw;unfold aIg uV at C;rw [f,oh (by simp)]at C;exact C k' _ _ _ _ _ _ _ _ _ _ _ _ _ _ _ _ _ _ u (StateV.up (aD _) g1 uu) (StateV.up (aD _) g2 uu)
 intro w hw;have hsz:=hw.size;obtain⟨q,hq,hpa⟩:=aJi hp hst hw
 refine (aAk (a0:=⟨A0,n0,d0⟩) (a1:=⟨A1,n1,d1⟩) (a2:=⟨A2,n2,d2⟩) (a3:=⟨A3,n3,d3⟩) (a4:=⟨A4,n4,d4⟩) (a5:=⟨A5,n5,d5⟩) (a6:=⟨A6,n6,d6⟩) (a7:=⟨A7,n7,d7⟩) (a8:=⟨A8,n8,d8⟩) (q:=q) (ps:=fun j=>(at_ l j).steps.toNat)
  (M:=fun m W=>∃kk,Up kk W∧Below k0.heap.size k0 kk∧kk.heap[w.heap.size+1+1]?=some dead∧NbV (NP K) kk m s.links)
  (X:=fun m W n c=>∃kk,Up kk W∧Below k0.heap.size k0 kk∧kk.heap[w.heap.size+1+1]?=some dead∧NbV (NP K) kk m s.links∧StateV (NP T) kk c.a0.A c.a0.n c.a1.A c.a1.n c.a2.A c.a2.n b.lo∧StateV (NP T) kk c.a3.A c.a3.n c.a4.A c.a4.n c.a5.A c.a5.n b.hi)
  (Inv:=fun m g10 base pre W c=>k0.heap.size≤base∧k0.heap.size≤g10∧∃kk,Up kk W∧KK k0 base (w.heap.size+1+1) g10 kk∧NbV (NP K) kk m s.links∧
    StateV (NP (T+pre.length*(K+1))) kk c.a0.A c.a0.n c.a1.A c.a1.n c.a2.A c.a2.n (advL s (pre.map fun x=>(at_ l x.1).r) b).lo∧StateV (NP (T+pre.length*(K+1))) kk c.a3.A c.a3.n c.a4.A c.a4.n c.a5.A c.a5.n (advL s (pre.map fun x=>(at_ l x.1).r) b).hi)
  ?h1 ?h2 ?h3 ?h4 ?hO ?hS ?hA ?hlen ?hsteps hpa).mono ?fin
 case h1=>
  intro W hb h6;refine (nA (kI hw hb h6 h6 nw6 nw6) (xD (iJ hw hb) (Below.refl _ k0) (out hw) (out hw)) (aFh hs hl hh hp hK1 hK hT1 oq (R:=fun _ v=>v=.int .i64 (mM s b l)) fun k' u=>rfl)).mono ?_;rintro e w' ⟨v,k',rfl,_,_,hb',rfl⟩;exact⟨by rw [f],hb'⟩
 case h2=>
  intro W hb h6;have bd:=mY (a:=w.heap.size+1+1) (c:=w.heap.size+1+1) (iJ hw hb) oq oq
  refine (nA (kI hw hb h6 h6 nw6 nw6) (xD (iJ hw hb) (Below.refl _ k0) (out hw) (out hw)) (xO hs.links (by have:=bF hE;unfold bW at this;have:=hs.links.1;omega) (fun z hz=>by
   obtain⟨h1,h2⟩:=eK (dP hE) z hz
   omega) (R:=fun k' v=>∃m,v=.agg #[.slice A0 n0 d0,.slice A1 n1 d1,.slice A2 n2 d2,.map (some m)]∧NbV (NP K) k' m s.links) fun k' M u h=>⟨M,rfl,h⟩)).mono ?_
  rintro e w' ⟨v,k',rfl,hk,hbk,hb',m,rfl,hM⟩;refine⟨m,rfl,hb',k',iJ hk (Below.refl _ _),bd.trans (hbk.mono bd.size),?_,hM⟩;have hlt:=Sy.heap_lt h6;exact (hbk.block _ (by rw [mk_size];exact hlt)).trans (lX (.inr (.inl rfl)) hlt)
 case h3=>
  rintro m W0 W ⟨kk,uk,bk,d6,hM⟩ hb0 hb h6;have bd:=mY (a:=w.heap.size+1+1) (c:=w.heap.size+1+1) (iJ hw hb) oq oq;have ud:=xD (uk.trans (Up.of_below hb0)) bk (nQ d6) (nQ d6);have ukk:=Up.of_below bk;refine (nA (kI hw hb h6 h6 nw6 nw6) ud (zH (StateV.up hNT hl ukk) (StateV.up hNT hh ukk) (eT hz hc24) (eT hz' hc24) (R:=fun k' v=>∃c:BCell,v=.agg #[sl c.a0,sl c.a1,sl c.a2,sl c.a3,sl c.a4,sl c.a5]∧StateV (NP T) k' c.a0.A c.a0.n c.a1.A c.a1.n c.a2.A c.a2.n b.lo∧StateV (NP T) k' c.a3.A c.a3.n c.a4.A c.a4.n c.a5.A c.a5.n b.hi) fun k' B0 m0 e0 B1 m1 e1 B2 m2 e2 B3 m3 e3 B4 m4 e4 B5 m5 e5 u g1 g2=>⟨⟨⟨B0,m0,e0⟩,⟨B1,m1,e1⟩,⟨B2,m2,e2⟩,⟨B3,m3,e3⟩,⟨B4,m4,e4⟩,⟨B5,m5,e5⟩⟩,rfl,g1,g2⟩)).mono ?_;rintro e w' ⟨v,k',rfl,hk,hbk,hb',c,rfl,g1,g2⟩;refine⟨c,rfl,hb',k',iJ hk (Below.refl _ _),bd.trans (hbk.mono bd.size),?_,NbV.up hN hM (ud.trans (Up.of_below hbk)),g1,g2⟩;have hlt:=Sy.heap_lt h6;exact (hbk.block _ (by rw [mk_size];exact hlt)).trans (lX (.inr (.inl rfl)) hlt)
 case h4=>
  rintro m w3 n c W ⟨kk,uk,bk,d6,hM,g1,g2⟩ hb hlt;have uW:=uk.trans (Up.of_below hb);have h3:=qg bk.size uk.size;have h6:=qk (Sy.heap_lt d6) uW.size;have ud:=xD (c:=w3.heap.size) uW bk (nQ d6) (fun o ho=>by have:=Sy.heap_lt ho;have:=uk.size;omega);have g1:=StateV.up hNT g1 ud;have g2:=StateV.up hNT g2 ud;refine⟨qg h3 hb.size,h3,_,aRs,⟨mY ((Up.of_below bk).trans uW) oq h3,lX (.inr (.inl rfl)) h6,lX (.inr (.inr rfl)) hlt,fun g o hg ho=>?_⟩,NbV.up hN hM ud,g1.mono fun _ _ h=>h.mono (by simp),g2.mono fun _ _ h=>h.mono (by simp)⟩;have:=Sy.heap_lt ho;rw [mk_size]at this;omega
 case hO=>
  rintro m g10 base c pre W W' row ⟨i1,i2,kk,uk,hk,r⟩ hg hr;exact⟨i1,i2,kk,aUm hk uk hg hr,hk,r⟩
 case hS=>
  rintro m g10 base pre W c g cs ⟨i1,i2,kk,uk,hk,r⟩ hg e;exact⟨i1,i2,kk,aVh uk (by rcases e with rfl|rfl;exact hk.d10;exact hk.d6),hk,r⟩
 case hA=>
  rintro m g10 base pre x W c hlt ⟨i1,i2,kk,uk,hk,hM,g1,g2⟩ hb h6 h10;rw [hLF]at hlt;have bd:=mY (a:=w.heap.size+1+1) (c:=g10) (iJ hw hb) oq i2;have ud:=xD uk hk.bel (nQ hk.d6) (nQ hk.d10);have ukk:=Up.of_below hk.bel;have hj:=OkB.advL hE (rs:=pre.map fun x=>(at_ l x.1).r) (fun r hr=>by obtain⟨y,_,rfl⟩:=xm.1 hr;exact hmr y.1 y.2) hOK;have hWj:=hW _ (Nat.le_of_lt hlt);rw [aVa];refine (nA (kI hw hb h6 h10 nw6 nw6) ud (aLf (b:=advL s (pre.map fun x=>(at_ l x.1).r) b) (r:=(at_ l x.1).r) (SecV.up hN hs ukk) g1 g2 hM (RangeV.up hN (hq x.1 x.2) ukk) hE hj.lo hj.hi hd hK1 oq hWj.1 hd2 (R:=aTb (NP (aU K d (T+pre.length*(K+1))+1001)) (NP (T+pre.length*(K+1)+K+1)) (jJ s (advL s (pre.map fun x=>(at_ l x.1).r) b) (at_ l x.1).r).lo (jJ s (advL s (pre.map fun x=>(at_ l x.1).r) b) (at_ l x.1).r).hi) fun k' B0 m0 e0 B1 m1 e1 B2 m2 e2 B3 m3 e3 B4 m4 e4 B5 m5 e5 u t1 t2=>(by exact aWa t1 t2))).mono ?_;rintro e w' ⟨v,k',rfl,hsk,hbk,hb',c',rfl,t1,t2⟩;have k6:k'.heap[w.heap.size+1+1]?=some dead:=(hbk.block _ (by rw [mk_size];exact Sy.heap_lt h6)).trans (lX (.inr (.inl rfl)) (Sy.heap_lt h6));have k10:k'.heap[g10]?=some dead:=(hbk.block _ (by rw [mk_size];exact Sy.heap_lt h10)).trans (lX (.inr (.inr rfl)) (Sy.heap_lt h10));have hKK:=aMy (bd.trans (hbk.mono bd.size)) i1 k6 k10;have uS:=aPt hk (ud.trans (Up.of_below hbk));obtain⟨q1,q2⟩:=aCg hE hj.lo hj.hi hj.magl hj.magh (hmr x.1 x.2);refine⟨c',rfl,hb',i1,i2,_,aPg hsk,hKK,NbV.up hN hM uS,?_,?_⟩
  all_goals rw [qf,wu,show [x].length=1 from rfl,hsucc,List.map_singleton,vB]
  ·exact uH (t1.tightP q1 oq) mk_size fun a v h=>uK h
  ·exact uH (t2.tightP q2 oq) mk_size fun a v h=>uK h
 case hlen=>omega
 case hsteps=>
  intro j hj;have h1:=xA hj;have h2:=rU hst (j+1);have h3:=rU hst j;show (at_ l j).steps.toNat≤1000000;omega
 case fin=>
  rintro e w' ⟨m,g10,base,c,rfl,hb,_,_,kk,uk,hk,_,g1,g2⟩;rw [jN,List.take_length,hLF]at g1 g2;exact⟨⟨_,rfl,kk,c,uk,hk.bel,rfl,g1.mono fun _ _ h=>h.mono hfin,g2.mono fun _ _ h=>h.mono hfin⟩,hb⟩
end
open Sy (Up Sees CallsG Seg ReadAt)
theorem aCi {l:List Rat}{v:Rat}{i:Nat}(h:i<l.length):at_ (l++[v]) i=at_ l i:=by
 unfold at_;rw [jw,jw,ja h]
theorem aCh {l:List Rat}{v:Rat}:at_ (l++[v]) l.length=v:=by
 unfold at_;rw [jw,vm (oy _),kz];rfl
theorem yZ {P:Array Value→Rat→Prop}{l:List Rat}{xs a:Array Value}{v:Rat}(h:ArrV l.length 3 P xs (at_ l)) (ha:a.size=3) (hv:P a v):ArrV (l++[v]).length 3 P (xs++a.toList.toArray) (at_ (l++[v])):=by
 rw [qf];exact ArrV.push (h.congr fun i hi=>(aCi hi).symm) ha (by rw [aCh];exact hv)
def Btl (a l b:List Rat):Prop:=∀i,i<l.length→at_ a i≤at_ l i∧at_ l i≤at_ b i
theorem aGo {s:PSec}{b:PBand}(hE:aF s=0) (zl:sized s b.lo) (zh:sized s b.hi) (hu:iQ b.lo b.hi):fY s b=0:=by
 have h:fZ s b.lo=0:=by unfold fZ;rw [oh (by simp [hE]),if_neg (fun h=>h zl)]
 unfold fY;rw [oh (by simp [h]),if_neg (fun h=>h zh),if_neg (fun h=>h hu)]
theorem aGp {s:PSec}{u v:Rat}(h:¬ v<u):Und s.cells.length (dJ s u v).lo (dJ s u v).hi:=by
 refine⟨fun i hi=>?_,fun i hi=>?_,fun i hi=>?_⟩
 ·show at_ (List.replicate _ u) i≤at_ (List.replicate _ v) i;rw [bQ hi,bQ hi];exact zu.1 h
 ·exact wg
 ·exact wg
theorem oO {s:PSec}{u:Rat}(h:Mag u):rY (aQ s u):=fun i hi=>by
 have hi:i<s.cells.length:=by simpa [aQ] using hi
 show Mag (at_ (List.replicate _ u) i);rw [bQ hi];exact h
section
variable {k:World}{R:World→Value→Prop}{s:PSec}{la lb:List Int}{n0 n1 n2 d0 d1 d2 n9 d9 n10 d10:Nat}{A0 A1 A2 A9 A10:Option Addr}{gg0 gg1 gg2 gg3 rr0 rr1 rr2 rr3 rr4 rr5 rr6 rr7 ll0 ll1 ll2 ll3 ll4 ll5 ll6 ll7 w0 w1:Int}
end
section
variable {s:PSec}{x:PState}{b b' c t:PBand}{r:PRange}{us vs:List Rat}{u v:Rat}
theorem sA:∀ {n:Nat}{b:PBand},advL s (List.replicate n r) b=advN s r n b
 | 0,_=>rfl
 | n+1,b=>by
  rw [List.replicate_succ',vB,sA];rfl
theorem aOn (hr:cZ r=0):r.s0≤r.s1∧r.a0≤r.a1:=by
 unfold cZ at hr;split at hr
 ·cases hr
 ·rename_i hn;exact⟨zu.1 fun c=>hn (.inl c),zu.1 fun c=>hn (.inr c)⟩
theorem aEa {p q p' q':Rat}(h:p≤q) (h':p'≤q'):cZ ⟨p,q,p',q'⟩=0:=by
 unfold cZ;rw [oh];rintro (h1|h1)
 ·exact zu.2 h h1
 ·exact zu.2 h' h1
structure Held (s:PSec) (x:PState) (c t:PBand):Prop where
 enc:Enc s c x
 ord:Und s.cells.length t.lo t.hi
 wit:Wit s t c
theorem aFm {n:Nat}(hA:jZ s b r=0) (hn:n≤2000):mM s b [⟨(n:Int),r⟩]=0:=by
 have hB:=aKz hA;have hR:cZ r=0:=by unfold jZ at hA;rwa [oh (by rw [hB];simp)]at hA
 have p0:phE (at_ [(⟨(n:Int),r⟩:PPhase)] 0)=0:=by
  show phE ⟨(n:Int),r⟩=0;unfold phE;rw [oh (show ¬ (n:Int)<0 by omega)];exact hR
 have hf:gC (fun i=>phE (at_ [(⟨(n:Int),r⟩:PPhase)] i)) [(⟨(n:Int),r⟩:PPhase)].length=0:=by
  show gC _ 1=_;unfold gC;unfold gC;rw [p0];simp
 unfold mM yF;rw [oh (by rw [hB];simp),oh (by simp),hf];have hs:¬ 2000<dM [(⟨(n:Int),r⟩:PPhase)]:=by simp only [dM];omega
 rw [oh hs];rfl
theorem aMn {n:Nat}(hA:jZ s b r=0) (hn:n≤2000):aIg s b [⟨(n:Int),r⟩]=advN s r n b:=by
 unfold aIg uV;rw [aFm hA hn,oh (by simp)];show advL s (List.replicate (n:Int).toNat r++[]) b=_;rw [oa,xq,sA]
theorem aJd {k:World}{p:Nat}{ty:TypeId}{t0:Int}{c0 c1 c2 c3:Array Value}{K:Nat}(hb:Sy.Blk k p ty ((Value.int .i64 t0) :: (c0.toList++(c1.toList++(c2.toList++(c3.toList++([])))))).toArray) (h:RangeV (NP K) k c0 c1 c2 c3 r) :
 Lst k (some ⟨p,0,none⟩) 1 13 (PhV (NP K) k) [⟨t0,r⟩]:=by
 have hN:=aD K;have hseg:∀a (v:PPhase),PhV (NP K) k a v→Sy.Seg 13 a:=fun _ _ h=>PhV.seg hN h;have a0:PhV (NP K) k ((Value.int .i64 t0) :: (c0.toList++(c1.toList++(c2.toList++(c3.toList++([])))))).toArray (at_ [(⟨t0,r⟩:PPhase)] 0):=⟨c0,c1,c2,c3,rfl,h⟩;have hA:=ArrV.push (ArrV.empty (s:=13) (P:=PhV (NP K) k) (f:=at_ [(⟨t0,r⟩:PPhase)])) (hseg _ _ a0).1 a0;refine⟨rfl,((Value.int .i64 t0) :: (c0.toList++(c1.toList++(c2.toList++(c3.toList++([])))))).toArray,fun q u hq=>⟨p,0,rfl,Sy.heap_lt hb,by rw [ql];exact cel hb hq⟩,?_,?_⟩
 ·have:=hA.rowC hseg;simpa using this
 ·simpa using hA
end
section
variable {N N':World→Array Value→Rat→Prop}{k:World}{A B C:Option Addr}{n n' n'':Nat}{s:PSec}
end
def U8P (a:Array Value) (v:Int×Int):Prop:=(0≤v.1∧v.1≤255)∧(0≤v.2∧v.2≤255)∧a=#[.int .u8 v.1,.int .u8 v.2]
theorem lN {e:Int}{x:PState}(h:e=0):aEe e x=x:=oh (by simp [h])
theorem aJt {e:Int}{x:PBand}(h:e=0):uV e x=x:=oh (by simp [h])
theorem mE {s:PSec}{x:PState}(hE:aF s=0) (hz:sized s x):fZ s x=0:=by unfold fZ;rw [oh (by simp [hE]),if_neg (by simpa using hz)]
theorem aLa {s:PSec}{b:PBand}{r:PRange}(hE:aF s=0) (zl:sized s b.lo) (zh:sized s b.hi) (hu:Und s.cells.length b.lo b.hi) (hr:cZ r=0):jZ s b r=0:=by
 have:=aGo hE zl zh ((pP zl zh).2 hu);unfold jZ;rw [oh (by simp [this])];exact hr
theorem aDk {s:PSec}{b:PBand}{x:PState}(zl:sized s b.lo) (zh:sized s b.hi) (zx:sized s x) (h:Enc s b x):iE b x:=sY.2 ⟨(pP zl zx).2 h.1,(pP zx zh).2 h.2⟩
theorem aNj {p q r:Rat}(h:Mag p) (h':Mag r) (hb:p≤q∧q≤r):Mag q:=⟨wn h.1 hb.1,wn hb.2 h'.2⟩
theorem rA {s:PSec}{x:PState}(hc:s.cells.length≤24) (h:sized s x):uG x:=by
 obtain⟨a1,a2,a3⟩:=h;exact⟨oq,oq,oq⟩
theorem nO {p:Nat→Bool}:∀n:Nat,(dS p n=n∧∀i,i<n→p i=false)∨(dS p n<n∧p (dS p n)=true∧∀i,i<dS p n→p i=false)
 | 0=>.inl ⟨rfl,fun _ hi=>absurd hi (Nat.not_lt_zero _)⟩
 | n+1=>by
  rcases nO (p:=p) n with ⟨h1,h2⟩|⟨h1,h2,h3⟩
  ·cases hp:p n with
   | true=>
    have e:dS p (n+1)=n:=iC h2 hp (yj _);rw [e];exact .inr ⟨yj _,hp,h2⟩
   | false=>
    have h:∀i,i<n+1→p i=false:=fun i hi=>by
     by_cases e:i=n
     ·rw [e];exact hp
     ·exact h2 i oq
    exact .inl ⟨iB h,h⟩
  ·have e:dS p (n+1)=dS p n:=iC h3 h2 oq;rw [e];exact .inr ⟨oq,h2,h3⟩
section
variable {s:PSec}{x:PState}{b:PBand}{r:PRange}{u v:Rat}{f:Rat→Rat}
theorem aKe (hE:aF s=0) (h:¬ iU s x):fA s x<s.cells.length∧at_ x.cure (fA s x)<sN s (fA s x):=by
 have hn:0<s.cells.length:=by have:=bF hE;unfold bW at this;omega
 have hl:fA s x<s.cells.length:=oZ hn;have h1:at_ (bN s x) (fA s x)<1:=zt.1 fun g=>h ((aAb hE hn).1 g);refine⟨hl,?_⟩;unfold bN at h1;rw [aM hl]at h1;exact (wU (lJ hE hl).1).1 h1
end
def dU (a b:Int):List PRate:=[⟨((100:Int):Rat),(a:Rat)⟩,⟨((150:Int):Rat),((a+b:Int):Rat)⟩]
def yA (a b c d e f:Int):PMat:=⟨dU a b,dU c d,(e:Rat),(f:Rat)⟩
def aDm (n m:Int):List PLayer:=[⟨0,n,((8:Int):Rat),((4:Int):Rat)⟩,⟨1,m,((6:Int):Rat),((3:Int):Rat)⟩]
def gZ (p q:PMat) (n m:Int):PSec:=uE [p,q] (aDm n m) ((4:Int):Rat) ((1:Int):Rat)
theorem wR {a b:Int}(ha:0≤a) (hb:0≤b):bL (dU a b)=0:=by
 have h0:¬ ((a:Int):Rat)<0:=by rw [zu];exact_mod_cast ha
 have h1:¬ ((a+b:Int):Rat)<0:=by rw [zu];exact_mod_cast (by omega:0≤a+b)
 have h2:¬ ((a+b:Int):Rat)<(a:Rat):=by rw [zu];exact_mod_cast (by omega:a≤a+b)
 have h3:((100:Int):Rat)<((150:Int):Rat):=by decide +kernel
 have e0:at_ (dU a b) 0=⟨((100:Int):Rat),(a:Rat)⟩:=rfl;have e1:at_ (dU a b) 1=⟨((150:Int):Rat),((a+b:Int):Rat)⟩:=rfl;have r0:gA (dU a b) 0=0:=by
  unfold gA;rw [oh (by simp),e0,oh h0,oh (by simp)]
 have r1:gA (dU a b) 1=0:=by
  unfold gA;rw [show 1-1=0 from rfl,e0,e1,oh (fun h=>h.2 h3),oh h1,oh (fun h=>h2 h.2)]
 unfold bL;rw [oh (by simp [dU])];exact dN fun i hi=>by
  have hi:i<2:=hi
  match i,hi with
  | 0,_=>exact r0
  | 1,_=>exact r1
theorem aFt {a b c d e f:Int}(ha:0≤a) (hb:0≤b) (hc:0≤c) (hd:0≤d) (he:0<e) (hf:0<f):nU (yA a b c d e f)=0:=by
 have h1:(0:Rat)<(e:Rat):=by exact_mod_cast he
 have h2:(0:Rat)<(f:Rat):=by exact_mod_cast hf
 unfold nU;have e1:(yA a b c d e f).cure=dU a b:=rfl;have e2:(yA a b c d e f).spoil=dU c d:=rfl;rw [e1,e2,wR ha hb,wR hc hd,oh (by simp),oh (by simp),oh];rintro (h|h)
 ·exact h h1
 ·exact h h2
def zM:PMat:=⟨[],[],0,0⟩
def Shape (s:PSec):Prop:=¬ bW s∧mI s=0∧fT s.cells.length s.links=0∧gC (qG s) s.cells.length=0∧
 (∀i,i<s.cells.length→((at_ s.cells i).steam/(at_ s.cells i).cap*((84:Nat):Rat)).den=1∧((at_ s.cells i).air/(at_ s.cells i).cap*((84:Nat):Rat)).den=1∧
   (∀z∈nbm s.links (i:Nat),(z.v/(at_ s.cells i).cap*((84:Nat):Rat)).den=1)∧(nbm s.links (i:Nat)).length≤2∧((at_ s.cells i).m=0∨(at_ s.cells i).m=1))∧s.cells.length≤6
instance (s:PSec):Decidable (Shape s):=by unfold Shape;exact inferInstance
theorem shapes:∀n:Nat,n<3→∀m:Nat,m<3→Shape (gZ zM zM ((n:Int)+1) ((m:Int)+1)):=by decide +kernel
theorem jG {p q:PMat}{n m:Int}(h1:1≤n) (h2:n≤3) (h3:1≤m) (h4:m≤3):Shape (gZ p q n m):=by
 have h:=shapes (n-1).toNat oq (m-1).toNat oq;rw [show (((n-1).toNat:Nat):Int)+1=n by omega,show (((m-1).toNat:Nat):Int)+1=m by omega]at h;exact h
section
variable {p q:PMat}{n m:Int}(h1:1≤n) (h2:n≤3) (h3:1≤m) (h4:m≤3)
include h1 h2 h3 h4
theorem uC (hp:nU p=0) (hq:nU q=0):aF (gZ p q n m)=0:=by
 obtain⟨z1,z2,z3,z4,_⟩:=jG (p:=p) (q:=q) h1 h2 h3 h4;have hm:qI (gZ p q n m)=0:=dN fun i hi=>by
  have hi:i<2:=hi
  match i,hi with
  | 0,_=>exact hp
  | 1,_=>exact hq
 unfold aF;rw [oh z1,oh (by simp [hm]),if_neg (by simp [z2]),oh (by simp [z3]),z4]
theorem aSm (hp:nU p=0) (hq:nU q=0):oH [p,q] (aDm n m) ((4:Int):Rat) ((1:Int):Rat)=0:=by
 have hL:pA (aDm n m)=0:=by
  refine aNb (by simp [aDm]) (by simp [aDm]) (fun i hi=>?_) ?_
  ·have hi:i<2:=hi;have a0:(0:Rat)<((4:Int):Rat):=by decide +kernel
   have a1:(0:Rat)<((3:Int):Rat):=by decide +kernel
   match i,hi with
   | 0,_=>exact fun h=>h.elim (fun h=>by have h:n<1:=h;omega) fun h=>h a0
   | 1,_=>exact fun h=>h.elim (fun h=>by have h:m<1:=h;omega) fun h=>h a1
  ·show n.toNat+(m.toNat+0)≤24;omega
 unfold oH;rw [oh (by simp [hL])];exact uC h1 h2 h3 h4 hp hq
theorem aOy:∀i,i<(gZ p q n m).cells.length→(nbm (gZ p q n m).links (i:Nat)).length≤2:=fun i hi=>
 ((jG (p:=p) (q:=q) h1 h2 h3 h4).2.2.2.2.1 i hi).2.2.2.1
theorem aPa:Wts 84 (gZ p q n m):=by
 obtain⟨_,_,_,_,z,_⟩:=jG (p:=p) (q:=q) h1 h2 h3 h4
 have g:∀ {q:Rat},(q*((84:Nat):Rat)).den=1→Grd 84 q:=fun {q} h=>⟨(q*((84:Nat):Rat)).num,by
  have:=yE (q:=q*((84:Nat):Rat));rw [h]at this;rw [←this];show _=q*((84:Nat):Rat)*1
  rw [Rat.mul_one];rfl⟩
 exact⟨fun i hi=>g (z i hi).1,fun i hi=>g (z i hi).2.1,fun i hi w hw=>g ((z i hi).2.2.1 w hw)⟩
theorem aOz {i:Nat}(hi:i<(gZ p q n m).cells.length):at_ (gZ p q n m).mats (at_ (gZ p q n m).cells i).m.toNat=p∨at_ (gZ p q n m).mats (at_ (gZ p q n m).cells i).m.toNat=q:=by
 obtain⟨_,_,_,_,z,_⟩:=jG (p:=p) (q:=q) h1 h2 h3 h4;rcases (z i hi).2.2.2.2 with h|h
 ·rw [h];exact .inl rfl
 ·rw [h];exact .inr rfl
end
def Amt (j:Nat) (q:Rat):Prop:=∃z:Int,q=(z:Rat)∧0≤z∧z≤100*(j:Int)
theorem Amt.add {i j:Nat}{p q:Rat}(h:Amt i p) (h':Amt j q):Amt (i+j) (p+q):=by
 obtain⟨a,rfl,a0,a1⟩:=h;obtain⟨b,rfl,b0,b1⟩:=h';exact⟨a+b,by rw [Rat.intCast_add],oq,oq⟩
theorem rT {a b:Int}(ha:0≤a) (ha3:a≤3) (hb:0≤b) (hb3:b≤3) (t:Rat):Amt 1 (spd (dU a b) t):=by
 unfold spd;split
 ·exact⟨0,rfl,oq,oq⟩
 ·have hle:upto (dU a b) t≤2:=by
   unfold upto;have:=(List.takeWhile_sublist (l:=dU a b) (fun r=>decide (r.f≤t))).length_le;exact this
  generalize upto (dU a b) t=u at *
  match u,hle with
  | 0,_=>exact absurd rfl ‹_›
  | 1,_=>exact⟨a,rfl,oq,oq⟩
  | 2,_=>exact⟨a+b,rfl,oq,oq⟩
def Spd (s:PSec):Prop:=∀i,i<s.cells.length→∀t,Amt 1 (spd (at_ s.mats (at_ s.cells i).m.toNat).cure t)∧Amt 1 (spd (at_ s.mats (at_ s.cells i).m.toNat).spoil t)
structure Tru (s:PSec) (j:Nat) (x:PState):Prop where
 temp:∀i,i<s.cells.length→Grd (84^j*255) (at_ x.temp i)
 mag:rY x
 size:sized s x
 cure:∀i,i<s.cells.length→Amt j (at_ x.cure i)
 spoil:∀i,i<s.cells.length→Amt j (at_ x.spoil i)
section
variable {s:PSec}{x:PState}{j:Nat}{u v t:Rat}{us vs:List Rat}
theorem Tru.step (hE:aF s=0) (hw:Wts 84 s) (hS:Spd s) (h:Tru s j x) (hu:Grd 255 u) (hv:Grd 255 v) (mu:Mag u) (mv:Mag v):Tru s (j+1) (bT s x u v):=by
 have e:84*(84^j*255)=84^(j+1)*255:=by rw [←jc,qy 84,←jf]
 refine⟨fun i hi=>?_,fun i hi=>?_,uD,fun i hi=>?_,fun i hi=>?_⟩
 ·have:=aPl hE hw h.temp (hu.up (84^j)) (hv.up (84^j)) hi;rw [e]at this
  rwa [show at_ (bT s x u v).temp i=fQ s x u v i from aM hi]
 ·have hi:i<s.cells.length:=by simpa [bT] using hi
  rw [show at_ (bT s x u v).temp i=fQ s x u v i from aM hi];exact uM hE h.size h.mag mu mv hi
 ·rw [show at_ (bT s x u v).cure i=pY s x i from aM hi];exact (h.cure i hi).add (hS i hi _).1
 ·rw [show at_ (bT s x u v).spoil i=kY s x i from aM hi];exact (h.spoil i hi).add (hS i hi _).2
theorem Tru.run (hE:aF s=0) (hw:Wts 84 s) (hS:Spd s) (h:Tru s j x):∀ {n:Nat},(∀q,q<n→(Grd 255 (at_ us q)∧Mag (at_ us q))∧(Grd 255 (at_ vs q)∧Mag (at_ vs q)))→Tru s (j+n) (oB s us vs n x)
 | 0,_=>h
 | n+1,hu=>(Tru.run hE hw hS h fun q hq=>hu q oq).step hE hw hS (hu n oq).1.1 (hu n oq).2.1 (hu n oq).1.2 (hu n oq).2.2
theorem Tru.start (ht:Grd 255 t) (hm:Mag t):Tru s 0 (aQ s t):=by
 refine⟨fun i hi=>?_,oO hm,⟨by simp [aQ],by simp [aQ],by simp [aQ]⟩,fun i hi=>?_,fun i hi=>?_⟩
 ·rw [Nat.pow_zero,Nat.one_mul,show at_ (aQ s t).temp i=t from bQ hi];exact ht
 ·rw [show at_ (aQ s t).cure i=0 from bQ hi];exact⟨0,rfl,oq,oq⟩
 ·rw [show at_ (aQ s t).spoil i=0 from bQ hi];exact⟨0,rfl,oq,oq⟩
theorem Amt.wd (h:Amt j t) (hj:j≤24):Wd t 4:=by
 obtain⟨z,rfl,z0,z1⟩:=h;have:2400<B64^4:=oz
 exact⟨z,1,oz,by rw [Rat.mkRat_one],oq,oq⟩
theorem Tru.wd (h:Tru s j x) (hj:j≤24) {i:Nat}(hi:i<s.cells.length):Wd (at_ x.temp i) 4∧Wd (at_ x.cure i) 4∧Wd (at_ x.spoil i) 4:=by
 refine⟨?_,(h.cure i hi).wd hj,(h.spoil i hi).wd hj⟩;have hg:Grd (84^24*255) (at_ x.temp i):=by
  have:=(h.temp i hi).up (84^(24-j))
  rwa [←jc,←zj,show 24-j+j=24 by omega]at this
 obtain⟨h1,h2⟩:=hg.size oz (h.mag i (by rw [h.size.1];exact hi));have b1:9223372036854775808*(84^24*255)<B64^4:=oz
 have b2:84^24*255<B64^4:=oz
 exact yT oq oq
theorem aFk {b:PBand}{r:PRange}(hE:aF s=0) (h:Enc s b x):∀ {n:Nat},(∀q,q<n→Bt r.s0 (at_ us q) r.s1∧Bt r.a0 (at_ vs q) r.a1)→Enc s (advN s r n b) (oB s us vs n x)
 | 0,_=>h
 | n+1,hu=>aMm hE (aFk hE h fun q hq=>hu q oq) (hu n oq).1 (hu n oq).2
end
open IntKind (wrap)
open Sy (Up Sees CallsG Seg RowC ReadIn)
theorem aAm {α:Type}{x:α}{l:List α}{i:Nat}:(l++List.replicate i x)++[x]=l++List.replicate (i+1) x:=by rw [xc,List.replicate_succ']
theorem oT {a:Array Value}{v:Value}{j:Nat}(hv:v.cells=#[v]) (ha:a[j]?=some v):v.cells.size=1∧∀(q:Nat) u,v.cells[q]?=some u→a[j+q]?=some u:=by
 rw [hv];refine⟨rfl,fun q u hq=>?_⟩
 match q with
 | 0=>simp at hq;subst hq;exact ha
 | q+1=>simp at hq
theorem yX {a:Array Value}:∀(q:Nat) u,(Value.agg a).cells[q]?=some u→a[0+q]?=some u:=fun q u h=>by rw [ql];exact h
theorem eJ {j n:Nat}(h:j<n):decide ((0:Int)≤(j:Int)∧((j:Int):Int)<(n:Nat))=true:=decide_eq_true ⟨oq,oq⟩
section
variable {k:World}{R:World→Value→Prop}{c2 c3:Array Value}{u v:Rat}{mats:List PMat}{ls:List PLayer}{n0 n1 d0 d1:Nat}{A0 A1:Option Addr}
theorem aQx (hm:Lst k A0 n0 8 (MatV (NP 1) k) mats) (h20:∀i,i<mats.length→(at_ mats i).cure.length≤1000∧(at_ mats i).spoil.length≤1000) (hm0:mats.length≤1000) (hl:Lst k A1 n1 8 (LayerV (NP 1) k) ls) (hu:RatV k c2 u 1) (hv:RatV k c3 v 1)
 (C:∀k' B0 m0 e0 B1 m1 e1 B2 m2 e2,Up k k'→SecV (NP 5) k' B0 m0 B1 m1 B2 m2 (aSk (oH mats ls u v) (uE mats ls u v))→R k' (.tuple #[.agg #[.slice B0 m0 e0,.slice B1 m1 e1,.slice B2 m2 e2],.int .i64 (oH mats ls u v)])) :
 Cl k 22 #[.slice A0 n0 d0,.slice A1 n1 d1,.agg c2,.agg c3] R:=by
 intro k0 u0;have hN:=aD 1;have hM:=aD 5;have low:∀ {k:World} cs q,NP 1 k cs q→NP 5 k cs q:=fun cs q h=>h.mono oz;replace hm:Lst k0 A0 n0 8 (MatV (NP 5) k0) mats:=hm.up u0 fun _ _ h=>MatV.monoS low (MatV.up hN h u0);replace hl:=hl.up u0 fun _ _ h=>LayerV.up hN h u0;replace hu:=hu.up u0;replace hv:=hv.up u0;replace C:=fun k' B0 m0 e0 B1 m1 e1 B2 m2 e2 uu=>C k' B0 m0 e0 B1 m1 e1 B2 m2 e2 (u0.trans uu);have en:=hl.1;have em:=hm.1;have bad:∀e:Int,oH mats ls u v=e→e≠0→∀k',Up k0 k'→R k' (.tuple #[.agg #[.slice none 0 0,.slice none 0 0,.slice none 0 0],.int .i64 e]):=fun e he h0 k' uu=>by
  have:=C k' none 0 0 none 0 0 none 0 0 uu (by unfold aSk;rw [he,og h0];exact⟨.nil,.nil,.nil⟩)
  rwa [he]at this
 have lay:∀e:Int,pA ls=e→e≠0→∀k',Up k0 k'→R k' (.tuple #[.agg #[.slice none 0 0,.slice none 0 0,.slice none 0 0],.int .i64 e]):=fun e he h0=>bad e (by unfold oH;rw [he,og h0]) h0;refine aMd hu.seg hv.seg ⟨rfl,fun h k1 u1=>lay 4 (aFr (.inl (by have:=ow h;omega))) oz k1 u1,fun h1=>⟨rfl,fun h k1 u1=>lay 4 (aFr (.inr (by have:=ow h;omega))) oz k1 u1,fun h24=>⟨rfl,?_⟩⟩⟩;replace h1:¬ ls.length<1:=by have:=ov h1;omega
 replace h24:¬ 24<ls.length:=by have:=ov h24;omega
 refine⟨fun m k vs=>∃j:Nat,j+m=n1∧vs=[.int .i64 j]∧∀i,i<j→¬ sC (at_ ls i),⟨n1,fun k1 u1=>⟨0,oq,rfl,fun i hi=>oq⟩⟩,?_⟩;rintro m k2 vs u2 ⟨j,hj,rfl,hb⟩;refine⟨j,rfl,fun hlt=>?_,fun hge k8 u8=>?_⟩
 ·have hlt:=aL hlt;obtain⟨a,_,⟨c0,c1,rfl,q0,q1⟩,ha,hbd,hr,_⟩:=(hl.up u2 fun _ _ h=>LayerV.up hN h u2).el (i:=j) oq oz;refine⟨ha,hbd,_,_,c0,q0.seg,c1,q1.seg,hr k2 (Up.refl _),fun c k3 u3=>lay 1 (aFq h1 h24 (j:=j) oq (.inl (by have:=ow c;omega))) oz k3 (u2.trans u3),fun c=>?_⟩;refine xP q1 oz fun k5 u5=>⟨_,rfl,fun d k6 u6=>lay 1 (aFq h1 h24 (j:=j) oq (.inr (by simpa using d))) oz k6 (u2.trans (u5.trans u6)),fun d k7 u7=>?_⟩;refine⟨m-1,oq,j+1,oq,by rw [aH oq],eA hb fun hbad=>?_⟩;have c:=ov c;rcases hbad with hbad|hbad
  ·omega
  ·exact hbad (by simpa using d)
 have hge:=aO hge;have hb:∀i,i<ls.length→¬ sC (at_ ls i):=fun i hi=>hb i oq;obtain⟨hmn,xs,hin,hrc,hxs⟩:=hm.up u2 fun _ _ h=>MatV.up hM h u2;refine aCv (xs:=xs) hxs.size hrc (hin.up u8) oq fun k9 A5 c5 u9=>⟨A5,n0,c5,xs,rfl,rfl,?_⟩;have v9:=u2.trans (u8.trans u9);replace hxs:=hxs.mono fun a v h=>MatV.up hM h (u8.trans u9);have hl9:=hl.up v9 fun _ _ h=>LayerV.up hN h v9
 refine⟨fun m k vs=>∃(j:Nat) (B0 B1:Option Addr) (n e0 e1:Nat) (x0 x1:Array Value),j+m=n1∧vs=[.int .i64 j,.tuple #[.slice B0 n e0,.agg x0],.tuple #[.slice B1 n e1,.agg x1]]∧n=cnt (ls.take j)∧n≤24∧
  ArrV n 3 (NP 1 k) x0 (at_ (kJ (ls.take j)))∧ArrV n 10 (CellV (NP 5) k) x1 (at_ (mK (ls.take j))),⟨n1,fun k1 u1=>⟨0,none,none,0,0,0,#[],#[],oq,rfl,by simp [cnt],oq,ArrV.empty,ArrV.empty⟩⟩,?_⟩
 rintro m k10 vs u10 ⟨j,B0,B1,n,e0,e1,x0,x1,hj,rfl,hn,hn24,h0,hc⟩;have hs0:∀ {k:World},∀a v,NP 1 k a v→Seg 3 a:=fun _ _ h=>h.seg;have hs1:∀ {k:World},∀a v,CellV (NP 5) k a v→Seg 10 a:=fun _ _ h=>CellV.seg hM h;have hs2:∀ {k:World},∀a v,MatV (NP 5) k a v→Seg 8 a:=fun _ _ h=>MatV.seg hM h;have hs3:∀ {k:World},∀a v,LinkV (NP 5) k a v→Seg 5 a:=fun _ _ h=>LinkV.seg hM h;refine⟨j,B0,n,e0,x0,h0.rowC hs0,B1,n,e1,x1,hc.rowC hs1,rfl,fun hlt=>?_,fun hge=>?_⟩
 ·have hlt:=aL hlt;have hjl:j<ls.length:=oq
  obtain⟨a,_,⟨c0,c1,rfl,q0,q1⟩,ha,hbd,hr,_⟩:=(hl9.up u10 fun _ _ h=>LayerV.up hN h u10).el (i:=j) oq oz;have hnb:=hb j hjl;have hn1:1≤(at_ ls j).n:=by unfold sC at hnb;omega
  have hct:=zL hjl;have hw:wrap .i64 (24-((n:Nat):Int))=24-(n:Int):=by rw [jp];omega
  refine⟨ha,hbd,_,_,c0,q0.seg,c1,q1.seg,hr k10 (Up.refl _),rfl,fun c k11 u11=>?_,fun c=>?_⟩
  ·rw [hw]at c;have c:=ow c;exact lay 4 (aNa (j:=j+1) h1 h24 hb oq) oz k11 (v9.trans (u10.trans u11))
  rw [hw]at c;have c:=ov c
  refine⟨fun m k vs=>∃(i:Nat) (B0 B1:Option Addr) (p e0 e1:Nat) (x0 x1:Array Value),i+m=(at_ ls j).n.toNat∧p=n+i∧vs=[.int .i64 i,.tuple #[.slice B0 p e0,.agg x0],.tuple #[.slice B1 p e1,.agg x1]]∧
   ArrV p 3 (NP 1 k) x0 (at_ (kJ (ls.take j)++List.replicate i (at_ ls j).v))∧ArrV p 10 (CellV (NP 5) k) x1 (at_ (mK (ls.take j)++List.replicate i (vH (at_ ls j)))),
   ⟨(at_ ls j).n.toNat,fun k12 u12=>⟨0,B0,B1,n,e0,e1,x0,x1,oq,rfl,rfl,?_,?_⟩⟩,?_⟩
  ·rw [List.replicate_zero,oa];exact h0.mono fun _ _ h=>h.up u12
  ·rw [List.replicate_zero,oa];exact hc.mono fun _ _ h=>CellV.up hM h u12
  ·rintro m' k12 vs u12 ⟨i,B0',B1',p,e0',e1',y0,y1,hi,rfl,rfl,g0,gc⟩;refine⟨i,B0',n+i,e0',y0,g0.rowC hs0,B1',n+i,e1',y1,gc.rowC hs1,rfl,fun hlt'=>?_,fun hge' k14 u14=>?_⟩
   ·have hlt':=ow hlt';refine⟨by simp [q0.seg.1],oz,⟨by simp;omega,by simp;omega⟩,?_⟩;rintro C1 _ f1 _ rfl rfl _;refine⟨by simp [q1.seg.1],oz,⟨by simp;omega,by simp;omega⟩,?_⟩;rintro C0 _ f0 _ rfl rfl _ k13 u13;have lv:(kJ (ls.take j)++List.replicate i (at_ ls j).v).length=n+i:=by rw [qf,sQ,ze,hn]
    have lc:(mK (ls.take j)++List.replicate i (vH (at_ ls j))).length=n+i:=by rw [qf,sP,ze,hn]
    refine⟨m'-1,oq,i+1,C0,C1,_,f0,f1,_,_,oq,rfl,by rw [aH oq];rfl,?_,?_⟩
    ·have g:=ArrV.snoc (P:=NP 1 k13) (l:=kJ (ls.take j)++List.replicate i (at_ ls j).v) (v:=(at_ ls j).v) (a:=c1) (by rw [lv];exact g0.mono fun _ _ h=>h.up u13) q1.seg.1 (q1.up (u12.trans u13));rw [lv,aAm]at g;rw [oa];exact g
    ·have g:=ArrV.snoc (P:=CellV (NP 5) k13) (l:=mK (ls.take j)++List.replicate i (vH (at_ ls j))) (v:=vH (at_ ls j)) (a:=(Value.int .i64 (at_ ls j).m :: (c0.toList++([Value.bool false,Value.slice none 0 0,Value.slice none 0 0]++([Value.bool false,Value.slice none 0 0,Value.slice none 0 0]++[])))).toArray) (by rw [lc];exact gc.mono fun _ _ h=>CellV.up hM h u13) (by simp [q0.seg.1]) ⟨c0,#[Value.bool false,Value.slice none 0 0,Value.slice none 0 0],#[Value.bool false,Value.slice none 0 0,Value.slice none 0 0],rfl,low _ _ (q0.up (u12.trans u13)),nZ 5,nZ 5⟩;rw [lc,aAm]at g;exact g
   ·have hge':=ov hge';have ei:i=(at_ ls j).n.toNat:=oq
    subst ei;refine⟨m-1,oq,j+1,B0',B1',_,e0',e1',y0,y1,oq,by rw [aH oq],by rw [hct,hn],oq,?_,?_⟩
    ·rw [aId hjl];exact g0.mono fun _ _ h=>h.up u14
    ·rw [aIc hjl];exact gc.mono fun _ _ h=>CellV.up hM h u14
 have hge:=aO hge;have ej:ls.take j=ls:=zm oq;rw [ej]at hn h0 hc;have hp:=aQq h1 hb;have v10:=v9.trans u10;have hpr:wrap .i64 (((n:Nat):Int)-1)=((n-1:Nat):Int):=pC oq oq;refine⟨rfl,eJ (j:=0) oq,eJ (j:=0) oq,⟨oq,oq⟩,?_⟩;rintro _ rfl;rw [hpr];refine⟨eJ oq,eJ oq,⟨oq,oq⟩,?_⟩;rintro _ rfl;have hcl:=edges hM hn oq hc (low _ _ (hu.up v10)) (low _ _ (hv.up v10));refine⟨fun m k vs=>∃(j:Nat) (B:Option Addr) (e:Nat) (x:Array Value),j+1+m=n∧vs=[.int .i64 ((j+1:Nat):Int),.tuple #[.slice B j e,.agg x]]∧ArrV j 5 (LinkV (NP 5) k) x (at_ (jQ (kJ ls))),⟨n-1,fun k1 u1=>⟨0,none,0,#[],oq,rfl,ArrV.empty⟩⟩,?_⟩;rintro m' k15 vs u15 ⟨i,B,e,x,hi,rfl,hlk⟩;refine⟨((i+1:Nat):Int),B,i,e,x,hlk.rowC hs3,rfl,fun hlt=>?_,fun hge=>⟨rfl,?_⟩⟩
 ·have hlt:=ow hlt;have hpi:wrap .i64 (((i+1:Nat):Int)-1)=((i:Nat):Int):=by rw [pC oq oq];rfl
  rw [hpi];replace h0:=h0.mono fun _ _ h=>h.up u15;obtain⟨a,ha,q0,r0⟩:=h0.read (i:=i) oq;obtain⟨b,hb',q1,r1⟩:=h0.read (i:=i+1) oq;refine⟨eJ oq,a,q0.seg,r0 0 3 (.agg a) ha yX,eJ oq,b,q1.seg,r1 0 3 (.agg b) hb' yX,?_⟩;refine jI q0 q1 oz oz oz oz fun k17 y17 u17 w17=>⟨y17,w17.seg,rfl,?_⟩;refine dI (q0.up u17) (q1.up u17) oz oz oz oz fun k19 y19 u19 w19=>⟨y19,w19.seg,rfl,?_⟩;refine xQ (w17.up u19) w19 oz oz oz oz fun k21 y21 u21 w21=>⟨y21,w21.seg,rfl,by simp [w21.seg.1],oz,⟨by simp;omega,by simp;omega⟩,?_⟩;rintro C1 _ f1 _ rfl rfl _ k22 u22;refine⟨m'-1,oq,i+1,C1,f1,_,oq,by rw [aH oq];rfl,?_⟩;refine ArrV.push (a:=(Value.int .i64 (i:Int) :: (Value.int .i64 ((i+1:Nat):Int) :: (y21.toList++[]))).toArray) (hlk.mono fun _ _ h=>LinkV.up hM h (u17.trans (u19.trans (u21.trans u22)))) (by simp [w21.seg.1]) ?_;have el:at_ (jQ (kJ ls)) i=⟨i,((i+1:Nat):Int),at_ (kJ ls) i*at_ (kJ ls) (i+1) / (at_ (kJ ls) i+at_ (kJ ls) (i+1))⟩:=by
   unfold jQ;have hle:=sQ ls;rw [cH (by simp;omega)];simp
  rw [el];exact⟨y21,rfl,w21.up u22⟩
 have hge:=ov hge;have ei:i=n-1:=oq
 subst ei;have v15:=v10.trans u15;replace hxs:=hxs.mono fun a v h=>MatV.up hM h (u10.trans u15);refine⟨fun m k vs=>∃(j:Nat) (x:Array Value),j+m=n0∧vs=[.int .i64 j,.tuple #[.slice A5 n0 c5,.agg x]]∧ArrV n0 8 (MatV (NP 5) k) x (at_ mats),⟨n0,fun k1 u1=>⟨0,xs,oq,rfl,hxs.mono fun _ _ h=>MatV.up hM h u1⟩⟩,?_⟩;rintro m'' k23 vs u23 ⟨q,x',hq,rfl,hmt⟩;refine⟨q,A5,n0,c5,x',hmt.rowC hs2,rfl,fun hlt=>?_,fun hge k29 u29 r0 k30 u30 r1 k31 u31 r2=>?_⟩
 ·have hlt:=aL hlt;have hql:=h20 q oq;have hP:∀(k k':World) a (v:PRate),Up k k'→RateV (NP 5) k a v→RateV (NP 5) k' a v:=fun _ _ _ _ u h=>RateV.up hM h u;obtain⟨a,_,⟨A,p,z,A',p',z',c0,c1,rfl,l0,l1,g0,g1⟩,rd⟩:=hmt.read (i:=q) oq;refine⟨eJ oq,eJ oq,A,p,z,rd 0 1 _ rfl (oT (j:=0) rfl rfl).2,?_⟩;refine nD (P:=fun k=>RateV (NP 5) k) hP oz sE l0 (by rw [l0.1];omega) fun k25 D y u25 hD=>⟨D,p,y,rfl,eJ oq,eJ oq,⟨oq,oq⟩,?_⟩;rintro _ rfl;have hmt':ArrV n0 8 (MatV (NP 5) k25) (Sy.over x' (Int.toNat (q:Int)*8+0) [Value.slice D p y]) (at_ mats):=by
   refine ArrV.part (i:=q) (hmt.mono fun _ _ h=>MatV.up hM h u25) oq (by simp) (fun a _ ha=>?_) fun _ _ _=>rfl;obtain⟨A,p,z,A',p',z',c0,c1,rfl,l0,l1,g0,g1⟩:=ha;exact⟨D,_,y,A',p',z',c0,c1,by simp [Sy.over],hD,l1,g0,g1⟩
  obtain⟨a2,_,⟨E,w,t,E',w',t',b0,b1,rfl,l0',l1',g0',g1'⟩,rd'⟩:=hmt'.read (i:=q) oq;refine⟨eJ oq,eJ oq,E',w',t',rd' 1 1 _ rfl (oT (j:=1) rfl rfl).2,?_⟩;refine nD (P:=fun k=>RateV (NP 5) k) hP oz sE l1' (by rw [l1'.1];omega) fun k27 D' y' u27 hD'=>⟨D',w',y',rfl,eJ oq,eJ oq,⟨oq,oq⟩,?_⟩;rintro _ rfl k28 u28;refine⟨m''-1,oq,q+1,_,oq,by rw [aH oq],?_⟩;refine ArrV.part (i:=q) (hmt'.mono fun _ _ h=>MatV.up hM h (u27.trans u28)) oq (by simp) (fun a _ ha=>?_) fun _ _ _=>rfl;obtain⟨A,p,z,A',p',z',c0,c1,rfl,l0,l1,g0,g1⟩:=ha;exact⟨A,p,z,D',_,y',c0,c1,by simp [Sy.over],l0,hD'.up u28 fun _ _ h=>RateV.up hM h u28,g0,g1⟩
 have v31:=u23.trans (u29.trans (u30.trans u31));have hlens:=aKd mats ls u v
 have hsec:SecV (NP 5) k31 A5 n0 B1 n B (n-1) (uE mats ls u v):=⟨⟨em,(hmt.mono fun _ _ h=>MatV.up hM h (u29.trans (u30.trans u31))).els hs2 (eO r0 (u30.trans u31))⟩,
  ⟨by rw [hlens.1,hn],(hcl.mono fun _ _ h=>CellV.up hM h (u15.trans v31)).els hs1 (eO r1 u31)⟩,⟨by rw [hlens.2,hn],(hlk.mono fun _ _ h=>LinkV.up hM h v31).els hs3 r2⟩⟩
 have hL:pA ls=0:=aNb h1 h24 hb oq;have hS:oH mats ls u v=aF (uE mats ls u v):=by unfold oH;rw [oh (by simp [hL])]
 refine nF hsec oz oz fun k33 u33=>⟨_,rfl,fun f k34 u34=>?_,fun f k35 u35=>?_⟩
 ·exact bad _ hS (by have:=dW f;exact this) k34 (v15.trans (v31.trans (u33.trans u34)))
 ·have f:=cO f;have:=C k35 A5 n0 c5 B1 n e1 B (n-1) e (v15.trans (v31.trans (u33.trans u35))) (by rw [aSl (hS.trans f)];exact SecV.up hM hsec (u33.trans u35))
  rwa [hS.trans f]at this
end
theorem jC {a m:Int}(ha:0≤a) (hm:0<m) (h:m≤1000):wrap .i64 (Int.tmod a m)=a % m:=by
 rw [Int.tmod_eq_emod_of_nonneg ha,jp];have h1:=Int.emod_nonneg a (show m≠0 by omega);have h2:=Int.emod_lt_of_pos a hm;omega
structure IR (r:PRange):Prop where
 st:∃a b:Int,r.s0=(a:Rat)∧r.s1=(b:Rat)∧0≤a∧a≤b∧b≤1000
 air:∃a b:Int,r.a0=(a:Rat)∧r.a1=(b:Rat)∧0≤a∧a≤b∧b≤1000
theorem iF {a:Int}(h0:0≤a) (h1:a≤1000):Mag (a:Rat):=by
 unfold Mag MM;exact⟨vv.2 oq,vv.2 oq⟩
theorem IR.mag {r:PRange}(h:IR r):MagR r:=by
 obtain⟨⟨a,b,h1,h2,h3,h4,h5⟩,c,d,g1,g2,g3,g4,g5⟩:=h;exact⟨by rw [h1];exact iF h3 oq,by rw [h2];exact iF oq h5,by rw [g1];exact iF g3 oq,by rw [g2];exact iF oq g5⟩
theorem IR.ok {r:PRange}(h:IR r):cZ r=0:=by
 obtain⟨⟨a,b,h1,h2,h3,h4,h5⟩,c,d,g1,g2,g3,g4,g5⟩:=h;obtain⟨s0,s1,a0,a1⟩:=r;exact aEa (by rw [show s0=(a:Rat) from h1,show s1=(b:Rat) from h2];exact_mod_cast h4) (by rw [show a0=(c:Rat) from g1,show a1=(d:Rat) from g2];exact_mod_cast g4)
theorem aPb {x y:Rat}:(x-y).num.sign<0↔x<y:=decide_eq_decide.1 aBr
theorem aVe {x y:Rat}:(x-y).num.sign > 0↔y<x:=by
 have h:(x-y).num.sign > 0↔0<x-y:=decide_eq_decide.1 aBq;rw [h];constructor <;> intro g <;> grind
def His (p q t:Rat):Prop:=Bt p t q∧Grd 255 t∧Mag t
theorem aFw {a b k:Int}(h0:0≤a) (h1:a≤b) (h2:b≤1000) (k0:0≤k) (k1:k≤255):His (a:Rat) (b:Rat) ((a:Rat)+((b:Rat)-(a:Rat))*ofQ k 255):=by
 have e:ofQ k 255=(k:Rat) / 255:=by unfold ofQ;rw [oh oz];rfl
 rw [e];have w:(k:Rat) / 255*255=(k:Rat):=by
  rw [ke];decide +kernel
 have hk0:(0:Rat)≤(k:Rat):=by exact_mod_cast k0
 have hk1:(k:Rat)≤255:=(vv.2 k1:(k:Rat)≤((255:Int):Rat));have hab:(a:Rat)≤(b:Rat):=by exact_mod_cast h1
 generalize (k:Rat) / 255=w' at *
 have w0:0≤w':=by grind
 have w1:w'≤1:=by grind
 have p0:0≤((b:Rat)-(a:Rat))*w':=Rat.mul_nonneg (by grind) w0;have p1:0≤((b:Rat)-(a:Rat))*(1-w'):=Rat.mul_nonneg (by grind) (by grind);have hb:Bt (a:Rat) ((a:Rat)+((b:Rat)-(a:Rat))*w') (b:Rat):=⟨by grind,by grind⟩;refine⟨hb,⟨a*255+(b-a)*k,?_⟩,aNj (iF h0 oq) (iF oq h2) hb⟩;rw [Rat.intCast_add,zy,zy,Rat.intCast_sub,←w];show _*(255:Rat)=(a:Rat)*(255:Rat)+_
 grind
theorem His.wd {p q t:Rat}(h:His p q t):Wd t 5:=by
 obtain⟨h1,h2⟩:=h.2.1.size oz h.2.2;have b1:9223372036854775808*255<B64^5:=oz
 have b2:255<B64^5:=oz
 exact yT oq oq
section
variable {k:World}{R:World→Value→Prop}{cs c0 c1 c2 c3:Array Value}{n0 n1 n2 n3 n4 n5 d0 d1 d2 d3 d4 d5 n6 n7 d6 d7 p K T d:Nat}{A0 A1 A2 A3 A4 A5 A6 A7:Option Addr}{a b:Int}{s:PSec}{x:PState}{us vs:List Rat}{l:List Int}{r:PRange}
theorem aEs (ha:In64 a) (hb:In64 b) (C:∀k' ds,Up k k'→RatV k' ds (ofQ a b) 1→R k' (.agg ds)):Cl k 19 #[.int .i64 a,.int .i64 b] R:=fun _k0 u0=>
 aSt (aWt ha hb fun _k1 ds u1 h=>⟨ds,h.seg,rfl,fun k2 u2=>C k2 ds (u0.trans (u1.trans u2)) (h.up u2)⟩)
theorem oL (ha:0≤a) (hb:0≤b) (C:∀k' A n c,Up k k'→Lst k' A n 6 (RateV (NP 1) k') (dU (a % 4) (b % 4))→R k' (.slice A n c)):Cl k 21 #[.int .u8 a,.int .u8 b] R:=by
 intro k0 u0;have hN:=aD 1;have ea:=jC ha (m:=4) oz oz;have eb:=jC hb (m:=4) oz oz;have h1:=Int.emod_nonneg a (show (4:Int)≠0 by decide);have h2:=Int.emod_lt_of_pos a (show (0:Int)<4 by decide);have h3:=Int.emod_nonneg b (show (4:Int)≠0 by decide);have h4:=Int.emod_lt_of_pos b (show (0:Int)<4 by decide);have es:wrap .i64 (a % 4+b % 4)=a % 4+b % 4:=by rw [jp];omega
 refine aKn (bK oz oz fun k1 z1 u1 w1=>⟨z1,w1.seg,rfl,?_⟩);rw [ea,eb,es];refine bK oq oq fun k3 z3 u3 w3=>⟨z3,w3.seg,rfl,?_⟩;refine bK oz oz fun k5 z5 u5 w5=>⟨z5,w5.seg,rfl,?_⟩;refine bK oq oq fun k7 z7 u7 w7=>⟨z7,w7.seg,rfl,?_⟩;intro p k8 u8 hB k9 u9;have v:=u8.trans u9;refine C k9 _ _ _ (u0.trans (u1.trans (u3.trans (u5.trans (u7.trans v))))) (xZ (hB.up u9) (a:=(z1.toList++(z3.toList++([]))).toArray) (b:=(z5.toList++(z7.toList++([]))).toArray) (by simp) (by simp [w1.seg.1,w3.seg.1]) (by simp [w5.seg.1,w7.seg.1]) ⟨_,_,rfl,w1.up (u3.trans (u5.trans (u7.trans v))),w3.up (u5.trans (u7.trans v))⟩ ⟨_,_,rfl,w5.up (u7.trans v),w7.up v⟩ fun _ _ h=>RateV.seg hN h)
def or1 (n:Int):Int:=wrap .u8 (BitVec.toNat (BitVec.ofInt (IntKind.bits .u8) n ||| BitVec.ofInt (IntKind.bits .u8) 1))
theorem rR (n:Int):0≤or1 n:=by
 unfold or1;rw [IntKind.wrap_u8];omega
structure TopS (s:PSec):Prop where
 valid:aF s=0
 wts:Wts 84 s
 deg:∀i,i<s.cells.length→(nbm s.links (i:Nat)).length≤2
 spd:Spd s
 few:s.cells.length≤6
theorem mod4 {a:Int}(_h:0≤a):0≤a % 4∧a % 4≤3:=oq
theorem aSs {a b c d e f g h i j n m:Int}(ha:0≤a) (hb:0≤b) (hc:0≤c) (hd:0≤d) (he:0<e) (hf:0<f) (hg:0≤g) (hh:0≤h) (hi:0<i) (hj:0<j) (_hn:0≤n) (_hm:0≤m) :
 TopS (gZ (yA (a % 4) (b % 4) (0 % 4) (c % 4) e f) (yA (d % 4) (g % 4) (0 % 4) (h % 4) i j) (1+n % 3) (1+m % 3))∧oH [yA (a % 4) (b % 4) (0 % 4) (c % 4) e f,yA (d % 4) (g % 4) (0 % 4) (h % 4) i j] (aDm (1+n % 3) (1+m % 3)) ((4:Int):Rat) ((1:Int):Rat)=0:=by
 have h1:1≤1+n % 3:=oq
 have h2:1+n % 3≤3:=oq
 have h3:1≤1+m % 3:=oq
 have h4:1+m % 3≤3:=oq
 have a4:=mod4 ha;have b4:=mod4 hb;have c4:=mod4 hc;have d4:=mod4 hd;have g4:=mod4 hg;have k4:=mod4 hh;have p:=aFt (a:=a % 4) (b:=b % 4) (c:=0 % 4) (d:=c % 4) a4.1 b4.1 oz c4.1 he hf;have q:=aFt (a:=d % 4) (b:=g % 4) (c:=0 % 4) (d:=h % 4) d4.1 g4.1 oz k4.1 hi hj;refine⟨⟨uC h1 h2 h3 h4 p q,aPa h1 h2 h3 h4,aOy h1 h2 h3 h4,fun i hi t=>?_,(jG h1 h2 h3 h4).2.2.2.2.2⟩,aSm h1 h2 h3 h4 p q⟩;rcases aOz h1 h2 h3 h4 hi with e|e
 ·rw [e];exact⟨rT a4.1 a4.2 b4.1 b4.2 t,rT oz oz c4.1 c4.2 t⟩
 ·rw [e];exact⟨rT d4.1 d4.2 g4.1 g4.2 t,rT oz oz k4.1 k4.2 t⟩
theorem aGh {i0 i1 i2 i3 i4 i5:Int}(h0:0≤i0) (h1:0≤i1) (h2:0≤i2) (h3:0≤i3) (h4:0≤i4) (h5:0≤i5)
 (C:∀k' p q B0 m0 e0 B1 m1 e1 B2 m2 e2,Up k k'→TopS (gZ p q (1+i0 % 3) (1+i1 % 3))→SecV (NP 5) k' B0 m0 B1 m1 B2 m2 (gZ p q (1+i0 % 3) (1+i1 % 3))→R k' (.tuple #[.agg #[.slice B0 m0 e0,.slice B1 m1 e1,.slice B2 m2 e2],.int .i64 0])) :
 Cl k 5 #[.agg #[.int .u8 i0,.int .u8 i1],.agg #[.int .u8 i2,.int .u8 i3,.int .u8 i4,.int .u8 i5]] R:=by
 intro k0 u0;have hN:=aD 1;have e0:wrap .i64 (1+wrap .i64 (Int.tmod i0 3))=1+i0 % 3:=by rw [jC h0 oz oz,jp];omega
 have e1:wrap .i64 (1+wrap .i64 (Int.tmod i1 3))=1+i1 % 3:=by rw [jC h1 oz oz,jp];omega
 refine aPp (oL (rR i2) h3 fun k1 X0 x0 q0 u1 w1=>⟨_,_,_,rfl,?_⟩);refine oL oz h4 fun k3 X1 x1 q1 u3 w3=>⟨_,_,_,rfl,?_⟩;refine bK oz oz fun k5 z5 u5 w5=>⟨z5,w5.seg,rfl,?_⟩;refine bK oz oz fun k7 z7 u7 w7=>⟨z7,w7.seg,rfl,?_⟩;refine oL (rR i4) h5 fun k9 X2 x2 q2 u9 w9=>⟨_,_,_,rfl,?_⟩;refine oL oz h2 fun k11 X3 x3 q3 u11 w11=>⟨_,_,_,rfl,?_⟩;refine bK oz oz fun k13 z13 u13 w13=>⟨z13,w13.seg,rfl,?_⟩;refine bK oz oz fun k15 z15 u15 w15=>⟨z15,w15.seg,rfl,?_⟩;refine bK oz oz fun k17 z17 u17 w17=>⟨z17,w17.seg,rfl,?_⟩;refine bK oz oz fun k19 z19 u19 w19=>⟨z19,w19.seg,rfl,?_⟩;refine bK oz oz fun k21 z21 u21 w21=>⟨z21,w21.seg,rfl,?_⟩;refine bK oz oz fun k23 z23 u23 w23=>⟨z23,w23.seg,rfl,?_⟩;refine bK oz oz fun k25 z25 u25 w25=>⟨z25,w25.seg,rfl,?_⟩;refine bK oz oz fun k27 z27 u27 w27=>⟨z27,w27.seg,rfl,?_⟩;intro p k28 u28 b28 p' k29 u29 b29;rw [e0,e1]at b29;have y1:=u3.trans (u5.trans (u7.trans (u9.trans (u11.trans (u13.trans (u15.trans (u17.trans (u19.trans (u21.trans (u23.trans (u25.trans (u27.trans (u28.trans u29)))))))))))));have y3:=u5.trans (u7.trans (u9.trans (u11.trans (u13.trans (u15.trans (u17.trans (u19.trans (u21.trans (u23.trans (u25.trans (u27.trans (u28.trans u29))))))))))));have y7:=u9.trans (u11.trans (u13.trans (u15.trans (u17.trans (u19.trans (u21.trans (u23.trans (u25.trans (u27.trans (u28.trans u29))))))))));have y9:=u11.trans (u13.trans (u15.trans (u17.trans (u19.trans (u21.trans (u23.trans (u25.trans (u27.trans (u28.trans u29)))))))));have y11:=u13.trans (u15.trans (u17.trans (u19.trans (u21.trans (u23.trans (u25.trans (u27.trans (u28.trans u29))))))));have y15:=u17.trans (u19.trans (u21.trans (u23.trans (u25.trans (u27.trans (u28.trans u29))))));have y19:=u21.trans (u23.trans (u25.trans (u27.trans (u28.trans u29))));have y23:=u25.trans (u27.trans (u28.trans u29));have hm:Lst k29 (some ⟨p,0,none⟩) 2 8 (MatV (NP 1) k29) [yA (or1 i2 % 4) (i3 % 4) (0 % 4) (i4 % 4) 4 40,yA (or1 i4 % 4) (i5 % 4) (0 % 4) (i2 % 4) 3 30]:=
  xZ (b28.up u29) (a:=((Value.slice X0 x0 q0) :: ((Value.slice X1 x1 q1) :: (z5.toList++(z7.toList++([]))))).toArray) (b:=((Value.slice X2 x2 q2) :: ((Value.slice X3 x3 q3) :: (z13.toList++(z15.toList++([]))))).toArray) (by simp) (by simp [w5.seg.1,w7.seg.1]) (by simp [w13.seg.1,w15.seg.1])
   ⟨_,_,_,_,_,_,z5,z7,rfl,bJ hN w1 y1,bJ hN w3 y3,w5.up (u7.trans y7),w7.up y7⟩ ⟨_,_,_,_,_,_,z13,z15,rfl,bJ hN w9 y9,bJ hN w11 y11,w13.up (u15.trans y15),w15.up y15⟩ fun _ _ h=>MatV.seg hN h
 have hl:Lst k29 (some ⟨p',0,none⟩) 2 8 (LayerV (NP 1) k29) (aDm (1+i0 % 3) (1+i1 % 3)):=
  xZ b29 (a:=((Value.int .i64 0) :: ((Value.int .i64 (1+i0 % 3)) :: (z17.toList++(z19.toList++([]))))).toArray) (b:=((Value.int .i64 1) :: ((Value.int .i64 (1+i1 % 3)) :: (z21.toList++(z23.toList++([]))))).toArray) (by simp) (by simp [w17.seg.1,w19.seg.1]) (by simp [w21.seg.1,w23.seg.1])
   ⟨z17,z19,rfl,w17.up (u19.trans y19),w19.up y19⟩ ⟨z21,z23,rfl,w21.up (u23.trans y23),w23.up y23⟩ fun _ _ h=>LayerV.seg hN h
 obtain⟨hT,hS⟩:=aSs (a:=or1 i2) (b:=i3) (c:=i4) (d:=or1 i4) (e:=4) (f:=40) (g:=i5) (h:=i2) (i:=3) (j:=30) (n:=i0) (m:=i1) (rR _) h3 h4 (rR _) oz oz h5 h2 oz oz h0 h1;refine aQx hm (fun i hi=>?_) (show 2≤1000 by decide) hl (w25.up (u27.trans (u28.trans u29))) (w27.up (u28.trans u29)) fun k31 B0 m0 e0 B1 m1 e1 B2 m2 e2 u31 hs=>⟨_,_,_,_,_,_,_,_,_,_,rfl,fun k32 u32=>?_⟩
 ·have hi:i<2:=hi
  match i,hi with
  | 0,_=>exact⟨by show 2≤1000;decide,by show 2≤1000;decide⟩
  | 1,_=>exact⟨by show 2≤1000;decide,by show 2≤1000;decide⟩
 ·rw [hS]at hs ⊢;exact C k32 _ _ B0 m0 e0 B1 m1 e1 B2 m2 e2 (u0.trans (u1.trans (y1.trans (u31.trans u32)))) hT (SecV.up (aD 5) hs u32)
theorem aPq (ha:0≤a) (hb:0≤b) (C:∀k' c0 c1 c2 c3 r,Up k k'→IR r→RangeV (NP 1) k' c0 c1 c2 c3 r→R k' (.agg (c0.toList++(c1.toList++(c2.toList++(c3.toList++([]))))).toArray)):Cl k 7 #[.agg #[.int .u8 a,.int .u8 b]] R:=by
 intro k0 u0;have ea:=jC ha (m:=16) oz oz;have eb:=jC hb (m:=8) oz oz;have e1:wrap .i64 (170-a % 16)=170-a % 16:=by rw [jp];omega
 have e2:wrap .i64 (170+a % 16)=170+a % 16:=by rw [jp];omega
 have e3:wrap .i64 (20-b % 8)=20-b % 8:=by rw [jp];omega
 have e4:wrap .i64 (20+b % 8)=20+b % 8:=by rw [jp];omega
 refine aKo ?_;rw [ea,eb,e1,e2,e3,e4];refine bK oq oq fun k1 z1 u1 w1=>⟨z1,w1.seg,rfl,?_⟩;refine bK oq oq fun k3 z3 u3 w3=>⟨z3,w3.seg,rfl,?_⟩;refine bK oq oq fun k5 z5 u5 w5=>⟨z5,w5.seg,rfl,?_⟩;refine bK oq oq fun k7 z7 u7 w7=>⟨z7,w7.seg,rfl,fun k8 u8=>?_⟩;exact C k8 _ _ _ _ ⟨_,_,_,_⟩ (u0.trans (u1.trans (u3.trans (u5.trans (u7.trans u8))))) ⟨⟨_,_,rfl,rfl,oq,oq,oq⟩,⟨_,_,rfl,rfl,oq,oq,oq⟩⟩ ⟨w1.up (u3.trans (u5.trans (u7.trans u8))),w3.up (u5.trans (u7.trans u8)),w5.up (u7.trans u8),w7.up u8⟩
theorem aBz {i:Nat}{u v:Rat}(hB:Sy.Blk k p 25 #[.slice A0 n0 d0]) (hl:Lst k A0 n0 1 U8A l) (hx:RatV k c0 u 1) (hy:RatV k c1 v 1) (h:∃a b:Int,u=(a:Rat)∧v=(b:Rat)∧0≤a∧a≤b∧b≤1000) (C:∀k' ds t,Up k k'→His u v t→RatV k' ds t 5→R k' (.agg ds)) :
 Cl k 29 #[.agg (c0.toList++(c1.toList++([]))).toArray,.int .i64 (i:Nat),.pointer (some ⟨p,0,none⟩)] R:=by
 intro k0 u0;obtain⟨a,b,rfl,rfl,h0,h1,h2⟩:=h;replace hl:=hl.kept u0;replace hx:=hx.up u0;replace hy:=hy.up u0;replace C:=fun k' ds t u=>C k' ds t (u0.trans u);have en:=hl.1;have i255:In64 255:=by unfold In64;decide
 refine aKl hx.seg hy.seg (hB.up u0) ⟨rfl,fun h=>⟨rfl,?_⟩,fun _=>?_⟩
 ·have hn:n0≠0:=fun e=>by subst e;simp at h
  have hlt:=qt i (vd hn);obtain⟨x,_,⟨a0,a1,rfl⟩,ha,hb,hr,_⟩:=hl.el (i:=i % n0) oq oz;refine⟨decide_eq_true oq,ha,hb,_,hr k0 (Up.refl _),?_⟩;rw [show wrap .i64 (at_ l (i % n0))=at_ l (i % n0) by rw [jp];omega];generalize at_ l (i % n0)=z at *
  refine kE hy hx oz oz oz oz fun k1 z1 u1 w1=>⟨z1,w1.seg,rfl,?_⟩;refine aEs (by unfold In64;omega) i255 fun k3 z3 u3 w3=>⟨z3,w3.seg,rfl,?_⟩;refine jI (w1.up u3) w3 oz oz oz oz fun k5 z5 u5 w5=>⟨z5,w5.seg,rfl,?_⟩;refine dI (hx.up (u1.trans (u3.trans u5))) w5 oz oz oz oz fun k7 z7 u7 w7=>⟨z7,w7.seg,rfl,fun k8 u8=>?_⟩;have hm:=aFw h0 h1 h2 a0 a1;exact C k8 z7 _ (u1.trans (u3.trans (u5.trans (u7.trans u8)))) hm ((w7.cut hm.wd).up u8)
 ·refine kE hy hx oz oz oz oz fun k1 z1 u1 w1=>⟨z1,w1.seg,rfl,?_⟩;refine aEs (by unfold In64;omega) i255 fun k3 z3 u3 w3=>⟨z3,w3.seg,rfl,?_⟩;refine jI (w1.up u3) w3 oz oz oz oz fun k5 z5 u5 w5=>⟨z5,w5.seg,rfl,?_⟩;refine dI (hx.up (u1.trans (u3.trans u5))) w5 oz oz oz oz fun k7 z7 u7 w7=>⟨z7,w7.seg,rfl,fun k8 u8=>?_⟩;have hm:=aFw (k:=0) h0 h1 h2 oz oz;exact C k8 z7 _ (u1.trans (u3.trans (u5.trans (u7.trans u8)))) hm ((w7.cut hm.wd).up u8)
theorem aGg {n:Nat}(hl:Lst k A0 n0 1 U8A l) (hr:RangeV (NP 1) k c0 c1 c2 c3 r) (hi:IR r) (hn:n≤2000)
 (C:∀k' B0 e0 B1 e1 us vs,Up k k'→Lst k' B0 n 3 (NP 5 k') us→Lst k' B1 n 3 (NP 5 k') vs→(∀i,i<n→His r.s0 r.s1 (at_ us i)∧His r.a0 r.a1 (at_ vs i))→R k' (.tuple #[.slice B0 n e0,.slice B1 n e1])) :
 Cl k 11 #[.agg (c0.toList++(c1.toList++(c2.toList++(c3.toList++([]))))).toArray,.int .i64 (n:Nat),.slice A0 n0 d0] R:=by
 intro k0 u0;have P1:=aD 1;replace hl:=hl.kept u0;replace hr:=RangeV.up P1 hr u0;replace C:=fun k' B0 e0 B1 e1 us vs u=>C k' B0 e0 B1 e1 us vs (u0.trans u);have sg:∀ {k:World},∀a (v:Rat),NP 5 k a v→Seg 3 a:=fun _ _ h=>h.seg;have hup:∀ {k k':World}{xs:Array Value}{j:Nat}{f:Nat→Rat},Up k k'→ArrV j 3 (NP 5 k) xs f→ArrV j 3 (NP 5 k') xs f:=fun u h=>h.mono fun _ _ h=>h.up u
 refine aPn hr.s0.seg hr.s1.seg hr.a0.seg hr.a1.seg fun p k1 u1 hB=>⟨fun m k vs=>∃(j:Nat) (B0 B1:Option Addr) (e0 e1:Nat) (x0 x1:Array Value) (us ws:List Rat),j+m=n∧vs=[.int .i64 j,.tuple #[.slice B0 j e0,.agg x0],.tuple #[.slice B1 j e1,.agg x1]]∧us.length=j∧ws.length=j∧
  ArrV us.length 3 (NP 5 k) x0 (at_ us)∧ArrV ws.length 3 (NP 5 k) x1 (at_ ws)∧∀i,i<j→His r.s0 r.s1 (at_ us i)∧His r.a0 r.a1 (at_ ws i),
  ⟨n,fun k2 u2=>⟨0,_,_,_,_,_,_,[],[],oq,rfl,rfl,rfl,ArrV.empty,ArrV.empty,fun i hi=>absurd hi (Nat.not_lt_zero _)⟩⟩,?_⟩
 rintro m k2 vs u2 ⟨j,B0,B1,e0,e1,x0,x1,us,ws,hj,rfl,l0,l1,h0,h1,hh⟩;have v2:=u1.trans u2;refine⟨j,B0,j,e0,x0,h0.rowC sg,B1,j,e1,x1,h1.rowC sg,rfl,fun hlt=>?_,fun hge k7 u7 ra k8 u8 rb k9 u9=>?_⟩
 ·have hlt:=aL hlt;have a1:wrap .i64 (2*(j:Int))=((2*j:Nat):Int):=by rw [jp];omega
  have a2:wrap .i64 (((2*j:Nat):Int)+1)=((2*j+1:Nat):Int):=by rw [jp];omega
  rw [a1,a2];have hr2:=RangeV.up P1 hr v2;refine aBz (hB.up u2) (hl.kept v2) hr2.s0 hr2.s1 hi.st fun k3 z3 t3 u3 g3 w3=>⟨z3,w3.seg,rfl,by simp [w3.seg.1],oz,⟨by simp;omega,by simp;omega⟩,?_⟩;rintro B0' _ e0' _ rfl rfl _;refine aBz ((hB.up u2).up u3) ((hl.kept v2).kept u3) (hr2.a0.up u3) (hr2.a1.up u3) hi.air fun k5 z5 t5 u5 g5 w5=>⟨z5,w5.seg,rfl,by simp [w5.seg.1],oz,⟨by simp;omega,by simp;omega⟩,?_⟩;rintro B1' _ e1' _ rfl rfl _ k6 u6;refine⟨m-1,oq,j+1,B0',B1',e0',e1',_,_,us++[t3],ws++[t5],oq,by rw [aH oq];rfl,by simp [l0],by simp [l1],?_,?_,fun i hi=>?_⟩
  ·rw [oa];exact yZ (hup (u3.trans (u5.trans u6)) h0) w3.seg.1 ((w3.up u5).up u6)
  ·rw [oa];exact yZ (hup (u3.trans (u5.trans u6)) h1) w5.seg.1 (w5.up u6)
  ·by_cases e:i=j
   ·subst e;have q1:at_ (us++[t3]) i=t3:=by rw [←l0];exact aCh
    have q2:at_ (ws++[t5]) i=t5:=by rw [←l1];exact aCh
    rw [q1,q2];exact⟨g3,g5⟩
   ·rw [aCi oq,aCi oq];exact hh i oq
 ·have hge:=aO hge;have ej:j=n:=oq
  subst ej;have w7:=u7.trans (u8.trans u9);refine C k9 _ _ _ _ us ws (v2.trans w7) ?_ ?_ fun i hi=>hh i hi
  ·exact fU l0.symm (by have:=hup w7 h0;rwa [l0]at this) sg (eO ra (u8.trans u9))
  ·exact fU l1.symm (by have:=hup w7 h1;rwa [l1]at this) sg (eO rb u9)
def aWq (s:PSec) (x:PState) (z:Int):Bool:=if z=0 then decide (iU s x) && !decide (bU s x) else if z=1 then !decide (bU s x) else if z=2 then decide (bU s x) else z == 3
def dTo (s:PSec) (x:PState) (j:Nat):Prop:=∀i,i<j→¬ at_ x.cure i<sN s i
def sTo (s:PSec) (x:PState) (j:Nat):Prop:=∀i,i<j→¬ kO s i<at_ x.spoil i
instance (s:PSec) (x:PState) (j:Nat):Decidable (dTo s x j):=by unfold dTo;exact inferInstance
instance (s:PSec) (x:PState) (j:Nat):Decidable (sTo s x j):=by unfold sTo;exact inferInstance
theorem StateV.cutS {L:Nat}(h:StateV (NP T) k A3 n3 A4 n4 A5 n5 x) (hz:sized s x) (hw:∀i,i<s.cells.length→Wd (at_ x.temp i) L∧Wd (at_ x.cure i) L∧Wd (at_ x.spoil i) L):StateV (NP L) k A3 n3 A4 n4 A5 n5 x:=
 ⟨h.temp.monoI fun i _ hi g=>g.cut (hw i (by have:=hz.1;omega)).1,h.cure.monoI fun i _ hi g=>g.cut (hw i (by have:=hz.2.1;omega)).2.1,h.spoil.monoI fun i _ hi g=>g.cut (hw i (by have:=hz.2.2;omega)).2.2⟩
theorem aQu (hs:SecV (NP K) k A0 n0 A1 n1 A2 n2 s) (hx:StateV (NP T) k A3 n3 A4 n4 A5 n5 x) (hu:Lst k A6 n6 3 (NP K k) us) (hv:Lst k A7 n7 3 (NP K k) vs) (hE:aF s=0) (hz:sized s x) (hl:us.length=vs.length) (hl2:us.length≤2000)
 (hd:∀i,i<s.cells.length→(nbm s.links (i:Nat)).length≤d) (hK1:1≤K) (hT1:1≤T) (hK:K≤1000000) (hT:aU K d T≤300000000) (hd2:d≤128)
 (hw:∀j,j≤us.length→∀i,i<s.cells.length→Wd (at_ (oB s us vs j x).temp i) T∧Wd (at_ (oB s us vs j x).cure i) T∧Wd (at_ (oB s us vs j x).spoil i) T)
 (C:∀k' B0 m0 e0 B1 m1 e1 B2 m2 e2,Up k k'→StateV (NP T) k' B0 m0 B1 m1 B2 m2 (oB s us vs us.length x)→R k' (.tuple #[.agg #[.slice B0 m0 e0,.slice B1 m1 e1,.slice B2 m2 e2],.int .i64 0])) :
 Cl k 12 #[.agg #[.slice A0 n0 d0,.slice A1 n1 d1,.slice A2 n2 d2],.agg #[.slice A3 n3 d3,.slice A4 n4 d4,.slice A5 n5 d5],.slice A6 n6 d6,.slice A7 n7 d7] R:=by
 intro k0 u0;have hN:=aD K;replace hs:=SecV.up hN hs u0;replace hx:=StateV.up (aD T) hx u0;replace hu:=hu.up u0 fun _ _ h=>h.up u0;replace hv:=hv.up u0 fun _ _ h=>h.up u0;replace C:=fun k' B0 m0 e0 B1 m1 e1 B2 m2 e2 u=>C k' B0 m0 e0 B1 m1 e1 B2 m2 e2 (u0.trans u);have eu:=hu.1;have ev:=hv.1;have hb:fZ s x=0:=mE hE hz;refine aQv (xM hs hx.temp.1 hx.cure.1 hx.spoil.1 hK1 hK fun k1 u1=>⟨_,rfl,fun f=>absurd hb (dW f),fun _=>⟨rfl,rfl,fun g=>absurd g (by simp;omega),fun _=>⟨rfl,fun h=>absurd (ow h) oq,fun _=>?_⟩⟩⟩);have hc24:s.cells.length≤24:=by have:=bF hE;unfold bW at this;omega
 obtain⟨z3,z4,z5⟩:=id hz;replace hs:=SecV.up hN hs u1
 refine xO hs.links (by have:=bF hE;unfold bW at this;have:=hs.links.1;omega) (fun z hz=>by
  obtain⟨h1,h2⟩:=eK (dP hE) z hz
  omega) fun k4 M u4 hM=>⟨_,_,_,_,_,_,_,_,_,_,rfl,?_⟩
 have hx4:=StateV.up (aD T) (StateV.up (aD T) hx u1) u4;refine oR hx4 (by rw [hx4.temp.1];omega) (by rw [hx4.cure.1];omega) (by rw [hx4.spoil.1];omega) fun k8 B0 q0 B1 q1 B2 q2 u8 hc=>⟨_,_,_,_,_,_,_,_,_,rfl,rfl,?_⟩
 refine⟨fun m k vs'=>∃(j:Nat) (B0 B1 B2:Option Addr) (m0 m1 m2 e0 e1 e2:Nat),j+m=us.length∧vs'=[.int .i64 j,.agg #[.slice B0 m0 e0,.slice B1 m1 e1,.slice B2 m2 e2]]∧StateV (NP T) k B0 m0 B1 m1 B2 m2 (oB s us vs j x),
  ⟨us.length,fun k1 u1=>⟨0,_,_,_,_,_,_,_,_,_,oq,rfl,StateV.up (aD T) hc u1⟩⟩,?_⟩
 rintro m k9 vs' u9 ⟨j,B0,B1,B2,m0,m1,m2,e0,e1,e2,hj,rfl,hst⟩;refine⟨j,B0,m0,e0,B1,m1,e1,B2,m2,e2,rfl,fun hlt=>?_,fun hge k13 u13=>?_⟩
 ·have hlt:=aL hlt;have v9:=(u4.trans u8).trans u9;obtain⟨a,_,ga,ha,hb,hr,_⟩:=((hu.up u1 fun _ _ h=>h.up u1).up v9 fun _ _ h=>h.up v9).el (i:=j) oq oz;obtain⟨a',_,ga',ha',hb',hr',_⟩:=((hv.up u1 fun _ _ h=>h.up u1).up v9 fun _ _ h=>h.up v9).el (i:=j) oq oz;refine⟨ha,hb,a,ga.seg,hr k9 (Up.refl _),ha',hb',a',ga'.seg,hr' k9 (Up.refl _),?_⟩;refine aFj (SecV.up hN hs v9) hst (NbV.up hN hM (u8.trans u9)) ga ga' hE (wV hz j) hd hK1 hT1 hT hd2 fun k11 B0 m0 e0 B1 m1 e1 B2 m2 e2 u11 hr=>⟨_,_,_,_,_,_,_,_,_,rfl,fun k12 u12=>?_⟩;exact⟨m-1,oq,j+1,B0,B1,B2,m0,m1,m2,e0,e1,e2,oq,by rw [aH oq],StateV.up (aD T) (StateV.cutS (x:=oB s us vs (j+1) x) hr (wV hz (j+1)) (hw (j+1) oq)) u12⟩
 ·have hge:=aO hge;have ej:j=us.length:=oq
  subst ej;exact C k13 _ _ _ _ _ _ _ _ _ ((((u1.trans u4).trans u8).trans u9).trans u13) (StateV.up (aD _) hst u13)
theorem aRd {p q:PMat}:(bT (gZ p q (1+0 % 3) (1+0 % 3)) (aQ (gZ p q (1+0 % 3) (1+0 % 3)) ((20:Int):Rat)) ((180:Int):Rat) ((20:Int):Rat)).temp=[((100:Int):Rat),((20:Int):Rat)]:=by
 have h:(bT (gZ zM zM (1+0 % 3) (1+0 % 3)) (aQ (gZ zM zM (1+0 % 3) (1+0 % 3)) ((20:Int):Rat)) ((180:Int):Rat) ((20:Int):Rat)).temp=[((100:Int):Rat),((20:Int):Rat)]:=by decide +kernel
 exact h
theorem text100:cT ((100:Int):Rat)=[49,48,48]:=by
 have:=aPm 100;rw [show (((100:Nat):Int):Rat)=((100:Int):Rat) from rfl]at this;rw [this];unfold dec;rw [oh oq,iA oq,show 100/10=10 from rfl,iA oq,show 10/10=1 from rfl,iA oq,show 1/10=0 from rfl,eD];rfl
theorem aPi (C:∀k',Up k k'→R k' (.bool true)):Cl k 6 #[] R:=by
 intro k0 u0;have hN:=aD 5;replace C:=fun k' u=>C k' (u0.trans u);refine aKi (aGh oz oz oz oz oz oz fun k1 p q B0 m0 e0 B1 m1 e1 B2 m2 e2 u1 hT hs=>⟨_,_,_,_,_,_,_,_,_,_,rfl,?_⟩);refine bK oz oz fun k3 z3 u3 w3=>⟨z3,w3.seg,rfl,?_⟩;refine mG (SecV.up hN hs u3) (w3.mono oz) oz oz fun k5 D0 p0 f0 D1 p1 f1 D2 p2 f2 u5 hst=>⟨_,_,_,_,_,_,_,_,_,_,rfl,?_⟩;rw [hT.valid,lN rfl]at hst;rw [hT.valid];refine bK oz oz fun k7 z7 u7 w7=>⟨z7,w7.seg,rfl,?_⟩;refine bK oz oz fun k9 z9 u9 w9=>⟨z9,w9.seg,rfl,?_⟩;have hz:sized (gZ p q (1+0 % 3) (1+0 % 3)) (aQ (gZ p q (1+0 % 3) (1+0 % 3)) ((20:Int):Rat)):=⟨by simp [aQ],by simp [aQ],by simp [aQ]⟩;refine aGy (d:=2) (SecV.up hN hs (u3.trans (u5.trans (u7.trans u9)))) (StateV.up hN hst (u7.trans u9)) ((w7.up u9).mono oz) (w9.mono oz) (fun _=>hT.deg) oz oz oz (by unfold aU;decide) oz fun k11 E0 q0 g0 E1 q1 g1 E2 q2 g2 u11 hy=>⟨_,_,_,_,_,_,_,_,_,_,rfl,?_⟩;rw [mE hT.valid hz,lN rfl]at hy;rw [mE hT.valid hz];have ht:=hy.temp;rw [aRd]at ht;have et:q0=2:=ht.1;subst et;refine⟨fun _=>⟨fun _=>⟨fun _=>⟨rfl,fun _=>?_,fun h=>absurd h oz⟩,fun h=>absurd h oz⟩,fun h=>absurd h oz⟩,fun h=>absurd h oz⟩;obtain⟨a,_,ga,ha,hb,hr,_⟩:=ht.el (i:=0) oz oz;refine⟨ha,hb,a,ga.seg,hr k11 (Up.refl _),aQb ga (by unfold aU;decide) fun k13 u13=>⟨_,rfl,fun k14 u14=>?_⟩⟩;have:=C k14 (u1.trans (u3.trans (u5.trans (u7.trans (u9.trans (u11.trans (u13.trans u14)))))));have e:at_ ([((100:Int):Rat),((20:Int):Rat)]:List Rat) 0=((100:Int):Rat):=rfl;have e2:(ByteArray.toList ⟨([49,48,48]:List UInt8).toArray⟩ == ByteArray.toList ⟨#[49,48,48]⟩)=true:=beq_self_eq_true _;rw [e,text100,e2];exact this
end
section
variable {α:Type}[Inhabited α] {k:World}{b o n s i:Nat}{P:Array Value→α→Prop}{l:List α}
end
theorem PhV.mono {N N':World→Array Value→Rat→Prop}{k:World}{a:Array Value}{p:PPhase}(h:PhV N k a p) (hN:∀cs q,N k cs q→N' k cs q):PhV N' k a p:=by
 obtain⟨c0,c1,c2,c3,e,h⟩:=h;exact⟨c0,c1,c2,c3,e,hN _ _ h.s0,hN _ _ h.s1,hN _ _ h.a0,hN _ _ h.a1⟩
theorem up5 {k:World}:∀cs q,NP 1 k cs q→NP 5 k cs q:=fun _ _ h=>h.mono oz
structure Go (s:PSec) (j:Nat) (x:PState) (b:PBand):Prop where
 tru:Tru s j x
 enc:Enc s b x
 ok:OkB s b
 und:Und s.cells.length b.lo b.hi
section
variable {k:World}{R:World→Value→Prop}{cs c0 c1 c2 c3:Array Value}{n0 n1 n2 n3 n4 n5 d0 d1 d2 d3 d4 d5 n6 n7 n8 n9 d6 d7 d8 d9 p K T j n:Nat}{A0 A1 A2 A3 A4 A5 A6 A7 A8 A9:Option Addr}{s:PSec}{x:PState}{b:PBand}{us vs:List Rat}{r:PRange}
theorem aQc (hE:aF s=0) (hr:cZ r=0) (h:Und s.cells.length b.lo b.hi) (n:Nat):Und s.cells.length (advN s r n b).lo (advN s r n b).hi:=by
 rw [←sA];exact rZ hE (fun q hq=>by rw [(List.mem_replicate.1 hq).2];exact hr) h
theorem Go.next (hS:TopS s) (h:Go s j x b) (hi:IR r) (hh:∀i,i<n→His r.s0 r.s1 (at_ us i)∧His r.a0 r.a1 (at_ vs i)):Go s (j+n) (oB s us vs n x) (advN s r n b):=
 ⟨h.tru.run hS.valid hS.wts hS.spd fun q hq=>⟨(hh q hq).1.2,(hh q hq).2.2⟩,aFk hS.valid h.enc fun q hq=>⟨(hh q hq).1.1,(hh q hq).2.1⟩,h.ok.advN hS.valid hi.mag n,aQc hS.valid hi.ok h.und n⟩
theorem Go.inside (h:Go s j x b):iE b x:=aDk h.ok.lo h.ok.hi h.tru.size h.enc
theorem Go.adv (hS:TopS s) (h:Go s j x b) (hi:IR r):jZ s b r=0:=aLa hS.valid h.ok.lo h.ok.hi h.und hi.ok
theorem aLe {t u:Rat}(mt:Mag t) (mu:Mag u):OkB s (dJ s t u):=⟨⟨by simp [dJ,aQ],by simp [dJ,aQ],by simp [dJ,aQ]⟩,⟨by simp [dJ,aQ],by simp [dJ,aQ],by simp [dJ,aQ]⟩,oO mt,oO mu⟩
theorem pJ {t u:Rat}(h:t≤u):Und s.cells.length (aQ s t) (aQ s u):=aGp (u:=t) (v:=u) (zu.2 h)
theorem Go.start {t u v:Rat}(gt:Grd 255 v) (mt:Mag t) (mu:Mag u) (h1:t≤v) (h2:v≤u):Go s 0 (aQ s v) (dJ s t u):=
 ⟨Tru.start gt (aNj mt mu ⟨h1,h2⟩),⟨pJ h1,pJ h2⟩,aLe mt mu,pJ (wn h1 h2)⟩
theorem aPo (hS:TopS s) (hs:SecV (NP 5) k A0 n0 A1 n1 A2 n2 s) (hx:StateV (NP 4) k A3 n3 A4 n4 A5 n5 x) (hu:Lst k A6 n 3 (NP 5 k) us) (hv:Lst k A7 n 3 (NP 5 k) vs) (ht:Tru s j x) (hj:j+n≤24)
 (hh:∀i,i<n→His r.s0 r.s1 (at_ us i)∧His r.a0 r.a1 (at_ vs i))
 (C:∀k' B0 m0 e0 B1 m1 e1 B2 m2 e2,Up k k'→StateV (NP 4) k' B0 m0 B1 m1 B2 m2 (oB s us vs n x)→R k' (.tuple #[.agg #[.slice B0 m0 e0,.slice B1 m1 e1,.slice B2 m2 e2],.int .i64 0])) :
 Cl k 12 #[.agg #[.slice A0 n0 d0,.slice A1 n1 d1,.slice A2 n2 d2],.agg #[.slice A3 n3 d3,.slice A4 n4 d4,.slice A5 n5 d5],.slice A6 n d6,.slice A7 n d7] R:=by
 have hl:=hu.1;have hl':=hv.1;refine aQu (d:=2) hs hx hu hv hS.valid ht.size oq oq hS.deg oz oz oz (by unfold aU;decide) oz (fun q hq i hi=>?_) fun k' B0 m0 e0 B1 m1 e1 B2 m2 e2 u h=>?_
 ·exact (ht.run hS.valid hS.wts hS.spd (n:=q) fun i hi=>⟨(hh i oq).1.2,(hh i oq).2.2⟩).wd oq hi
 ·rw [←hl]at h;exact C k' B0 m0 e0 B1 m1 e1 B2 m2 e2 u h
theorem aKk {W:Nat}(hS:TopS s) (hs:SecV (NP 5) k A0 n0 A1 n1 A2 n2 s) (hl:StateV (NP T) k A3 n3 A4 n4 A5 n5 b.lo) (hh:StateV (NP T) k A6 n6 A7 n7 A8 n8 b.hi) (hp:Lst k A9 1 13 (PhV (NP 1) k) [⟨(n:Int),r⟩]) (ho:OkB s b) (hA:jZ s b r=0) (hi:IR r) (hn:n≤24) (hT1:1≤T) (hT:T≤500) (hW:T+n*6≤W)
 (C:∀k' B0 m0 e0 B1 m1 e1 B2 m2 e2 B3 m3 e3 B4 m4 e4 B5 m5 e5,Up k k'→StateV (NP W) k' B0 m0 B1 m1 B2 m2 (advN s r n b).lo→StateV (NP W) k' B3 m3 B4 m4 B5 m5 (advN s r n b).hi→
   R k' (.tuple #[.agg #[.slice B0 m0 e0,.slice B1 m1 e1,.slice B2 m2 e2,.slice B3 m3 e3,.slice B4 m4 e4,.slice B5 m5 e5],.int .i64 0])) :
 Cl k 13 #[.agg #[.slice A0 n0 d0,.slice A1 n1 d1,.slice A2 n2 d2],.agg #[.slice A3 n3 d3,.slice A4 n4 d4,.slice A5 n5 d5,.slice A6 n6 d6,.slice A7 n7 d7,.slice A8 n8 d8],.slice A9 1 d9] R:=by
 have hsum:(dM [(⟨(n:Int),r⟩:PPhase)]).toNat=n:=by simp [dM]
 refine aHe (K:=5) (T:=T) (W:=W) (d:=2) (b:=b) hs hl hh (hp.mono fun _ _ h=>h.mono up5) (fun _=>hS.deg) ho.magl ho.magh (fun q hq=>?_) oz hT1 oz oz oq (fun _=>by rw [hsum];unfold aU;omega) (fun _=>by rw [hsum];omega) fun k' B0 m0 e0 B1 m1 e1 B2 m2 e2 B3 m3 e3 B4 m4 e4 B5 m5 e5 u fl fh=>?_
 ·have:q=0:=by simp at hq;omega
  subst this;exact hi.mag
 ·rw [aFm hA oq];rw [aMn hA oq]at fl fh;exact C k' B0 m0 e0 B1 m1 e1 B2 m2 e2 B3 m3 e3 B4 m4 e4 B5 m5 e5 u fl fh
end
theorem aUf {s:PSec}{b:PBand}{r:PRange}(hc:kH s b r 24=0):(oY s b r 24=aFz 5)∨
 ∃N:Nat,N≤24∧oY s b r 24=⟨N,aGe s b r N,aAe s (advN s r N b).hi,advN s r N b,if bU s (advN s r N b).hi then 61 else 0⟩∧iU s (advN s r N b).lo∧∀k,k<N→¬ iU s (advN s r k b).lo:=by
 unfold oY;rw [oh (by simp [hc])];rcases nO (p:=fun k=>decide (iU s (advN s r k b).lo)) 25 with ⟨h1,h2⟩|⟨h1,h2,h3⟩
 ·have e:rG s b r (24:Int).toNat=25:=h1;rw [e,og oz];exact .inl rfl
 ·have e:rG s b r (24:Int).toNat<25:=h1;rw [oh oq];exact .inr ⟨rG s b r (24:Int).toNat,oq,rfl,ow h2,fun k hk=>ov (h3 k hk)⟩
theorem His.wide {p q t:Rat}(h:His p p t) (hpq:p≤q):His p q t:=⟨⟨h.1.1,wn h.1.2 hpq⟩,h.2⟩
theorem aSc {v0 v1:Value}{c4 c5:Array Value}:∀(q:Nat) u,c4[q]?=some u→(v0 :: (v1 :: (c4.toList++(c5.toList++([]))))).toArray[2+q]?=some u:=fun q u h=>by
 rw [xz,xb 2 q,vf,vf,←xz];exact aLc h
section
variable {k:World}{R:World→Value→Prop}{i0 i1 i2 i3 i4 i5 i6 i7:Int}{n9 d9:Nat}{A9:Option Addr}{l:List Int}
theorem vA (h0:0≤i0) (h1:0≤i1) (h2:0≤i2) (h3:0≤i3) (h4:0≤i4) (h5:0≤i5) (h6:0≤i6) (h7:0≤i7) (hl:Lst k A9 n9 1 U8A l) (C:∀k',Up k k'→R k' (.bool true)) :
 Cl k 4 #[.agg #[.int .u8 i0,.int .u8 i1],.agg #[.int .u8 i2,.int .u8 i3,.int .u8 i4,.int .u8 i5],.agg #[.int .u8 i6,.int .u8 i7],.slice A9 n9 d9] R:=by
 intro k0 u0;replace hl:=hl.kept u0;replace C:=fun k' u=>C k' (u0.trans u);have aw:∀k1,Up k0 k1→Cl k1 6 #[] fun k8 r7=>∃b10,some (Value.bool b10)=some r7∧∀k9,Up k8 k9→R k9 (Value.bool b10):=
  fun k1 u1=>aPi fun k3 u3=>⟨_,rfl,fun k4 u4=>C k4 ((u1.trans u3).trans u4)⟩
 have P1:=aD 1;have P5:=aD 5;have P4:=aD 4;have P149:=aD 149;have no:∀ {P:Prop},((0:Int) != 0)=true→P:=fun h=>by cases h
 refine aSu (aGh h0 h1 h2 h3 h4 h5 fun k1 p q B0 b0 e0 B1 b1 e1 B2 b2 e2 u1 hS hs=>⟨_,_,_,_,_,_,_,_,_,_,rfl,no,fun _=>⟨rfl,fun _=>⟨fun _=>aw k1 u1,fun h=>absurd h oz⟩,fun _=>?_⟩⟩);generalize gZ p q (1+i0 % 3) (1+i1 % 3)=s at hS hs;refine aPq h6 h7 fun k11 c0 c1 c2 c3 r u11 hi hr=>⟨c0,hr.s0.seg,c1,hr.s1.seg,c2,hr.a0.seg,c3,hr.a1.seg,rfl,?_⟩;refine bK oz oz fun k13 z13 u13 w13=>⟨z13,w13.seg,rfl,?_⟩;refine bK oz oz fun k15 z15 u15 w15=>⟨z15,w15.seg,rfl,?_⟩;have v15:=u11.trans (u13.trans u15);have t20:((20:Int):Rat)≤((30:Int):Rat):=by decide +kernel
 have hbe:iN s ((20:Int):Rat) ((30:Int):Rat)=0:=by
  unfold iN;rw [oh (by simp [hS.valid]),if_neg (Rat.not_lt.2 t20)]
 refine aLk (K:=5) (SecV.up P5 hs v15) ((w13.up u15).mono oz) (w15.mono oz) oz oz fun k17 G0 g0 a0 G1 g1 a1 G2 g2 a2 G3 g3 a3 G4 g4 a4 G5 g5 a5 u17 el eh=>⟨_,_,_,_,_,_,_,_,_,_,_,_,_,_,_,_,_,_,_,rfl,?_⟩;rw [hbe,aJt rfl]at el eh;rw [hbe];have m20:Mag ((20:Int):Rat):=iF oz oz;have m30:Mag ((30:Int):Rat):=iF oz oz;have g00:Go s 0 (aQ s ((20:Int):Rat)) (dJ s ((20:Int):Rat) ((30:Int):Rat)):=Go.start ⟨20*255,by decide +kernel⟩ m20 m30 wg t20;have hE:=hS.valid;have hc24:s.cells.length≤24:=by have:=hS.few;omega
 have hcu0:(dJ s ((20:Int):Rat) ((30:Int):Rat)).lo.cure=List.replicate s.cells.length 0:=rfl;have hgs:∀t,Grd 255 t→((20:Int):Rat)≤t→t≤((30:Int):Rat)→Go s 0 (aQ s t) (dJ s ((20:Int):Rat) ((30:Int):Rat)):=fun t h h1 h2=>Go.start h m20 m30 h1 h2;generalize hbb:dJ s ((20:Int):Rat) ((30:Int):Rat)=b at *
 have hA:=g00.adv hS hi;have hcE:kH s b r 24=0:=by unfold kH;rw [oh (by simp [hA]),if_neg oz]
 have v17:=v15.trans u17;have ho:=g00.ok;refine aMc (K:=5) (T:=5) (W:=149) (d:=2) (b:=b) (r:=r) (most:=24) (SecV.up P5 hs v17) el eh ⟨(up5 _ _ hr.s0).up (u13.trans (u15.trans u17)),(up5 _ _ hr.s1).up (u13.trans (u15.trans u17)),(up5 _ _ hr.a0).up (u13.trans (u15.trans u17)),(up5 _ _ hr.a1).up (u13.trans (u15.trans u17))⟩ (fun _=>hS.deg) ho.magl ho.magh hi.mag oz oz oz oz (fun _=>by unfold aU;decide) oz (fun _=>by decide) fun k19 E0 q0 f0 E1 q1 f1 E2 q2 f2 E3 q3 f3 E4 q4 f4 E5 q5 f5 u19 fl fh=>⟨_,_,_,_,_,_,_,_,_,_,_,_,_,_,_,_,_,_,_,_,_,_,rfl,?_⟩;have v19:=v17.trans u19;have hr19:=RangeV.up P1 hr (u13.trans (u15.trans (u17.trans u19)));have el19:=StateV.up P5 el u19;have eh19:=StateV.up P5 eh u19;replace hs:=SecV.up P5 hs v19;have hl19:=hl.kept (u1.trans v19);have cc:Up k0 k19:=u1.trans v19;clear v15 v17 u1 u11 u13 u15 u17 el eh hr w13 w15 m20 m30 t20 hbe;rcases aUf hcE with hc|⟨N,hN,hc,hdn,hbef⟩
 ·rw [hc];refine⟨fun _ vs=>vs=[.bool false],⟨no,fun _=>⟨fun _=>⟨fun h=>absurd h oz,fun _ k22 _=>rfl⟩,fun h=>absurd h oz⟩⟩,?_⟩;rintro k24 _ u24 rfl;exact⟨_,rfl,fun h=>absurd h oz,fun _=>⟨fun _=>aw k24 (cc.trans u24),fun h=>absurd h oz⟩⟩
 rw [hc]at fl fh;rw [hc];simp only at fl fh;have hspl:(if bU s (advN s r N b).hi then (61:Int) else 0)=61∨(if bU s (advN s r N b).hi then (61:Int) else 0)=0:=by
  by_cases h:bU s (advN s r N b).hi
  ·exact .inl (og h)
  ·exact .inr (oh h)
 have hsafe:(if bU s (advN s r N b).hi then (61:Int) else 0)=0→¬ bU s (advN s r N b).hi:=fun h g=>by rw [og g]at h;cases h
 generalize (if bU s (advN s r N b).hi then (61:Int) else 0)=ee at *
 dsimp only;refine⟨fun _ vs=>vs=[.bool false],⟨no,fun _=>⟨fun h=>⟨fun h5 k21 _=>?_,fun _ k22 _=>rfl⟩,fun _ k23 _=>rfl⟩⟩,?_⟩
 ·rcases hspl with rfl|rfl
  ·rfl
  ·cases h
 rintro k24 _ u24 rfl;refine⟨_,rfl,fun h=>absurd h oz,fun _=>⟨fun h=>?_,fun _=>⟨rfl,?_⟩⟩⟩
 ·rcases hspl with rfl|rfl <;> cases h
 -- the first step is not the last
 obtain⟨M,rfl⟩:∃M,N=M+1:=by
  cases N with
  | zero=>
   exfalso;have hn:0<s.cells.length:=by have:=bF hE;unfold bW at this;omega
   have h0:=hdn 0 hn;have e:at_ (advN s r 0 b).lo.cure 0=0:=by
    show at_ b.lo.cure 0=0;rw [hcu0];exact bQ hn
   rw [e]at h0;exact h0 (lJ hE hn).1
  | succ M=>exact⟨M,rfl⟩
 have hslow:=aKe hE (hbef M (yj M))
 -- the state at the start
 have n9l:n9=l.length:=hl.1;have emod:∃m:Nat,Int.tmod ((n9:Nat):Int) 11=((m:Nat):Int)∧m≤10:=⟨n9 % 11,rfl,oq⟩;obtain⟨m,em,hm⟩:=emod;rw [em];refine bK oz oz fun k30 z30 u30 w30=>⟨z30,w30.seg,rfl,?_⟩;refine aEs (by unfold In64;omega) (by unfold In64;decide) fun k32 z32 u32 w32=>⟨z32,w32.seg,rfl,?_⟩;refine dI (w30.up u32) w32 oz oz oz oz fun k34 z34 u34 w34=>⟨z34,w34.seg,rfl,?_⟩;have et:((20:Int):Rat)+ofQ ((m:Nat):Int) 1=((20+(m:Int):Int):Rat):=by
  unfold ofQ;rw [oh oz,Rat.intCast_add,uj];show _+_*((1:Rat))⁻¹=_;rw [Rat.inv_eq_of_mul_eq_one (show (1:Rat)*1=1 by decide +kernel),Rat.mul_one]
 rw [et]at w34;have gt:Grd 255 ((20+(m:Int):Int):Rat):=⟨(20+(m:Int))*255,by rw [zy];rfl⟩;have g0:=hgs _ gt (vv.2 oq) (vv.2 oq);generalize ((20+(m:Int):Int):Rat)=t at w34 g0 gt;have v34:=u24.trans (u30.trans (u32.trans u34));refine mG (K:=5) (SecV.up P5 hs v34) (w34.mono oz) oz oz fun k36 D0 x0 y0 D1 x1 y1 D2 x2 y2 u36 hx=>⟨_,_,_,_,_,_,_,_,_,_,rfl,?_⟩;rw [hE,lN rfl]at hx;rw [hE];replace hx:=StateV.cutS hx g0.tru.size fun i hi=>g0.tru.wd oz hi;have v36:=v34.trans u36;refine aGg (n:=M+1) (hl19.kept v36) (RangeV.up P1 hr19 v36) hi oq fun k38 H0 hh0 H1 hh1 us vs u38 hu hv hh=>⟨_,_,_,_,_,_,rfl,?_⟩;have v38:=v36.trans u38;refine aPo (r:=r) (n:=M+1) hS (SecV.up P5 hs v38) (StateV.up P4 hx u38) hu hv g0.tru oq hh fun k40 D3 x3 y3 D4 x4 y4 D5 x5 y5 u40 hx'=>⟨_,_,_,_,_,_,_,_,_,_,rfl,no,fun _=>⟨no,fun _=>?_⟩⟩;have g1:=g0.next hS hi hh;have v40:=v38.trans u40;generalize oB s us vs (M+1) (aQ s t)=xe at hx' g1;have g1i:=g1.inside;have g1e:=g1.enc;have g1t:=g1.tru;refine oV (StateV.up P149 fl v40) (StateV.up P149 fh v40) hx' oz oz oz oz (rA hc24 g1t.size) fun k44 u44=>⟨_,rfl,fun h=>absurd g1i (by simpa using h),fun _=>⟨rfl,?_⟩⟩;have en:=hs.cells.1;have ec:=hx'.cure.1;have es:=hx'.spoil.1;obtain⟨_,z4,z5⟩:=id g1t.size;refine⟨fun m k vs=>∃j:Nat,j+m=b1∧vs=[.int .i64 j],⟨b1,fun k46 u46=>⟨0,oq,rfl⟩⟩,?_⟩;rintro mm k46 _ u46 ⟨j,hj,rfl⟩;have v46:=v40.trans (u44.trans u46);have w46:=u44.trans u46;have hs46:=SecV.up P5 hs v46;refine⟨_,rfl,fun hlt=>?_,fun hge=>?_⟩
 ·have hlt:=aL hlt;have hjn:j<s.cells.length:=oq
  obtain⟨_,_,⟨y0,y1,y2,rfl,q0,q1,q2⟩,ha,hb,hrd,_⟩:=hs46.cells.el hjn oz;obtain⟨t1,_,ht,ta,tb,tr,_⟩:=(StateV.up P4 hx' w46).cure.el (i:=j) oq oz;obtain⟨t2,_,ht',ta',tb',tr',_⟩:=(StateV.up P4 hx' w46).spoil.el (i:=j) oq oz;obtain⟨hm0,hm1,_⟩:=gD hE hjn;have hmi:(at_ s.cells j).m=(((at_ s.cells j).m.toNat:Nat):Int):=oq
  obtain⟨_,_,⟨D,p1,r1,F,p2,r2,c4,c5,rfl,l0,l1,s0,s1⟩,ha',hb',hr',_⟩:=hs46.mats.el (i:=(at_ s.cells j).m.toNat) oq oz;rw [←hmi]at hb' hr';have hdj:¬ at_ xe.cure j<sN s j:=fun h=>hdn j hjn (by have:=g1e.1.cure j hjn;grind);refine⟨ha,hb,_,y0,q0.seg,y1,q1.seg,y2,q2.seg,hrd k46 (Up.refl _),ha',hb',D,p1,r1,F,p2,r2,c4,s0.seg,c5,s1.seg,hr' k46 (Up.refl _),ta,tb,t1,ht.seg,tr k46 (Up.refl _),?_⟩;refine xF ht s0 oz oz oz fun k48 u48=>⟨_,rfl,fun f=>absurd (aPb.1 (ow f)) hdj,fun _=>⟨fun e0=>?_,fun _ k54 u54=>?_⟩⟩
  ·have hsj:¬ kO s j<at_ xe.spoil j:=fun h=>hsafe (eq_of_beq e0) fun c=>c j hjn (by have:=g1e.2.spoil j hjn;grind);refine⟨ta',tb',t2,ht'.seg,tr' k48 u48,?_⟩;refine xF (ht'.up u48) (s1.up u48) oz oz oz fun k51 u51=>⟨_,rfl,fun f=>absurd (aVe.1 (ow f)) hsj,fun _ k53 u53=>?_⟩;exact⟨mm-1,oq,j+1,oq,by rw [aH oq]⟩
  ·exact⟨mm-1,oq,j+1,oq,by rw [aH oq]⟩
 have eslow:aGe s b r (M+1)=((fA s (advN s r M b).lo:Nat):Int):=rfl;rw [eslow];refine⟨fun h=>absurd (eq_of_beq h) oq,fun _=>⟨fun h=>absurd (ow h) oq,fun _=>⟨rfl,fun h=>absurd (ow h) oq,fun _=>?_⟩⟩⟩;have em1:wrap .i64 (((M+1:Nat):Int)-1)=((M:Nat):Int):=by rw [jp];omega
 rw [em1];have hr46:=RangeV.up P1 hr19 v46;have hib:=aOn hi.ok;have hi2:IR ⟨r.s0,r.s0,r.a0,r.a0⟩:=by
  obtain⟨⟨a,b,q1,q2,q3,q4,q5⟩,c,d,p1,p2,p3,p4,p5⟩:=hi;exact⟨⟨a,a,q1,q1,q3,oq,oq⟩,⟨c,c,p1,p1,p3,oq,oq⟩⟩
 refine aGg (n:=M) (l:=[]) (A0:=none) (n0:=0) (d0:=0) (r:=⟨r.s0,r.s0,r.a0,r.a0⟩) .nil ⟨hr46.s0,hr46.s0,hr46.a0,hr46.a0⟩ hi2 oq fun k59 H2 hh2 H3 hh3 us' vs' u59 hu' hv' hh'=>⟨_,_,_,_,_,_,rfl,?_⟩;have hh'':∀i,i<M→His r.s0 r.s1 (at_ us' i)∧His r.a0 r.a1 (at_ vs' i):=fun i hi=>⟨(hh' i hi).1.wide hib.1,(hh' i hi).2.wide hib.2⟩;refine bK oz oz fun k61 z61 u61 w61=>⟨z61,w61.seg,rfl,?_⟩;have v61:=v46.trans (u59.trans u61);refine mG (K:=5) (SecV.up P5 hs v61) (w61.mono oz) oz oz fun k63 D6 x6 y6 D7 x7 y7 D8 x8 y8 u63 hy=>⟨_,_,_,_,_,_,_,_,_,_,rfl,?_⟩;rw [hE,lN rfl]at hy;rw [hE];replace hy:=StateV.cutS hy g00.tru.size fun i hi=>g00.tru.wd oz hi;intro p k64 u64 hB k65 u65;have v65:=v61.trans (u63.trans (u64.trans u65));have hP:=(aJd (r:=r) (K:=1) (hB.up u65) (RangeV.up P1 hr46 (u59.trans (u61.trans (u63.trans (u64.trans u65))))));refine aKk (W:=149) hS (SecV.up P5 hs v65) (StateV.up P5 el19 v65) (StateV.up P5 eh19 v65) hP ho hA hi oq oz oz oq (fun k66 GG0 gg0 aa0 GG1 gg1 aa1 GG2 gg2 aa2 GG3 gg3 aa3 GG4 gg4 aa4 GG5 gg5 aa5 u66 el' eh'=>⟨_,_,_,_,_,_,_,_,_,_,_,_,_,_,_,_,_,_,_,rfl,?_⟩) k65 (Up.refl _);have v66:=v65.trans u66;refine aPo (r:=r) (n:=M) hS (SecV.up P5 hs v66) (StateV.up P4 hy (u64.trans (u65.trans u66))) (hu'.up (u61.trans (u63.trans (u64.trans (u65.trans u66)))) fun _ _ h=>h.up (u61.trans (u63.trans (u64.trans (u65.trans u66))))) (hv'.up (u61.trans (u63.trans (u64.trans (u65.trans u66)))) fun _ _ h=>h.up (u61.trans (u63.trans (u64.trans (u65.trans u66))))) g00.tru oq hh'' fun k68 D9 x9 y9 D10 x10 y10 D11 x11 y11 u68 hy'=>⟨_,_,_,_,_,_,_,_,_,_,rfl,no,fun _=>⟨no,fun _=>⟨no,fun _=>?_⟩⟩⟩;have g2:=g00.next hS hi hh'';generalize oB s us' vs' M (aQ s ((20:Int):Rat))=xf at hy' g2;refine oV (StateV.up P149 el' u68) (StateV.up P149 eh' u68) hy' oz oz oz oz (rA hc24 g2.tru.size) fun k73 u73=>⟨_,rfl,fun h=>absurd g2.inside (by simpa using h),fun _=>?_⟩;have v73:=v66.trans (u68.trans u73);have hs73:=SecV.up P5 hs v73;have elc:=(StateV.up P149 el' (u68.trans u73)).cure;have hzz:=g2.ok.lo.2.1;generalize fA s (advN s r M b).lo=j at *
 obtain⟨hjn,hjl⟩:=hslow;obtain⟨t3,_,ht3,ta3,tb3,tr3,_⟩:=elc.el (i:=j) oq oz;obtain⟨_,_,_,ha,hb,_⟩:=hs73.cells.el hjn oz;obtain⟨_,_,⟨y0,y1,y2,rfl,q0,q1,q2⟩,_,hrd⟩:=hs73.cells.2.el (i:=j) oq oz;have hcr:=oT (a:=(Value.int .i64 (at_ s.cells j).m :: (y0.toList++(y1.toList++(y2.toList++[])))).toArray) (v:=.int .i64 (at_ s.cells j).m) (j:=0) rfl rfl;obtain⟨hm0,hm1,_⟩:=gD hE hjn;have hmi:(at_ s.cells j).m=(((at_ s.cells j).m.toNat:Nat):Int):=oq
 obtain⟨_,_,⟨D,p1,r1,F,p2,r2,c4,c5,rfl,l0,l1,s0,s1⟩,ha',hb',_,hr'⟩:=hs73.mats.el (i:=(at_ s.cells j).m.toNat) oq oz;rw [←hmi]at hb' hr';refine⟨ta3,tb3,t3,ht3.seg,tr3 k73 (Up.refl _),ha,hb,ha,hb,(at_ s.cells j).m,?_,ha',hb',ha',hb',c4,s0.seg,hr' k73 c4 2 3 (Up.refl _) s0.seg.1 aSc,?_⟩
 ·exact hrd k73 (Up.refl _) 0 1 _ hcr.1 hcr.2
 refine xF ht3 s0 oz oz oz fun k76 u76=>⟨_,rfl,fun _=>aw k76 (cc.trans (v73.trans u76)),fun f=>absurd (aPb.2 hjl) (ov f)⟩
end
