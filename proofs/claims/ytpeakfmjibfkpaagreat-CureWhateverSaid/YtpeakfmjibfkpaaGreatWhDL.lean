/- Several texts in one. (Printed by prep.py.) -/
import Derived.Test.YtpeakfmjibfkpaaGreatWhFB
import Derived.Test.YtpeakfmjibfkpaaGreatWhVWH
import Derived.Test.YtpeakfmjibfkpaaGreatWhCZ2
namespace Go.Proofs.YtpeakfmjibfkpaaGreat
open Go.RowKit Num W32
open Sy (Up Sees CallsG Seg)
structure PBand where
 (lo hi:PState)
structure PRange where
 (s0 s1 a0 a1:Rat)
def fD (q:Rat):Rat:=nG q 40
def kX (q:Rat):Rat:=-nG (-q) 40
def cE (r:Rat→Rat) (s:PSec) (x:PState) (u v:Rat):PState where
 temp:=(List.range s.cells.length).map fun i=>r (eS s x u v i)
 cure:=(List.range s.cells.length).map (rQ s x)
 spoil:=(List.range s.cells.length).map (lS s x)
def cG (s:PSec) (b:PBand) (r:PRange):PBand:=⟨cE fD s b.lo r.s0 r.a0,cE kX s b.hi r.s1 r.a1⟩
theorem sI {r:Rat→Rat}{s:PSec}{x:PState}{u v:Rat}:sized s (cE r s x u v):=by simp [sized,cE]
def btw (lo x hi:List Rat):Prop:=lo.length=x.length∧hi.length=x.length∧∀i,i<x.length→¬ at_ x i<at_ lo i∧¬ at_ hi i<at_ x i
instance (lo x hi:List Rat):Decidable (btw lo x hi):=by unfold btw;exact inferInstance
def dK (b:PBand) (x:PState):Prop:=btw b.lo.temp x.temp b.hi.temp∧btw b.lo.cure x.cure b.hi.cure∧btw b.lo.spoil x.spoil b.hi.spoil
instance (b:PBand) (x:PState):Decidable (dK b x):=by unfold dK;exact inferInstance
def bBh (x y:List Rat):Prop:=∃i,i<x.length∧at_ y i<at_ x i
def gU (x y:List Rat):Prop:=∀i,i<x.length→¬ at_ y i<at_ x i
instance (x y:List Rat):Decidable (gU x y):=by unfold gU;exact inferInstance
def alike (x y:PState):Prop:=x.temp.length=y.temp.length∧x.cure.length=y.cure.length∧x.spoil.length=y.spoil.length
instance (x y:PState):Decidable (alike x y):=by unfold alike;exact inferInstance
def fU (x y:PState):Prop:=alike x y∧gU x.temp y.temp∧gU x.cure y.cure∧gU x.spoil y.spoil
instance (x y:PState):Decidable (fU x y):=by unfold fU;exact inferInstance
theorem uH {b:PBand}{x:PState}:dK b x↔fU b.lo x∧fU x b.hi:=by
 constructor
 ·rintro⟨⟨a1,a2,a3⟩,⟨b1,b2,b3⟩,c1,c2,c3⟩;exact⟨⟨⟨a1,b1,c1⟩,fun i hi=>(a3 i oq).1,fun i hi=>(b3 i oq).1,fun i hi=>(c3 i oq).1⟩,⟨a2.symm,b2.symm,c2.symm⟩,fun i hi=>(a3 i hi).2,fun i hi=>(b3 i hi).2,fun i hi=>(c3 i hi).2⟩
 ·rintro⟨⟨⟨a1,b1,c1⟩,a3,b3,c3⟩,⟨a2,b2,c2⟩,a4,b4,c4⟩;exact⟨⟨a1,a2.symm,fun i hi=>⟨a3 i oq,a4 i hi⟩⟩,⟨b1,b2.symm,fun i hi=>⟨b3 i oq,b4 i hi⟩⟩,c1,c2.symm,fun i hi=>⟨c3 i oq,c4 i hi⟩⟩
theorem aGt {x:PState}:fU x x:=⟨⟨rfl,rfl,rfl⟩,fun _ _=>Rat.lt_irrefl,fun _ _=>Rat.lt_irrefl,fun _ _=>Rat.lt_irrefl⟩
theorem xL {b:PBand}:dK b b.lo↔fU b.lo b.hi:=by
 rw [uH];exact⟨fun h=>h.2,fun h=>⟨aGt,h⟩⟩
def eA (s:PSec) (b:PBand):Int:=if dJ s b.lo≠0 then dJ s b.lo else if ¬ sized s b.hi then 4 else if ¬ fU b.lo b.hi then 7 else 0
def dH (r:PRange):Int:=if r.s1<r.s0∨r.a1<r.a0 then 7 else 0
def fL (s:PSec) (b:PBand) (r:PRange):Int:=if eA s b≠0 then eA s b else dH r
def dD (s:PSec) (lo hi:Rat):Int:=if aI s≠0 then aI s else if hi<lo then 7 else 0
def eD (s:PSec) (lo hi:Rat):PBand:=⟨aO s lo,aO s hi⟩
def tC:PState:=⟨[],[],[]⟩
def fQ (e:Int) (b:PBand):PBand:=if e≠0 then ⟨tC,tC⟩ else b
theorem oA {s:PSec}{b:PBand}(h:eA s b=0):aI s=0∧sized s b.lo∧sized s b.hi∧fU b.lo b.hi:=by
 unfold eA at h;split at h
 ·rename_i h1;exact absurd h h1
 ·rename_i h1;obtain⟨h2,h3⟩:=sV (Decidable.not_not.1 h1);split at h
  ·cases h
  ·rename_i h4;split at h
   ·cases h
   ·rename_i h5;exact⟨h2,h3,Decidable.not_not.1 h4,Decidable.not_not.1 h5⟩
theorem aNn {s:PSec}{b:PBand}{r:PRange}(h:fL s b r=0):eA s b=0:=by
 unfold fL at h;split at h
 ·rename_i h1;exact absurd h h1
 ·rename_i h1;exact Decidable.not_not.1 h1
structure StateW (N N':World→Array Value→Rat→Prop) (k:World) (A:Option Addr) (n:Nat) (B:Option Addr) (n':Nat) (C:Option Addr) (n'':Nat) (x:PState):Prop where
 temp:Lst k A n 3 (N k) x.temp
 cure:Lst k B n' 3 (N' k) x.cure
 spoil:Lst k C n'' 3 (N' k) x.spoil
theorem StateW.up {N N':World→Array Value→Rat→Prop}(hN:Num3 N) (hN':Num3 N') {k k':World}{A B C:Option Addr}{n n' n'':Nat}{x:PState}(h:StateW N N' k A n B n' C n'' x) (u:Up k k'):StateW N N' k' A n B n' C n'' x:=
 ⟨h.temp.up u fun _ _ h=>hN.up h u,h.cure.up u fun _ _ h=>hN'.up h u,h.spoil.up u fun _ _ h=>hN'.up h u⟩
section
variable {k k':World}{R:World→Value→Prop}{cs cs':Array Value}{u v q:Rat}{s:PSec}{x:PState}{K T d n0 n1 n2 d0 d1 d2 n3 n4 n5 d3 d4 d5 n6 d6 n7 d7 M:Nat}{A0 A1 A2 A3 A4 A5 A6 A7:Option Addr}
theorem aOd (hx:RatV k cs q K) (hK1:1≤K) (hK:K≤100000) (C:∀k' ds,Up k k'→RatV k' ds (fD q) (K+1001)→R k' (.agg ds)) :
 Cl k 115 #[.agg cs] R:=by
 intro k0 u0;refine aJg hx.seg (aAt (m:=40) (hx.up u0) hK1 hK fun k1 ds u1 h=>⟨ds,h.seg,rfl,fun k2 u2=>?_⟩);exact C k2 ds ((u0.trans u1).trans u2) (h.up u2)
theorem aTe (hx:RatV k cs q K) (hK1:1≤K) (hK:K≤100000) (C:∀k' ds,Up k k'→RatV k' ds (kX q) (K+1001)→R k' (.agg ds)) :
 Cl k 116 #[.agg cs] R:=by
 intro k0 u0;refine aNy hx.seg (aSz (m:=40) (hx.up u0) hK1 hK fun k1 ds u1 h=>⟨ds,h.seg,rfl,fun k2 u2=>?_⟩);exact C k2 ds ((u0.trans u1).trans u2) (h.up u2)
set_option maxHeartbeats 1000000 in
theorem aBo {f:FuncId}{rnd:Rat→Rat}(hvc:aNl f) (hf:∀ {k:World}{cs:Array Value}{q:Rat}{K:Nat}{R:World→Value→Prop},RatV k cs q K→1≤K→K≤100000→(∀k' ds,Up k k'→RatV k' ds (rnd q) (K+1001)→R k' (.agg ds))→∀k0,Up k k0→CallsG Tryz.prog f #[.agg cs] k0 R) (hs:SecV (NP K) k A0 n0 A1 n1 A2 n2 s) (hx:StateV (NP T) k A3 n3 A4 n4 A5 n5 x) (hM:NbV (NP K) k M s.links) (hu:RatV k cs u K) (hv:RatV k cs' v K) (hE:aI s=0) (hz:sized s x)
 (hd:∀i,i<s.cells.length→(nbm s.links (i:Nat)).length≤d) (hK1:1≤K) (hT1:1≤T) (hT:aK K d T≤90000) (hd2:d≤128)
 (C:∀k' B0 m0 e0 B1 m1 e1 B2 m2 e2,Up k k'→StateW (NP (aK K d T+1001)) (NP (T+K+1)) k' B0 m0 B1 m1 B2 m2 (cE rnd s x u v)→R k' (S3 B0 m0 e0 B1 m1 e1 B2 m2 e2)) :
 Cl k 92 #[.agg #[.slice A0 n0 d0,.slice A1 n1 d1,.slice A2 n2 d2,.map (some M)],S3 A3 n3 d3 A4 n4 d4 A5 n5 d5,.agg cs,.agg cs',.func (.func f) #[] #[]] R:=by
 intro k0 u0;have hN:=aF K;have hNT:=aF T;replace hs:=SecV.up hN hs u0;replace hx:=StateV.up hNT hx u0;replace hM:=NbV.up hN hM u0;replace hu:=hu.up u0;replace hv:=hv.up u0;replace C:=fun k' B0 m0 e0 B1 m1 e1 B2 m2 e2 u=>C k' B0 m0 e0 B1 m1 e1 B2 m2 e2 (u0.trans u);clear u0;have e1:=hs.cells.1;obtain⟨z3,z4,z5⟩:=hz;have f3:=hx.temp.1;have f4:=hx.cure.1;have f5:=hx.spoil.1;have hn24:n1≤24:=by have:=bI hE;unfold bM at this;omega
 have hW:3*T+5*K+4≤300000000:=by unfold aK at hT;omega
 have hup:∀ {W:Nat}{k k':World}{xs:Array Value}{j:Nat}{f:Nat→Rat},Up k k'→ArrV j 3 (NP W k) xs f→ArrV j 3 (NP W k') xs f:=fun u h=>h.mono fun _ _ h=>h.up u;have hseg:∀ {W:Nat}{k:World},∀a v,NP W k a v→Seg 3 a:=fun _ _ h=>h.seg
 refine hvc hu.seg hv.seg ⟨rfl,fun m k vs=>∃(j:Nat) (B0 B1 B2:Option Addr) (e0 e1 e2:Nat) (x0 x1 x2:Array Value),j+m=n1∧vs=[.int .i64 j,.tuple #[.slice B0 j e0,.agg x0],.tuple #[.slice B1 j e1,.agg x1],.tuple #[.slice B2 j e2,.agg x2]]∧
  ArrV j 3 (NP (aK K d T+1001) k) x0 (at_ (cE rnd s x u v).temp)∧ArrV j 3 (NP (T+K+1) k) x1 (at_ (cE rnd s x u v).cure)∧ArrV j 3 (NP (T+K+1) k) x2 (at_ (cE rnd s x u v).spoil),
  ⟨n1,fun k1 u1=>⟨0,_,_,_,_,_,_,_,_,_,oq,rfl,ArrV.empty,ArrV.empty,ArrV.empty⟩⟩,?_⟩
 rintro m k1 vs u1 ⟨j,B0,B1,B2,g0,g1,g2,x0,x1,x2,hj,rfl,h0,h1,h2⟩;refine⟨j,B0,j,g0,x0,h0.rowC hseg,B1,j,g1,x1,h1.rowC hseg,B2,j,g2,x2,h2.rowC hseg,rfl,fun hlt=>?_,fun hge k2 u2 r0 k3 u3 r1 k4 u4 r2 k5 u5=>?_⟩
 ·have hlt:=aH hlt;have hjn:j<s.cells.length:=oq
  replace hs:=SecV.up hN hs u1;replace hx:=StateV.up hNT hx u1;replace hM:=NbV.up hN hM u1;replace hu:=hu.up u1;replace hv:=hv.up u1;replace C:=fun k' B0 m0 e0 B1 m1 e1 B2 m2 e2 u=>C k' B0 m0 e0 B1 m1 e1 B2 m2 e2 (u1.trans u);obtain⟨a,_,⟨c0,c1,c2,rfl,q0,q1,q2⟩,ha,hb,hr,_⟩:=hs.cells.el (i:=j) hjn oz;obtain⟨t,_,ht,ta,tb,tr,_⟩:=hx.temp.el (i:=j) oq oz;obtain⟨hm0,hm1,_⟩:=mC hE hjn;have tT1:1≤K+T+1:=oq
  refine⟨ha,hb,_,c0,q0.seg,c1,q1.seg,c2,q2.seg,hr k1 (Up.refl _),ta,tb,t,ht.seg,tr k1 (Up.refl _),?_⟩;refine pV hu ht hK1 hT1 oq oq fun k2 y2 u2 w2=>⟨y2,w2.seg,rfl,?_⟩;refine pU (q1.up u2) w2 hK1 oq oq oq fun k4 y4 u4 w4=>⟨y4,w4.seg,rfl,?_⟩;refine pV ((hv.up u2).up u4) ((ht.up u2).up u4) hK1 hT1 oq oq fun k6 y6 u6 w6=>⟨y6,w6.seg,rfl,?_⟩;refine pU (((q2.up u2).up u4).up u6) w6 hK1 oq oq oq fun k8 y8 u8 w8=>⟨y8,w8.seg,rfl,?_⟩;refine gJ ((w4.up u6).up u8) w8 oq oq oq oq fun k10 y10 u10 w10=>⟨y10,w10.seg,rfl,?_⟩;have v10:=(((u2.trans u4).trans u6).trans u8).trans u10;replace hs:=SecV.up hN hs v10;replace hx:=StateV.up hNT hx v10;replace hM:=NbV.up hN hM v10;replace C:=fun k' B0 m0 e0 B1 m1 e1 B2 m2 e2 u=>C k' B0 m0 e0 B1 m1 e1 B2 m2 e2 (v10.trans u);replace ht:=ht.up v10;replace q0:=q0.up v10;replace h0:=hup v10 h0;replace h1:=hup v10 h1;replace h2:=hup v10 h2;clear v10 u2 u4 u6 u8 u10 w2 w4 w6 w8 q1 q2 hr tr hu hv;obtain⟨B,p,q,hlook,hl⟩:=hM j oq;have hp:=hl.1;have hpd:=hd j hjn
  refine⟨B,p,q,hlook,rfl,fun m k vs=>∃(i:Nat) (ds:Array Value),i+m=p∧vs=[.int .i64 i,.agg ds]∧
   RatV k ds (((nbm s.links j).take i).foldl (fun t l=>t+l.v*(at_ x.temp (l.a+l.b-(j:Int)).toNat-at_ x.temp j)) ((at_ s.cells j).steam*(u-at_ x.temp j)+(at_ s.cells j).air*(v-at_ x.temp j))) (4*K+2*T+3+i*(K+2*T+2)),
   ⟨p,fun k1 u1=>⟨0,y10,oq,rfl,(w10.up u1).mono oq⟩⟩,?_⟩
  rintro m' k11 vs u11 ⟨i,es,hi,rfl,he⟩;have hmul:i*(K+2*T+2)≤d*(K+2*T+2):=Nat.mul_le_mul_right _ oq;have hW2:3*T+5*K+4+i*(K+2*T+2)≤300000000:=by unfold aK at hT;omega
  refine⟨i,es,he.seg,rfl,fun hlt'=>?_,fun hge'=>?_⟩
  ·have hlt':=aH hlt';obtain⟨a,_,hlk,ha,hb,hr,_⟩:=(hl.up u11 fun _ _ h=>LinkV.up hN h u11).el (i:=i) oq oz;obtain⟨c3,rfl,g3⟩:=id hlk;have hmem:at_ (nbm s.links j) i∈nbm s.links j:=aEc oq;obtain⟨o,eo,ho⟩:=aCp hE hjn hmem;obtain⟨⟨l1,l2⟩,l3,l4⟩:=dP (cZ hE) _ (gT hmem).1;refine⟨ha,hb,_,_,c3,g3.seg,hr k11 (Up.refl _),aBk hlk l1 oq l3 oq oq fun k13 u13=>⟨_,rfl,?_⟩⟩;rw [eo];obtain⟨t',_,ht',ta',tb',tr',_⟩:=hx.temp.el (i:=o) oq oz;refine⟨ta',tb',t',ht'.seg,tr' k13 (u11.trans u13),?_⟩;refine pV ((ht'.up u11).up u13) ((ht.up u11).up u13) hT1 hT1 oq oq fun k15 y15 u15 w15=>⟨y15,w15.seg,rfl,?_⟩;refine pU ((g3.up u13).up u15) w15 hK1 oq oq oq fun k17 y17 u17 w17=>⟨y17,w17.seg,rfl,?_⟩;have hW3:4*K+2*T+3+i*(K+2*T+2)≤300000000:=oq
   refine gJ (((he.up u13).up u15).up u17) w17 oq oq hW3 oq fun k19 y19 u19 w19=>⟨y19,w19.seg,rfl,fun k20 u20=>⟨m'-1,oq,i+1,y19,oq,by rw [aD oq],?_⟩⟩;rw [rC oq,eo,Int.toNat_natCast];exact (w19.up u20).mono (by have:(i+1)*(K+2*T+2)=i*(K+2*T+2)+(K+2*T+2):=Nat.succ_mul _ _;omega)
  ·have hge':=aG hge';rw [List.take_of_length_le oq]at he;have hflow:RatV k11 es (flow s x u v j) (4*K+2*T+3+i*(K+2*T+2)):=he;clear he hlook hl;replace hs:=SecV.up hN hs u11;replace hx:=StateV.up hNT hx u11;replace C:=fun k' B0 m0 e0 B1 m1 e1 B2 m2 e2 u=>C k' B0 m0 e0 B1 m1 e1 B2 m2 e2 (u11.trans u);replace ht:=ht.up u11;replace q0:=q0.up u11;replace h0:=hup u11 h0;replace h1:=hup u11 h1;replace h2:=hup u11 h2;have hmi:(at_ s.cells j).m=(((at_ s.cells j).m.toNat:Nat):Int):=oq
   obtain⟨a,_,⟨D,p1,r1,F,p2,r2,c4,c5,rfl,l0,l1,s0,s1⟩,ha',hb',hr',_⟩:=hs.mats.el (i:=(at_ s.cells j).m.toNat) oq oz;obtain⟨hr1,hr2⟩:=aFq hE (i:=(at_ s.cells j).m.toNat) oq;rw [←hmi]at hb' hr';refine⟨ha',hb',D,p1,r1,F,p2,r2,c4,s0.seg,c5,s1.seg,hr' k11 (Up.refl _),?_⟩;refine aOj hflow q0 oq hK1 oq oq fun k22 y22 u22 w22=>⟨y22,w22.seg,rfl,?_⟩;refine gJ (ht.up u22) w22 hT1 oq oq oq fun k24 y24 u24 w24=>⟨y24,w24.seg,rfl,?_⟩;refine hf w24 oq (by unfold aK at hT;omega) fun k26 y26 u26 w26=>⟨y26,w26.seg,rfl,by simp [w26.seg.1],oz,⟨by simp;omega,by simp;omega⟩,?_⟩;rintro B0' _ g0' _ rfl rfl _;have v26:=(u22.trans u24).trans u26;have w24':=w26;replace ht:=ht.up v26;replace l0:=aQ hN l0 v26;replace l1:=aQ hN l1 v26;replace hx:=StateV.up hNT hx v26;replace C:=fun k' B0 m0 e0 B1 m1 e1 B2 m2 e2 u=>C k' B0 m0 e0 B1 m1 e1 B2 m2 e2 (v26.trans u);replace h0:=hup v26 h0;replace h1:=hup v26 h1;replace h2:=hup v26 h2;clear v26 u22 u24 u26 w22 w24 w26 hflow;obtain⟨t3,_,ht3,ta3,tb3,tr3,_⟩:=hx.cure.el (i:=j) oq oz;obtain⟨t4,_,ht4,ta4,tb4,tr4,_⟩:=hx.spoil.el (i:=j) oq oz;refine⟨ta3,tb3,t3,ht3.seg,tr3 k26 (Up.refl _),?_⟩;refine oG l0 ht hT1 oq oq (by rw [l0.1];have:=rates16 hr1;omega) fun k28 y28 u28 w28=>⟨y28,w28.seg,rfl,?_⟩;refine gJ (ht3.up u28) w28 hT1 hK1 oq oq fun k30 y30 u30 w30=>⟨y30,w30.seg,rfl,by simp [w30.seg.1],oz,⟨by simp;omega,by simp;omega⟩,?_⟩;rintro B1' _ g1' _ rfl rfl _;refine⟨ta4,tb4,t4,ht4.seg,tr4 k30 (u28.trans u30),?_⟩;refine oG (aQ hN (aQ hN l1 u28) u30) ((ht.up u28).up u30) hT1 oq oq (by rw [l1.1];have:=rates16 hr2;omega) fun k32 y32 u32 w32=>⟨y32,w32.seg,rfl,?_⟩;refine gJ (((ht4.up u28).up u30).up u32) w32 hT1 hK1 oq oq fun k34 y34 u34 w34=>⟨y34,w34.seg,rfl,by simp [w34.seg.1],oz,⟨by simp;omega,by simp;omega⟩,?_⟩;rintro B2' _ g2' _ rfl rfl _ k35 u35;have v34:=((u28.trans u30).trans u32).trans u34;have hpe:i=d∨i≤d:=Or.inr oq;have hi2:i*(K+2*T+2)≤d*(K+2*T+2):=hmul;refine⟨m-1,oq,j+1,B0',B1',B2',g0',g1',g2',_,_,_,oq,by rw [aD oq];rfl,?_,?_,?_⟩
   ·rw [List.append_nil];refine ArrV.push (hup (v34.trans u35) h0) w24'.seg.1 ?_;rw [show at_ (cE rnd s x u v).temp j=rnd (eS s x u v j) from aN hjn];exact ((w24'.up v34).up u35).mono (by unfold aK;omega)
   ·rw [List.append_nil];refine ArrV.push (hup (v34.trans u35) h1) w30.seg.1 ?_;rw [show at_ (cE rnd s x u v).cure j=rQ s x j from aN hjn];exact (((w30.up u32).up u34).up u35).mono oq
   ·rw [List.append_nil];refine ArrV.push (hup (v34.trans u35) h2) w34.seg.1 ?_;rw [show at_ (cE rnd s x u v).spoil j=lS s x j from aN hjn];exact (w34.up u35).mono oq
 ·have hge:=aG hge;have ej:j=n1:=oq
  refine C k5 _ _ _ _ _ _ _ _ _ ((((u1.trans u2).trans u3).trans u4).trans u5) ⟨?_,?_,?_⟩
  ·exact cY (by simp [cE];omega) (hup (((u2.trans u3).trans u4).trans u5) h0) hseg (bR r0 ((u3.trans u4).trans u5))
  ·exact cY (by simp [cE];omega) (hup (((u2.trans u3).trans u4).trans u5) h1) hseg (bR r1 (u4.trans u5))
  ·exact cY (by simp [cE];omega) (hup (((u2.trans u3).trans u4).trans u5) h2) hseg (bR r2 u5)
theorem aOn (hs:SecV (NP K) k A0 n0 A1 n1 A2 n2 s) (hx:StateV (NP T) k A3 n3 A4 n4 A5 n5 x) (hM:NbV (NP K) k M s.links) (hu:RatV k cs u K) (hv:RatV k cs' v K) (hE:aI s=0) (hz:sized s x)
 (hd:∀i,i<s.cells.length→(nbm s.links (i:Nat)).length≤d) (hK1:1≤K) (hT1:1≤T) (hT:aK K d T≤90000) (hd2:d≤128)
 (C:∀k' B0 m0 e0 B1 m1 e1 B2 m2 e2,Up k k'→StateW (NP (aK K d T+1001)) (NP (T+K+1)) k' B0 m0 B1 m1 B2 m2 (cE fD s x u v)→R k' (S3 B0 m0 e0 B1 m1 e1 B2 m2 e2)) :
 Cl k 92 #[.agg #[.slice A0 n0 d0,.slice A1 n1 d1,.slice A2 n2 d2,.map (some M)],S3 A3 n3 d3 A4 n4 d4 A5 n5 d5,.agg cs,.agg cs',.func (.func 115) #[] #[]] R:=
 aBo aJs aOd hs hx hM hu hv hE hz hd hK1 hT1 hT hd2 C
theorem aOm (hs:SecV (NP K) k A0 n0 A1 n1 A2 n2 s) (hx:StateV (NP T) k A3 n3 A4 n4 A5 n5 x) (hM:NbV (NP K) k M s.links) (hu:RatV k cs u K) (hv:RatV k cs' v K) (hE:aI s=0) (hz:sized s x)
 (hd:∀i,i<s.cells.length→(nbm s.links (i:Nat)).length≤d) (hK1:1≤K) (hT1:1≤T) (hT:aK K d T≤90000) (hd2:d≤128)
 (C:∀k' B0 m0 e0 B1 m1 e1 B2 m2 e2,Up k k'→StateW (NP (aK K d T+1001)) (NP (T+K+1)) k' B0 m0 B1 m1 B2 m2 (cE kX s x u v)→R k' (S3 B0 m0 e0 B1 m1 e1 B2 m2 e2)) :
 Cl k 92 #[.agg #[.slice A0 n0 d0,.slice A1 n1 d1,.slice A2 n2 d2,.map (some M)],S3 A3 n3 d3 A4 n4 d4 A5 n5 d5,.agg cs,.agg cs',.func (.func 116) #[] #[]] R:=
 aBo aJr aTe hs hx hM hu hv hE hz hd hK1 hT1 hT hd2 C
end
structure RangeV (N:World→Array Value→Rat→Prop) (k:World) (c0 c1 c2 c3:Array Value) (r:PRange):Prop where
 s0:N k c0 r.s0
 s1:N k c1 r.s1
 a0:N k c2 r.a0
 a1:N k c3 r.a1
theorem RangeV.up {N:World→Array Value→Rat→Prop}(hN:Num3 N) {k k':World}{c0 c1 c2 c3:Array Value}{r:PRange}(h:RangeV N k c0 c1 c2 c3 r) (u:Up k k'):RangeV N k' c0 c1 c2 c3 r:=⟨hN.up h.s0 u,hN.up h.s1 u,hN.up h.a0 u,hN.up h.a1 u⟩
def lQ (x:PState):Prop:=x.temp.length≤1000000∧x.cure.length≤1000000∧x.spoil.length≤1000000
section
variable {k k':World}{R:World→Value→Prop}{c0 c1 c2 c3 cs cs':Array Value}{s:PSec}{b b':PBand}{x:PState}{r:PRange}{l0 l1 l2:List Rat}{u v:Rat}{K L T T' d M n0 n1 n2 d0 d1 d2 n3 n4 n5 d3 d4 d5 n6 d6 n7 d7 n8 d8 n9 d9 n10 d10 n11 d11:Nat}{A0 A1 A2 A3 A4 A5 A6 A7 A8 A9 A10 A11:Option Addr}
theorem aEi (h0:Lst k A0 n0 3 (NP K k) l0) (h1:Lst k A1 n1 3 (NP L k) l1) (h2:Lst k A2 n2 3 (NP K k) l2) (hK1:1≤K) (hL1:1≤L) (hK:K≤300000000) (hL:L≤300000000) (hn:l1.length≤1000000)
 (C:∀k',Up k k'→R k' (.bool (decide (btw l0 l1 l2)))) :
 Cl k 64 #[.slice A0 n0 d0,.slice A1 n1 d1,.slice A2 n2 d2] R:=by
 intro k0 u0;replace h0:=h0.up u0 fun _ _ h=>h.up u0;replace h1:=h1.up u0 fun _ _ h=>h.up u0;replace h2:=h2.up u0 fun _ _ h=>h.up u0;replace C:=fun k' u=>C k' (u0.trans u);have e0:=h0.1;have e1:=h1.1;have e2:=h2.1;have no:¬ btw l0 l1 l2→∀k',Up k0 k'→R k' (.bool false):=fun h k' u=>by have:=C k' u;rwa [decide_eq_false h]at this
 refine aTd ⟨rfl,rfl,fun a k1 u1=>no (fun h=>?_) k1 u1,fun a=>⟨rfl,rfl,fun c k1 u1=>no (fun h=>?_) k1 u1,fun c=>⟨rfl,?_⟩⟩⟩
 ·have:=h.1;simp at a;omega
 ·have:=h.2.1;simp at c;omega
 have a:n0=n1:=by simp at a;omega
 have c:n2=n1:=by simp at c;omega
 refine⟨fun m k vs=>∃j:Nat,j+m=n1∧vs=[.int .i64 j]∧∀i,i<j→¬ at_ l1 i<at_ l0 i∧¬ at_ l2 i<at_ l1 i,⟨n1,fun k1 u1=>⟨0,oq,rfl,fun i hi=>oq⟩⟩,?_⟩;rintro m k1 vs u1 ⟨j,hj,rfl,hz⟩;refine⟨j,rfl,fun hlt=>?_,fun hge k2 u2=>?_⟩
 ·have hlt:=aH hlt;obtain⟨y,_,gy,ya,yb,yr,_⟩:=(h1.up u1 fun _ _ h=>h.up u1).el (i:=j) oq oz;obtain⟨z,_,gz,za,zb,zr,_⟩:=(h0.up u1 fun _ _ h=>h.up u1).el (i:=j) oq oz;obtain⟨w,_,gw,wa,wb,wr,_⟩:=(h2.up u1 fun _ _ h=>h.up u1).el (i:=j) oq oz;refine⟨ya,yb,y,gy.seg,yr k1 (Up.refl _),za,zb,z,gz.seg,zr k1 (Up.refl _),eW gy gz hL1 hL hK fun k4 u4=>⟨_,rfl,fun f k5 u5=>no (fun h=>?_) k5 (u1.trans (u4.trans u5)),fun f=>⟨wa,wb,w,gw.seg,wr k4 u4,ya,yb,y,gy.seg,yr k4 u4,eW (gw.up u4) (gy.up u4) hK1 hK hL fun k7 u7=>⟨_,rfl,fun g k8 u8=>no (fun h=>?_) k8 (u1.trans (u4.trans (u7.trans u8))),fun g k9 u9=>?_⟩⟩⟩⟩
  ·exact (h.2.2 j oq).1 (ow f)
  ·exact (h.2.2 j oq).2 (ow g)
  ·exact⟨m-1,oq,j+1,oq,by rw [aD oq],cK hz ⟨ov f,ov g⟩⟩
 ·have hge:=aG hge;have:=C k2 (u1.trans u2)
  rwa [decide_eq_true (show btw l0 l1 l2 from⟨oq,oq,fun i hi=>hz i oq⟩)]at this
theorem jG (hl:StateV (NP K) k A0 n0 A1 n1 A2 n2 b.lo) (hh:StateV (NP K) k A3 n3 A4 n4 A5 n5 b.hi) (hx:StateV (NP L) k A6 n6 A7 n7 A8 n8 x) (hK1:1≤K) (hL1:1≤L) (hK:K≤300000000) (hL:L≤300000000) (hn:lQ x)
 (C:∀k',Up k k'→R k' (.bool (decide (dK b x)))) :
 Cl k 22 #[S6 A0 n0 d0 A1 n1 d1 A2 n2 d2 A3 n3 d3 A4 n4 d4 A5 n5 d5,S3 A6 n6 d6 A7 n7 d7 A8 n8 d8] R:=by
 intro k0 u0;have hN:=aF K;have hM:=aF L;replace hl:=StateV.up hN hl u0;replace hh:=StateV.up hN hh u0;replace hx:=StateV.up hM hx u0;replace C:=fun k' u=>C k' (u0.trans u);refine aEn (aEi hl.temp hx.temp hh.temp hK1 hL1 hK hL hn.1 fun k1 u1=>⟨_,rfl,fun f=>aEi (StateV.up hN hl u1).cure (StateV.up hM hx u1).cure (StateV.up hN hh u1).cure hK1 hL1 hK hL hn.2.1 fun k3 u3=>⟨_,rfl,fun g=>aEi (StateV.up hN hl (u1.trans u3)).spoil (StateV.up hM hx (u1.trans u3)).spoil (StateV.up hN hh (u1.trans u3)).spoil hK1 hL1 hK hL hn.2.2 fun k5 u5=>⟨_,rfl,fun k6 u6=>?_⟩,fun g k7 u7=>?_⟩,fun f k8 u8=>?_⟩)
 ·have:=C k6 ((u1.trans u3).trans (u5.trans u6))
  rwa [show decide (dK b x)=decide (btw b.lo.spoil x.spoil b.hi.spoil) from decide_eq_decide.2 ⟨fun h=>h.2.2,fun h=>⟨ow f,ow g,h⟩⟩]at this
 ·have:=C k7 ((u1.trans u3).trans u7)
  rwa [decide_eq_false fun h=>ov g h.2.1]at this
 ·have:=C k8 (u1.trans u8)
  rwa [decide_eq_false fun h=>ov f h.1]at this
theorem qI (hl:StateV (NP K) k A0 n0 A1 n1 A2 n2 b.lo) (hh:StateV (NP K) k A3 n3 A4 n4 A5 n5 b.hi) (hl':StateV (NP K) k A6 n6 A7 n7 A8 n8 b'.lo) (hh':StateV (NP K) k A9 n9 A10 n10 A11 n11 b'.hi) (hK1:1≤K) (hK:K≤300000000) (hn:lQ b.lo) (hn':lQ b.hi)
 (C:∀k',Up k k'→R k' (.bool (decide (dK b' b.lo∧dK b' b.hi)))) :
 Cl k 24 #[S6 A0 n0 d0 A1 n1 d1 A2 n2 d2 A3 n3 d3 A4 n4 d4 A5 n5 d5,S6 A6 n6 d6 A7 n7 d7 A8 n8 d8 A9 n9 d9 A10 n10 d10 A11 n11 d11] R:=by
 intro k0 u0;have hN:=aF K;refine aEr (jG (StateV.up hN hl' u0) (StateV.up hN hh' u0) (StateV.up hN hl u0) hK1 hK1 hK hK hn fun k1 u1=>⟨_,rfl,fun f=>jG (StateV.up hN hl' (u0.trans u1)) (StateV.up hN hh' (u0.trans u1)) (StateV.up hN hh (u0.trans u1)) hK1 hK1 hK hK hn' fun k3 u3=>⟨_,rfl,fun k4 u4=>?_⟩,fun f k5 u5=>?_⟩)
 ·have:=C k4 ((u0.trans u1).trans (u3.trans u4))
  rwa [show decide (dK b' b.lo∧dK b' b.hi)=decide (dK b' b.hi) from decide_eq_decide.2 ⟨fun h=>h.2,fun h=>⟨ow f,h⟩⟩]at this
 ·have:=C k5 ((u0.trans u1).trans u5)
  rwa [decide_eq_false fun h=>ov f h.1]at this
theorem aHh (hs:SecV (NP K) k A0 n0 A1 n1 A2 n2 s) (hl:StateV (NP T) k A3 n3 A4 n4 A5 n5 b.lo) (hh:StateV (NP T) k A6 n6 A7 n7 A8 n8 b.hi) (hK1:1≤K) (hK:K≤1000000) (hT1:1≤T) (hT:T≤300000000)
 (C:∀k',Up k k'→R k' (.int .i64 (eA s b))) :
 Cl k 66 #[S3 A0 n0 d0 A1 n1 d1 A2 n2 d2,S6 A3 n3 d3 A4 n4 d4 A5 n5 d5 A6 n6 d6 A7 n7 d7 A8 n8 d8] R:=by
 intro k0 u0;have hN:=aF K;have hM:=aF T;replace hs:=SecV.up hN hs u0;replace hl:=StateV.up hM hl u0;replace hh:=StateV.up hM hh u0;replace C:=fun k' u=>C k' (u0.trans u);have e1:=hs.cells.1;have f3:=hh.temp.1;have f4:=hh.cure.1;have f5:=hh.spoil.1;refine aNv (zB hs hl.temp.1 hl.cure.1 hl.spoil.1 hK1 hK fun k1 u1=>⟨_,rfl,fun f k2 u2=>?_,fun f=>aBn fun k4 u4=>⟨_,rfl,fun g k5 u5=>?_,fun g=>?_⟩⟩)
 ·have:=C k2 (u1.trans u2);unfold eA at this
  rwa [if_pos (bZ f)]at this
 ·have hz:¬ (n6=n1∧n7=n1∧n8=n1):=fun h=>by rw [if_pos h]at g;cases g
  have:=C k5 (u1.trans (u4.trans u5));unfold eA at this;rw [if_neg (by simp [bE f]),if_pos (by unfold sized;omega)]at this
  rwa [if_neg hz]
 ·have hz:n6=n1∧n7=n1∧n8=n1:=Classical.byContradiction fun h=>by rw [if_neg h]at g;cases g
  have hsz:sized s b.hi:=by unfold sized;omega
  obtain⟨hE,z1,z2,z3⟩:=sV (bE f);have hc24:s.cells.length≤24:=by have:=bI hE;unfold bM at this;omega
  have v4:=u1.trans u4;refine jG (b:=b) (StateV.up hM hl v4) (StateV.up hM hh v4) (StateV.up hM hl v4) hT1 hT1 hT hT ⟨oq,oq,oq⟩ fun k7 u7=>⟨_,rfl,fun h k8 u8=>?_,fun h k9 u9=>?_⟩
  ·have:=C k8 (v4.trans (u7.trans u8));unfold eA at this
   rwa [if_neg (by simp [bE f]),if_neg (fun h=>h hsz),if_pos fun h'=>ov (by simpa using h) (xL.2 h')]at this
  ·have:=C k9 (v4.trans (u7.trans u9));unfold eA at this
   rwa [if_neg (by simp [bE f]),if_neg (fun h=>h hsz),if_neg fun h'=>h' (xL.1 (ow (by simpa using h)))]at this
theorem aBl (hr:RangeV (NP K) k c0 c1 c2 c3 r) (hK1:1≤K) (hK:K≤300000000) (C:∀k',Up k k'→R k' (.int .i64 (dH r))) :
 Cl k 67 #[Rg c0 c1 c2 c3] R:=by
 intro k0 u0;replace hr:=RangeV.up (aF K) hr u0;replace C:=fun k' u=>C k' (u0.trans u);unfold dH at C;refine aJl hr.s0.seg hr.s1.seg hr.a0.seg hr.a1.seg (eW hr.s1 hr.s0 hK1 hK hK fun k1 u1=>⟨_,rfl,fun f k2 u2=>?_,fun f=>eW (hr.a1.up u1) (hr.a0.up u1) hK1 hK hK fun k4 u4=>⟨_,rfl,fun g k5 u5=>?_,fun g k6 u6=>?_⟩⟩)
 ·have:=C k2 (u1.trans u2)
  rwa [if_pos (Or.inl (ow f))]at this
 ·have:=C k5 (u1.trans (u4.trans u5))
  rwa [if_pos (Or.inr (ow g))]at this
 ·have:=C k6 (u1.trans (u4.trans u6))
  rwa [if_neg (not_or.2 ⟨ov f,ov g⟩)]at this
theorem aNr (hs:SecV (NP K) k A0 n0 A1 n1 A2 n2 s) (hl:StateV (NP T) k A3 n3 A4 n4 A5 n5 b.lo) (hh:StateV (NP T) k A6 n6 A7 n7 A8 n8 b.hi) (hM:NbV (NP K) k M s.links) (hr:RangeV (NP K) k c0 c1 c2 c3 r) (hE:aI s=0) (hz:sized s b.lo) (hz':sized s b.hi)
 (hd:∀i,i<s.cells.length→(nbm s.links (i:Nat)).length≤d) (hK1:1≤K) (hT1:1≤T) (hT:aK K d T≤90000) (hd2:d≤128)
 (C:∀k' B0 m0 e0 B1 m1 e1 B2 m2 e2 B3 m3 e3 B4 m4 e4 B5 m5 e5,Up k k'→StateW (NP (aK K d T+1001)) (NP (T+K+1)) k' B0 m0 B1 m1 B2 m2 (cG s b r).lo→StateW (NP (aK K d T+1001)) (NP (T+K+1)) k' B3 m3 B4 m4 B5 m5 (cG s b r).hi→
   R k' (S6 B0 m0 e0 B1 m1 e1 B2 m2 e2 B3 m3 e3 B4 m4 e4 B5 m5 e5)) :
 Cl k 69 #[.agg #[.slice A0 n0 d0,.slice A1 n1 d1,.slice A2 n2 d2,.map (some M)],S6 A3 n3 d3 A4 n4 d4 A5 n5 d5 A6 n6 d6 A7 n7 d7 A8 n8 d8,Rg c0 c1 c2 c3] R:=by
 intro k0 u0;have hN:=aF K;have hNT:=aF T;replace hr:=RangeV.up hN hr u0;refine aTc hr.s0.seg hr.s1.seg hr.a0.seg hr.a1.seg (aOn (SecV.up hN hs u0) (StateV.up hNT hl u0) (NbV.up hN hM u0) hr.s0 hr.a0 hE hz hd hK1 hT1 hT hd2 fun k1 B0 m0 e0 B1 m1 e1 B2 m2 e2 u1 h1=>⟨_,_,_,_,_,_,_,_,_,rfl,?_⟩);have v1:=u0.trans u1;refine aOm (SecV.up hN hs v1) (StateV.up hNT hh v1) (NbV.up hN hM v1) (hr.s1.up u1) (hr.a1.up u1) hE hz' hd hK1 hT1 hT hd2 fun k3 B3 m3 e3 B4 m4 e4 B5 m5 e5 u3 h3=>⟨_,_,_,_,_,_,_,_,_,rfl,fun k4 u4=>?_⟩;exact C k4 _ _ _ _ _ _ _ _ _ _ _ _ _ _ _ _ _ _ (v1.trans (u3.trans u4)) (StateW.up (aF _) (aF _) h1 (u3.trans u4)) (StateW.up (aF _) (aF _) h3 u4)
theorem aBg (hs:SecV (NP K) k A0 n0 A1 n1 A2 n2 s) (hl:StateV (NP T) k A3 n3 A4 n4 A5 n5 b.lo) (hh:StateV (NP T) k A6 n6 A7 n7 A8 n8 b.hi) (hr:RangeV (NP K) k c0 c1 c2 c3 r)
 (hd:aI s=0→∀i,i<s.cells.length→(nbm s.links (i:Nat)).length≤d) (hK1:1≤K) (hT1:1≤T) (hK:K≤1000000) (hT:aK K d T≤90000) (hd2:d≤128)
 (C:∀k' B0 m0 e0 B1 m1 e1 B2 m2 e2 B3 m3 e3 B4 m4 e4 B5 m5 e5,Up k k'→StateW (NP (aK K d T+1001)) (NP (T+K+1)) k' B0 m0 B1 m1 B2 m2 (fQ (fL s b r) (cG s b r)).lo→StateW (NP (aK K d T+1001)) (NP (T+K+1)) k' B3 m3 B4 m4 B5 m5 (fQ (fL s b r) (cG s b r)).hi→
   R k' (.tuple #[S6 B0 m0 e0 B1 m1 e1 B2 m2 e2 B3 m3 e3 B4 m4 e4 B5 m5 e5,.int .i64 (fL s b r)])) :
 Cl k 26 #[S3 A0 n0 d0 A1 n1 d1 A2 n2 d2,S6 A3 n3 d3 A4 n4 d4 A5 n5 d5 A6 n6 d6 A7 n7 d7 A8 n8 d8,Rg c0 c1 c2 c3] R:=by
 intro k0 u0;have hN:=aF K;have hNT:=aF T;have hT':T≤300000000:=Nat.le_trans pN (Nat.le_trans hT oz);replace hs:=SecV.up hN hs u0;replace hl:=StateV.up hNT hl u0;replace hh:=StateV.up hNT hh u0;replace hr:=RangeV.up hN hr u0;replace C:=fun k' B0 m0 e0 B1 m1 e1 B2 m2 e2 B3 m3 e3 B4 m4 e4 B5 m5 e5 u=>C k' B0 m0 e0 B1 m1 e1 B2 m2 e2 B3 m3 e3 B4 m4 e4 B5 m5 e5 (u0.trans u);have bad:∀e:Int,fL s b r=e→e≠0→∀k',Up k0 k'→R k' (.tuple #[S6 none 0 0 none 0 0 none 0 0 none 0 0 none 0 0 none 0 0,.int .i64 e]):=fun e he h0 k' u=>by
  have:=C k' none 0 0 none 0 0 none 0 0 none 0 0 none 0 0 none 0 0 u (by unfold fQ;rw [he,if_pos h0];exact⟨.nil,.nil,.nil⟩) (by unfold fQ;rw [he,if_pos h0];exact⟨.nil,.nil,.nil⟩)
  rwa [he]at this
 refine aJc hr.s0.seg hr.s1.seg hr.a0.seg hr.a1.seg (aHh hs hl hh hK1 hK hT1 hT' fun k1 u1=>⟨_,rfl,fun f k2 u2=>?_,fun f=>aBl (RangeV.up hN hr u1) hK1 oq fun k4 u4=>⟨_,rfl,fun g k5 u5=>?_,fun g=>?_⟩⟩)
 ·exact bad _ (by unfold fL;rw [if_pos (bZ f)]) (bZ f) k2 (u1.trans u2)
 ·exact bad _ (by unfold fL;rw [if_neg (by simp [bE f])]) (bZ g) k5 (u1.trans (u4.trans u5))
 ·have f:=bE f;have g:=bE g;have hA:fL s b r=0:=by unfold fL;rw [if_neg (by simp [f]),g]
  rw [hA]at C;unfold fQ at C;rw [if_neg (by simp)]at C;obtain⟨hE,hz,hz',_⟩:=oA f;have hc24:s.cells.length≤24:=by have:=bI hE;unfold bM at this;omega
  have v4:=u1.trans u4
  refine zH (SecV.up hN hs v4).links (by have:=bI hE;unfold bM at this;have:=hs.links.1;omega) (fun z hz=>by
   obtain⟨h1,h2⟩:=dP (cZ hE) z hz
   omega) fun k7 M u7 hM=>⟨_,_,_,_,_,_,_,_,_,_,rfl,?_⟩
  have v7:=v4.trans u7;refine aNr (SecV.up hN hs v7) (StateV.up hNT hl v7) (StateV.up hNT hh v7) hM (RangeV.up hN hr v7) hE hz hz' (hd hE) hK1 hT1 hT hd2 fun k9 B0 m0 e0 B1 m1 e1 B2 m2 e2 B3 m3 e3 B4 m4 e4 B5 m5 e5 u9 h1 h2=>⟨_,_,_,_,_,_,_,_,_,_,_,_,_,_,_,_,_,_,rfl,fun k10 u10=>?_⟩;exact C k10 _ _ _ _ _ _ _ _ _ _ _ _ _ _ _ _ _ _ (v7.trans (u9.trans u10)) (StateW.up (aF _) (aF _) h1 u10) (StateW.up (aF _) (aF _) h2 u10)
theorem aNw (hs:SecV (NP K) k A0 n0 A1 n1 A2 n2 s) (hu:RatV k cs u K) (hv:RatV k cs' v K) (hK1:1≤K) (hK:K≤1000000)
 (C:∀k' B0 m0 e0 B1 m1 e1 B2 m2 e2 B3 m3 e3 B4 m4 e4 B5 m5 e5,Up k k'→StateV (NP K) k' B0 m0 B1 m1 B2 m2 (fQ (dD s u v) (eD s u v)).lo→StateV (NP K) k' B3 m3 B4 m4 B5 m5 (fQ (dD s u v) (eD s u v)).hi→
   R k' (.tuple #[S6 B0 m0 e0 B1 m1 e1 B2 m2 e2 B3 m3 e3 B4 m4 e4 B5 m5 e5,.int .i64 (dD s u v)])) :
 Cl k 17 #[S3 A0 n0 d0 A1 n1 d1 A2 n2 d2,.agg cs,.agg cs'] R:=by
 intro k0 u0;have hN:=aF K;replace hs:=SecV.up hN hs u0;replace hu:=hu.up u0;replace hv:=hv.up u0;replace C:=fun k' B0 m0 e0 B1 m1 e1 B2 m2 e2 B3 m3 e3 B4 m4 e4 B5 m5 e5 u=>C k' B0 m0 e0 B1 m1 e1 B2 m2 e2 B3 m3 e3 B4 m4 e4 B5 m5 e5 (u0.trans u);have bad:∀e:Int,dD s u v=e→e≠0→∀k',Up k0 k'→R k' (.tuple #[S6 none 0 0 none 0 0 none 0 0 none 0 0 none 0 0 none 0 0,.int .i64 e]):=fun e he h0 k' u=>by
  have:=C k' none 0 0 none 0 0 none 0 0 none 0 0 none 0 0 none 0 0 u (by unfold fQ;rw [he,if_pos h0];exact⟨.nil,.nil,.nil⟩) (by unfold fQ;rw [he,if_pos h0];exact⟨.nil,.nil,.nil⟩)
  rwa [he]at this
 refine aIz hu.seg hv.seg (oI hs hK1 hK fun k1 u1=>⟨_,rfl,fun f k2 u2=>?_,fun f=>eW (hv.up u1) (hu.up u1) hK1 oq oq fun k4 u4=>⟨_,rfl,fun g k5 u5=>?_,fun g=>?_⟩⟩)
 ·exact bad _ (by unfold dD;rw [if_pos (bZ f)]) (bZ f) k2 (u1.trans u2)
 ·exact bad 7 (by unfold dD;rw [if_neg (by simp [bE f]),if_pos (ow g)]) oz k5 (u1.trans (u4.trans u5))
 ·have f:=bE f;have hA:dD s u v=0:=by unfold dD;rw [if_neg (by simp [f]),if_neg (ov g)]
  rw [hA]at C;unfold fQ at C;rw [if_neg (by simp)]at C;have hc24:s.cells.length≤24:=by have:=bI f;unfold bM at this;omega
  have hce:=hs.cells.1;have v4:=u1.trans u4;refine tR (s:=s) hce oq (hu.up v4) fun k7 B0 m0 e0 B1 m1 e1 B2 m2 e2 u7 h7=>⟨_,_,_,_,_,_,_,_,_,rfl,?_⟩;refine tR (s:=s) hce oq (hv.up (v4.trans u7)) fun k9 B3 m3 e3 B4 m4 e4 B5 m5 e5 u9 h9=>⟨_,_,_,_,_,_,_,_,_,rfl,fun k10 u10=>?_⟩;exact C k10 _ _ _ _ _ _ _ _ _ _ _ _ _ _ _ _ _ _ ((v4.trans u7).trans (u9.trans u10)) (StateV.up (aF _) h7 (u9.trans u10)) (StateV.up (aF _) h9 u10)
end
open Sy (Up Sees CallsG Seg ReadIn)
def NF (W:Nat) (k:World) (a:Array Value) (v:Rat×Bool):Prop:=QV k a v.1 (bif v.2 then W+2003 else W)
theorem NF.seg {W:Nat}{k:World}{a:Array Value}{v:Rat×Bool}(h:NF W k a v):Seg 3 a:=QV.seg h
theorem NF.up {W:Nat}{k k':World}{a:Array Value}{v:Rat×Bool}(h:NF W k a v) (u:Up k k'):NF W k' a v:=QV.up h u
section
variable {k k':World}{R:World→Value→Prop}{c0 c1 c2 c3 cs cs':Array Value}{s:PSec}{b b':PBand}{x y:PState}{r:PRange}{l0 l1 l2:List Rat}{u v:Rat}{K L T T' d M n0 n1 n2 d0 d1 d2 n3 n4 n5 d3 d4 d5 n6 d6 n7 d7 n8 d8 n9 d9 n10 d10 n11 d11:Nat}{A0 A1 A2 A3 A4 A5 A6 A7 A8 A9 A10 A11:Option Addr}
theorem yX (h0:Lst k A0 n0 3 (NR K k) l0) (h1:Lst k A1 n1 3 (NR L k) l1) (he:l0.length=l1.length) (hK:K≤300000000) (hL:L≤300000000) (hn:l1.length≤1000000)
 (C:∀k',Up k k'→R k' (.bool (!decide (gU l0 l1)))) :
 Cl k 113 #[.slice A0 n0 d0,.slice A1 n1 d1] R:=by
 intro k0 u0;replace h0:=h0.up u0 fun _ _ h=>h.up u0;replace h1:=h1.up u0 fun _ _ h=>h.up u0;replace C:=fun k' u=>C k' (u0.trans u);have e0:=h0.1;have e1:=h1.1;refine aLu ⟨fun m k vs=>∃j:Nat,j+m=n0∧vs=[.int .i64 j]∧∀i,i<j→¬ at_ l1 i<at_ l0 i,⟨n0,fun k1 u1=>⟨0,oq,rfl,fun i hi=>oq⟩⟩,?_⟩;rintro m k1 vs u1 ⟨j,hj,rfl,hz⟩;refine⟨j,rfl,rfl,fun hlt=>?_,fun hge k2 u2=>?_⟩
 ·have hlt:=aH hlt;obtain⟨y,_,gy,ya,yb,yr,_⟩:=(h0.up u1 fun _ _ h=>h.up u1).el (i:=j) oq oz;obtain⟨z,_,gz,za,zb,zr,_⟩:=(h1.up u1 fun _ _ h=>h.up u1).el (i:=j) oq oz;refine⟨ya,yb,y,gy.seg,yr k1 (Up.refl _),za,zb,z,gz.seg,zr k1 (Up.refl _),rP gy gz oq fun k3 u3=>⟨_,rfl,fun f k4 u4=>?_,fun f k4 u4=>?_⟩⟩
  ·rw [jY]at f;have:=C k4 (u1.trans (u3.trans u4))
   rwa [decide_eq_false (show ¬ gU l0 l1 from fun h=>h j oq (ow f))]at this
  ·rw [jY]at f;exact⟨m-1,oq,j+1,oq,by rw [aD oq],cK hz (ov f)⟩
 ·have hge:=aG hge;have:=C k2 (u1.trans u2)
  rwa [decide_eq_true (show gU l0 l1 from fun i hi=>hz i oq)]at this
theorem aWf (hx:StateV (NR K) k A0 n0 A1 n1 A2 n2 x) (hy:StateV (NR L) k A3 n3 A4 n4 A5 n5 y) (hK:K≤300000000) (hL:L≤300000000) (hn:lQ x)
 (C:∀k',Up k k'→R k' (.bool (decide (fU x y)))) :
 Cl k 65 #[S3 A0 n0 d0 A1 n1 d1 A2 n2 d2,S3 A3 n3 d3 A4 n4 d4 A5 n5 d5] R:=by
 intro k0 u0;have hN:=cJ K;have hM:=cJ L;replace hx:=StateV.up hN hx u0;replace hy:=StateV.up hM hy u0;replace C:=fun k' u=>C k' (u0.trans u);have e0:=hx.temp.1;have e1:=hx.cure.1;have e2:=hx.spoil.1;have e3:=hy.temp.1;have e4:=hy.cure.1;have e5:=hy.spoil.1;obtain⟨g0,g1,g2⟩:=hn;have no:¬ fU x y→∀k',Up k0 k'→R k' (.bool false):=fun h k' u=>by have:=C k' u;rwa [decide_eq_false h]at this
 refine aMq ⟨rfl,rfl,fun a k1 u1=>no (fun h=>?_) k1 u1,fun a=>⟨rfl,rfl,fun a' k1 u1=>no (fun h=>?_) k1 u1,fun a'=>⟨rfl,rfl,fun a'' k1 u1=>no (fun h=>?_) k1 u1,fun a''=>?_⟩⟩⟩
 ·have:=h.1.1;simp at a;omega
 ·have:=h.1.2.1;simp at a';omega
 ·have:=h.1.2.2;simp at a'';omega
 have a:n0=n3:=by simp at a;omega
 have a':n1=n4:=by simp at a';omega
 have a'':n2=n5:=by simp at a'';omega
 have dd:∀ {c:Bool},(!(!c))=true→c=true:=fun h=>by simpa using h
 have df:∀ {c:Bool},(!(!c))=false→c=false:=fun h=>by simpa using h
 refine yX hx.temp hy.temp oq hK hL oq fun k4 u4=>⟨_,rfl,fun f=>yX (StateV.up hN hx u4).cure (StateV.up hM hy u4).cure oq hK hL oq fun k6 u6=>⟨_,rfl,fun g=>yX (StateV.up hN hx (u4.trans u6)).spoil (StateV.up hM hy (u4.trans u6)).spoil oq hK hL oq fun k8 u8=>⟨_,rfl,fun k9 u9=>?_⟩,fun g k10 u10=>no (fun h=>ov (df g) h.2.2.1) k10 ((u4.trans u6).trans u10)⟩,fun f k11 u11=>no (fun h=>ov (df f) h.2.1) k11 (u4.trans u11)⟩;have:=C k9 ((u4.trans u6).trans (u8.trans u9))
 rwa [show decide (fU x y)=!(!decide (gU x.spoil y.spoil)) by rw [Bool.not_not];exact decide_eq_decide.2 ⟨fun h=>h.2.2.2,fun h=>⟨⟨oq,oq,oq⟩,ow (dd f),ow (dd g),h⟩⟩]at this
theorem aNp (hs:SecV (NR K) k A0 n0 A1 n1 A2 n2 s) (hl:StateV (NR T) k A3 n3 A4 n4 A5 n5 b.lo) (hh:StateV (NR T) k A6 n6 A7 n7 A8 n8 b.hi) (hK:K≤1000000) (hT:T≤300000000)
 (C:∀k',Up k k'→R k' (.int .i64 (eA s b))) :
 Cl k 70 #[S3 A0 n0 d0 A1 n1 d1 A2 n2 d2,S6 A3 n3 d3 A4 n4 d4 A5 n5 d5 A6 n6 d6 A7 n7 d7 A8 n8 d8] R:=by
 intro k0 u0;have hN:=cJ K;have hM:=cJ T;replace hs:=SecV.up hN hs u0;replace hl:=StateV.up hM hl u0;replace hh:=StateV.up hM hh u0;replace C:=fun k' u=>C k' (u0.trans u);have e1:=hs.cells.1;have f0:=hl.temp.1;have f1:=hl.cure.1;have f2:=hl.spoil.1;have f3:=hh.temp.1;have f4:=hh.cure.1;have f5:=hh.spoil.1;refine aFz (aIp hs hK fun k1 u1=>⟨_,rfl,fun f k2 u2=>?_,fun f=>aIj fun k4 u4=>⟨_,rfl,fun g k5 u5=>?_,fun g=>aIj fun k7 u7=>⟨_,rfl,fun g' k8 u8=>?_,fun g'=>?_⟩⟩⟩)
 ·have:=C k2 (u1.trans u2);have hb:dJ s b.lo=aI s:=by unfold dJ;rw [if_pos (bZ f)]
  unfold eA at this
  rwa [hb,if_pos (bZ f)]at this
 ·have hz:=ov (rZ g);have:=C k5 (u1.trans (u4.trans u5));have hb:dJ s b.lo=4:=by unfold dJ;rw [if_neg (by simp [bE f]),if_pos (by unfold sized;omega)]
  unfold eA at this
  rwa [hb,if_pos oz]at this
 ·have hz:=ow (oV g);have hz':=ov (rZ g');have:=C k8 (u1.trans (u4.trans (u7.trans u8)));have hb:dJ s b.lo=0:=by unfold dJ;rw [if_neg (by simp [bE f]),if_neg (fun h=>h (by unfold sized;omega))]
  unfold eA at this
  rwa [hb,if_neg (by simp),if_pos (by unfold sized;omega)]at this
 ·have hz:=ow (oV g);have hz':=ow (oV g');have hb:dJ s b.lo=0:=by unfold dJ;rw [if_neg (by simp [bE f]),if_neg (fun h=>h (by unfold sized;omega))]
  have hsz:sized s b.hi:=by unfold sized;omega
  have hc24:s.cells.length≤24:=by have:=bI (bE f);unfold bM at this;omega
  have v7:=u1.trans (u4.trans u7);refine aWf (StateV.up hM hl v7) (StateV.up hM hh v7) hT hT ⟨oq,oq,oq⟩ fun k10 u10=>⟨_,rfl,fun h k11 u11=>?_,fun h k12 u12=>?_⟩
  ·have:=C k11 (v7.trans (u10.trans u11));unfold eA at this
   rwa [hb,if_neg (by simp),if_neg (fun h=>h hsz),if_pos (ov (rZ h))]at this
  ·have:=C k12 (v7.trans (u10.trans u12));unfold eA at this
   rwa [hb,if_neg (by simp),if_neg (fun h=>h hsz),if_neg (fun h'=>h' (ow (oV h)))]at this
theorem aRl (hr:RangeV (NR K) k c0 c1 c2 c3 r) (hK:K≤300000000) (C:∀k',Up k k'→R k' (.int .i64 (dH r))) :
 Cl k 71 #[Rg c0 c1 c2 c3] R:=by
 intro k0 u0;replace hr:=RangeV.up (cJ K) hr u0;replace C:=fun k' u=>C k' (u0.trans u);unfold dH at C;refine aGg hr.s0.seg hr.s1.seg hr.a0.seg hr.a1.seg (rP hr.s0 hr.s1 oq fun k1 u1=>⟨_,rfl,fun f k2 u2=>?_,fun f=>rP (hr.a0.up u1) (hr.a1.up u1) oq fun k4 u4=>⟨_,rfl,fun g k5 u5=>?_,fun g k6 u6=>?_⟩⟩)
 ·rw [jY]at f;have:=C k2 (u1.trans u2)
  rwa [if_pos (Or.inl (ow f))]at this
 ·rw [jY]at g;have:=C k5 (u1.trans (u4.trans u5))
  rwa [if_pos (Or.inr (ow g))]at this
 ·rw [jY]at f g;have:=C k6 (u1.trans (u4.trans u6))
  rwa [if_neg (not_or.2 ⟨ov f,ov g⟩)]at this
theorem aDd (hs:SecV (NR K) k A0 n0 A1 n1 A2 n2 s) (hx:StateV (NR T) k A3 n3 A4 n4 A5 n5 x) (hu:QV k cs u K) (hv:QV k cs' v K) (hE:aI s=0) (hz:sized s x)
 (hd:∀i,i<s.cells.length→(nbm s.links (i:Nat)).length≤d) (hK2:2≤K) (hT1:1≤T) (hK:K≤1000000) (hT:aK K d T≤300000000)
 (C:∀k' B0 e0 x0 B1 e1 x1 B2 e2 x2,Up k k'→ArrV n1 3 (NR (aK K d T) k') x0 (at_ (aY s x u v).temp)→ArrV n1 3 (NR (T+K+1) k') x1 (at_ (aY s x u v).cure)→ArrV n1 3 (NR (T+K+1) k') x2 (at_ (aY s x u v).spoil)→
   R k' (.tuple #[.slice B0 n1 e0,.agg x0,.slice B1 n1 e1,.agg x1,.slice B2 n1 e2,.agg x2])) :
 ∀k0,Up k k0→Sy.CallsR3 Tryz.prog 118 #[S3 A0 n0 d0 A1 n1 d1 A2 n2 d2,S3 A3 n3 d3 A4 n4 d4 A5 n5 d5,.agg cs,.agg cs'] k0 81 3 R:=by
 intro k0 u0;have hN:=cJ K;have hNT:=cJ T;replace hs:=SecV.up hN hs u0;replace hx:=StateV.up hNT hx u0;replace hu:=hu.up u0;replace hv:=hv.up u0;replace C:=fun k' B0 e0 x0 B1 e1 x1 B2 e2 x2 u=>C k' B0 e0 x0 B1 e1 x1 B2 e2 x2 (u0.trans u);clear u0;have e1:=hs.cells.1;obtain⟨z3,z4,z5⟩:=id hz;have f3:=hx.temp.1;have f4:=hx.cure.1;have f5:=hx.spoil.1;have hn24:n1≤24:=by have:=bI hE;unfold bM at this;omega
 have hW:3*T+5*K+4+d*(K+2*T+2)≤300000000:=hT;have hup:∀ {W:Nat}{k k':World}{xs:Array Value}{j:Nat}{f:Nat→Rat},Up k k'→ArrV j 3 (NR W k) xs f→ArrV j 3 (NR W k') xs f:=fun u h=>h.mono fun _ _ h=>h.up u;have hseg:∀ {W:Nat}{k:World},∀a v,NR W k a v→Seg 3 a:=fun _ _ h=>h.seg
 refine aMm hu.seg hv.seg ⟨fun m k vs=>∃(j:Nat) (B0 B1 B2:Option Addr) (e0 e1 e2:Nat) (x0 x1 x2:Array Value),j+m=n1∧vs=[.int .i64 j,.tuple #[.slice B0 j e0,.agg x0],.tuple #[.slice B1 j e1,.agg x1],.tuple #[.slice B2 j e2,.agg x2]]∧
  ArrV j 3 (NR (aK K d T) k) x0 (at_ (aY s x u v).temp)∧ArrV j 3 (NR (T+K+1) k) x1 (at_ (aY s x u v).cure)∧ArrV j 3 (NR (T+K+1) k) x2 (at_ (aY s x u v).spoil),
  ⟨n1,fun k1 u1=>⟨0,_,_,_,_,_,_,_,_,_,oq,rfl,ArrV.empty,ArrV.empty,ArrV.empty⟩⟩,?_⟩
 rintro m k1 vs u1 ⟨j,B0,B1,B2,g0,g1,g2,x0,x1,x2,hj,rfl,h0,h1,h2⟩;refine⟨j,B0,j,g0,x0,h0.rowC hseg,B1,j,g1,x1,h1.rowC hseg,B2,j,g2,x2,h2.rowC hseg,rfl,rfl,fun hlt=>?_,fun hge k2 u2=>?_⟩
 ·have hlt:=aH hlt;have hjn:j<s.cells.length:=oq
  replace hs:=SecV.up hN hs u1;replace hx:=StateV.up hNT hx u1;replace hu:=hu.up u1;replace hv:=hv.up u1;obtain⟨a,_,⟨c0,c1,c2,rfl,q0,q1,q2⟩,ha,hb,_,hr,hr1⟩:=hs.cells.elx (i:=j) hjn oz;obtain⟨t,_,ht,ta,tb,tr,_⟩:=hx.temp.elx (i:=j) oq oz;obtain⟨hm0,hm1,_⟩:=mC hE hjn;have hmi:(at_ s.cells j).m=(((at_ s.cells j).m.toNat:Nat):Int):=oq
  obtain⟨a',_,⟨D,p1,r1,F,p2,r2,c4,c5,rfl,l0,l1,s0,s1⟩,ha',hb',hr',_⟩:=hs.mats.elx (i:=(at_ s.cells j).m.toNat) oq oz;obtain⟨hR1,hR2⟩:=aFq hE (i:=(at_ s.cells j).m.toNat) oq;rw [←hmi]at hb' hr';refine⟨ha,hb,ha,hb,_,hr1 k1 0 _ (Up.refl _) rfl,ha',hb',D,p1,r1,F,p2,r2,c4,s0.seg,c5,s1.seg,hr' k1 (Up.refl _),ta,tb,t,ht.seg,tr k1 (Up.refl _),ha,hb,ha,hb,c0,q0.seg,hr k1 c0 1 3 (Up.refl _) q0.seg.1 (fun q u h=>qH (d:=0) (by rw [Nat.zero_add];exact iH h)),?_⟩;refine aXt hs hx hu hv hE hz hjn (hd j hjn) hK oq fun k2 y2 u2 w2=>⟨y2,w2.seg,rfl,?_⟩;refine bAs w2 (q0.up u2) oq oq oq fun k4 y4 u4 w4=>⟨y4,w4.seg,rfl,?_⟩;refine mP ((ht.up u2).up u4) w4 oq fun k6 y6 u6 w6=>⟨y6,w6.seg,rfl,by simp [w6.seg.1],oz,⟨by simp;omega,by simp;omega⟩,?_⟩;rintro B0' _ g0' _ rfl rfl _;have v6:=(u2.trans u4).trans u6;replace hx:=StateV.up hNT hx v6;obtain⟨t3,_,ht3,ta3,tb3,tr3,_⟩:=hx.cure.elx (i:=j) oq oz;obtain⟨t4,_,ht4,ta4,tb4,tr4,_⟩:=hx.spoil.elx (i:=j) oq oz;obtain⟨t5,_,ht5,ta5,tb5,tr5,_⟩:=hx.temp.elx (i:=j) oq oz;refine⟨ta3,tb3,t3,ht3.seg,tr3 k6 (Up.refl _),ta5,tb5,t5,ht5.seg,tr5 k6 (Up.refl _),?_⟩;refine aIl (aQ hN l0 v6) ht5 hR1 hK2 oq fun k8 y8 u8 w8=>⟨y8,w8.seg,rfl,?_⟩;refine mP (ht3.up u8) w8 oq fun k10 y10 u10 w10=>⟨y10,w10.seg,rfl,by simp [w10.seg.1],oz,⟨by simp;omega,by simp;omega⟩,?_⟩;rintro B1' _ g1' _ rfl rfl _;have v10:=u8.trans u10;refine⟨ta4,tb4,t4,ht4.seg,tr4 k10 v10,ta5,tb5,t5,ht5.seg,tr5 k10 v10,?_⟩;refine aIl (aQ hN (aQ hN l1 v6) v10) (ht5.up v10) hR2 hK2 oq fun k12 y12 u12 w12=>⟨y12,w12.seg,rfl,?_⟩;refine mP ((ht4.up v10).up u12) w12 oq fun k14 y14 u14 w14=>⟨y14,w14.seg,rfl,by simp [w14.seg.1],oz,⟨by simp;omega,by simp;omega⟩,?_⟩;rintro B2' _ g2' _ rfl rfl _ k15 u15;have v14:=(v10.trans u12).trans u14;refine⟨m-1,oq,j+1,B0',B1',B2',g0',g1',g2',_,_,_,oq,by rw [aD oq];rfl,?_,?_,?_⟩
  ·rw [List.append_nil];refine ArrV.push (hup ((v6.trans v14).trans u15) h0) w6.seg.1 ?_;rw [show at_ (aY s x u v).temp j=eS s x u v j from aN hjn];exact ((w6.up v14).up u15).mono (by unfold aK;omega)
  ·rw [List.append_nil];refine ArrV.push (hup ((v6.trans v14).trans u15) h1) w10.seg.1 ?_;rw [show at_ (aY s x u v).cure j=rQ s x j from aN hjn];exact (((w10.up u12).up u14).up u15).mono oq
  ·rw [List.append_nil];refine ArrV.push (hup ((v6.trans v14).trans u15) h2) w14.seg.1 ?_;rw [show at_ (aY s x u v).spoil j=lS s x j from aN hjn];exact (w14.up u15).mono oq
 ·have hge:=aG hge;have ej:j=n1:=oq
  subst ej;exact C k2 _ _ _ _ _ _ _ _ _ (u1.trans u2) (hup u2 h0) (hup u2 h1) (hup u2 h2)
theorem aYq (hs:SecV (NR K) k A0 n0 A1 n1 A2 n2 s) (hl:StateV (NR T) k A3 n3 A4 n4 A5 n5 b.lo) (hh:StateV (NR T) k A6 n6 A7 n7 A8 n8 b.hi) (hr:RangeV (NR K) k c0 c1 c2 c3 r) (hE:aI s=0) (hz:sized s b.lo) (hz':sized s b.hi)
 (hd:∀i,i<s.cells.length→(nbm s.links (i:Nat)).length≤d) (hK2:2≤K) (hT1:1≤T) (hK:K≤1000000) (hT:aK K d T≤90000)
 (C:∀k' B0 m0 e0 B1 m1 e1 B2 m2 e2 B3 m3 e3 B4 m4 e4 B5 m5 e5,Up k k'→StateW (NR (aK K d T+2003)) (NR (T+K+1)) k' B0 m0 B1 m1 B2 m2 (cG s b r).lo→StateW (NR (aK K d T+2003)) (NR (T+K+1)) k' B3 m3 B4 m4 B5 m5 (cG s b r).hi→
   R k' (S6 B0 m0 e0 B1 m1 e1 B2 m2 e2 B3 m3 e3 B4 m4 e4 B5 m5 e5)) :
 Cl k 72 #[S3 A0 n0 d0 A1 n1 d1 A2 n2 d2,S6 A3 n3 d3 A4 n4 d4 A5 n5 d5 A6 n6 d6 A7 n7 d7 A8 n8 d8,Rg c0 c1 c2 c3] R:=by
 intro k0 u0;have hN:=cJ K;have hNT:=cJ T;have e1:=hs.cells.1;have hc24:s.cells.length≤24:=by have:=bI hE;unfold bM at this;omega
 replace hr:=RangeV.up hN hr u0;have hT':aK K d T≤300000000:=oq
 have hW:1≤aK K d T:=by unfold aK;omega
 have hup:∀ {W:Nat}{k k':World}{xs:Array Value}{j:Nat}{f:Nat→Rat},Up k k'→ArrV j 3 (NR W k) xs f→ArrV j 3 (NR W k') xs f:=fun u h=>h.mono fun _ _ h=>h.up u;have hseg:∀ {W:Nat}{k:World},∀a v,NR W k a v→Seg 3 a:=fun _ _ h=>h.seg;refine aVo hr.s0.seg hr.s1.seg hr.a0.seg hr.a1.seg (aDd (SecV.up hN hs u0) (StateV.up hNT hl u0) hr.s0 hr.a0 hE hz hd hK2 hT1 hK hT' fun k1 B0 e0 x0 B1 e1 x1 B2 e2 x2 u1 h0 h1 h2=>⟨_,_,_,_,_,_,_,_,_,_,_,_,rfl,?_⟩);have v1:=u0.trans u1;refine aDd (SecV.up hN hs v1) (StateV.up hNT hh v1) (hr.s1.up u1) (hr.a1.up u1) hE hz' hd hK2 hT1 hK hT' fun k3 B3 e3 x3 B4 e4 x4 B5 e5 x5 u3 h3 h4 h5=>⟨_,_,_,_,_,_,_,_,_,_,_,_,rfl,?_⟩;have v3:=v1.trans u3;have segF:∀ {k:World},∀a v,NF (aK K d T) k a v→Seg 3 a:=fun _ _ h=>h.seg;have upF:∀ {k k':World}{xs:Array Value}{j:Nat}{f:Nat→Rat×Bool},Up k k'→ArrV j 3 (NF (aK K d T) k) xs f→ArrV j 3 (NF (aK K d T) k') xs f:=fun u h=>h.mono fun _ _ h=>h.up u;have e40:iJ 40=40:=oz
 refine⟨fun m k vs=>∃(j:Nat) (y0 y3:Array Value),j+m=n1∧vs=[.int .i64 j,.tuple #[.slice B0 n1 e0,.agg y0],.tuple #[.slice B3 n1 e3,.agg y3]]∧
  ArrV n1 3 (NF (aK K d T) k) y0 (cut j (fun i=>(at_ (cG s b r).lo.temp i,true)) (fun i=>(at_ (aY s b.lo r.s0 r.a0).temp i,false)))∧
  ArrV n1 3 (NF (aK K d T) k) y3 (cut j (fun i=>(at_ (cG s b r).hi.temp i,true)) (fun i=>(at_ (aY s b.hi r.s1 r.a1).temp i,false))),
  ⟨n1,fun k4 u4=>⟨0,_,_,oq,rfl,ArrV.start (show ArrV n1 3 (NF (aK K d T) k4) x0 (fun i=>(at_ (aY s b.lo r.s0 r.a0).temp i,false)) from hup (u3.trans u4) h0),ArrV.start (show ArrV n1 3 (NF (aK K d T) k4) x3 (fun i=>(at_ (aY s b.hi r.s1 r.a1).temp i,false)) from hup u4 h3)⟩⟩,?_⟩
 rintro m k4 vs u4 ⟨j,y0,y3,hj,rfl,g0,g3⟩;refine⟨j,B0,n1,e0,y0,g0.rowC segF,B3,n1,e3,y3,g3.rowC segF,rfl,rfl,fun hlt=>?_,fun hge k10 u10 r0 k11 u11 r1 k12 u12 r2 k13 u13 r3 k14 u14 r4 k15 u15 r5 k16 u16=>?_⟩
 ·have hlt:=aH hlt;have hjn:j<s.cells.length:=oq
  obtain⟨a,ha,ga,hr0⟩:=g0.read hlt;obtain⟨c,hc,gc,hr3⟩:=g3.read hlt;unfold cut at ga gc;rw [if_neg (Nat.lt_irrefl j)]at ga gc;have ga':QV k4 a (eS s b.lo r.s0 r.a0 j) (aK K d T):=by
   have:QV k4 a (at_ (aY s b.lo r.s0 r.a0).temp j) (aK K d T):=ga
   rwa [show at_ (aY s b.lo r.s0 r.a0).temp j=eS s b.lo r.s0 r.a0 j from aN hjn]at this
  have gc':QV k4 c (eS s b.hi r.s1 r.a1 j) (aK K d T):=by
   have:QV k4 c (at_ (aY s b.hi r.s1 r.a1).temp j) (aK K d T):=gc
   rwa [show at_ (aY s b.hi r.s1 r.a1).temp j=eS s b.hi r.s1 r.a1 j from aN hjn]at this
  refine⟨decide_eq_true ⟨oq,oq⟩,a,ga'.seg,hr0 0 3 (.agg a) ha (fun q u h=>by rw [Nat.zero_add];exact h),decide_eq_true ⟨oq,oq⟩,c,gc'.seg,hr3 0 3 (.agg c) hc (fun q u h=>by rw [Nat.zero_add];exact h),?_⟩;refine aCy (m:=40) ga' hW oq fun k6 y6 u6 w6=>⟨y6,w6.seg,rfl,?_⟩;refine aVn (m:=40) (gc'.up u6) hW oq fun k8 y8 u8 w8=>⟨y8,w8.seg,rfl,decide_eq_true ⟨oq,oq⟩,⟨oq,oq⟩,?_⟩;rw [e40]at w6 w8;rintro _ rfl;refine⟨decide_eq_true ⟨oq,oq⟩,⟨oq,oq⟩,?_⟩;rintro _ rfl k9 u9;have v9:=u6.trans (u8.trans u9);refine⟨m-1,oq,j+1,_,_,oq,by rw [aD oq],?_,?_⟩
  ·rw [List.append_nil];refine (upF v9 g0).step hlt w6.seg.1 ?_;show QV k9 y6 (at_ (cG s b r).lo.temp j) (aK K d T+2003);rw [show at_ (cG s b r).lo.temp j=fD (eS s b.lo r.s0 r.a0 j) from aN hjn];exact (w6.up u8).up u9
  ·rw [List.append_nil];refine (upF v9 g3).step hlt w8.seg.1 ?_;show QV k9 y8 (at_ (cG s b r).hi.temp j) (aK K d T+2003);rw [show at_ (cG s b r).hi.temp j=kX (eS s b.hi r.s1 r.a1 j) from aN hjn];exact w8.up u9
 ·have hge:=aG hge;have v16:=((u10.trans u11).trans (u12.trans u13)).trans ((u14.trans u15).trans u16);have q0:ArrV n1 3 (NR (aK K d T+2003) k4) y0 (at_ (cG s b r).lo.temp):=g0.done hge;have q3:ArrV n1 3 (NR (aK K d T+2003) k4) y3 (at_ (cG s b r).hi.temp):=g3.done hge;refine C k16 _ _ _ _ _ _ _ _ _ _ _ _ _ _ _ _ _ _ (v3.trans (u4.trans v16)) ⟨?_,?_,?_⟩ ⟨?_,?_,?_⟩
  ·exact cY (by simp [cG,cE];omega) (hup v16 q0) hseg (bR r0 (((u11.trans u12).trans (u13.trans u14)).trans (u15.trans u16)))
  ·exact cY (by simp [cG,cE];omega) (hup ((u3.trans u4).trans v16) h1) hseg (bR r1 ((u12.trans (u13.trans u14)).trans (u15.trans u16)))
  ·exact cY (by simp [cG,cE];omega) (hup ((u3.trans u4).trans v16) h2) hseg (bR r2 ((u13.trans u14).trans (u15.trans u16)))
  ·exact cY (by simp [cG,cE];omega) (hup v16 q3) hseg (bR r3 (u14.trans (u15.trans u16)))
  ·exact cY (by simp [cG,cE];omega) (hup (u4.trans v16) h4) hseg (bR r4 (u15.trans u16))
  ·exact cY (by simp [cG,cE];omega) (hup (u4.trans v16) h5) hseg (bR r5 u16)
theorem aRp (hs:SecV (NR K) k A0 n0 A1 n1 A2 n2 s) (hl:StateV (NR T) k A3 n3 A4 n4 A5 n5 b.lo) (hh:StateV (NR T) k A6 n6 A7 n7 A8 n8 b.hi) (hr:RangeV (NR K) k c0 c1 c2 c3 r)
 (hd:aI s=0→∀i,i<s.cells.length→(nbm s.links (i:Nat)).length≤d) (hK2:2≤K) (hT1:1≤T) (hK:K≤1000000) (hT:aK K d T≤90000)
 (C:∀k' B0 m0 e0 B1 m1 e1 B2 m2 e2 B3 m3 e3 B4 m4 e4 B5 m5 e5,Up k k'→StateW (NR (aK K d T+2003)) (NR (T+K+1)) k' B0 m0 B1 m1 B2 m2 (fQ (fL s b r) (cG s b r)).lo→StateW (NR (aK K d T+2003)) (NR (T+K+1)) k' B3 m3 B4 m4 B5 m5 (fQ (fL s b r) (cG s b r)).hi→
   R k' (.tuple #[S6 B0 m0 e0 B1 m1 e1 B2 m2 e2 B3 m3 e3 B4 m4 e4 B5 m5 e5,.int .i64 (fL s b r)])) :
 Cl k 27 #[S3 A0 n0 d0 A1 n1 d1 A2 n2 d2,S6 A3 n3 d3 A4 n4 d4 A5 n5 d5 A6 n6 d6 A7 n7 d7 A8 n8 d8,Rg c0 c1 c2 c3] R:=by
 intro k0 u0;have hN:=cJ K;have hNT:=cJ T;have hT':T≤300000000:=Nat.le_trans pN (Nat.le_trans hT oz);replace hs:=SecV.up hN hs u0;replace hl:=StateV.up hNT hl u0;replace hh:=StateV.up hNT hh u0;replace hr:=RangeV.up hN hr u0;replace C:=fun k' B0 m0 e0 B1 m1 e1 B2 m2 e2 B3 m3 e3 B4 m4 e4 B5 m5 e5 u=>C k' B0 m0 e0 B1 m1 e1 B2 m2 e2 B3 m3 e3 B4 m4 e4 B5 m5 e5 (u0.trans u);have bad:∀e:Int,fL s b r=e→e≠0→∀k',Up k0 k'→R k' (.tuple #[S6 none 0 0 none 0 0 none 0 0 none 0 0 none 0 0 none 0 0,.int .i64 e]):=fun e he h0 k' u=>by
  have:=C k' none 0 0 none 0 0 none 0 0 none 0 0 none 0 0 none 0 0 u (by unfold fQ;rw [he,if_pos h0];exact⟨.nil,.nil,.nil⟩) (by unfold fQ;rw [he,if_pos h0];exact⟨.nil,.nil,.nil⟩)
  rwa [he]at this
 refine aMa hr.s0.seg hr.s1.seg hr.a0.seg hr.a1.seg (aNp hs hl hh hK hT' fun k1 u1=>⟨_,rfl,fun f k2 u2=>?_,fun f=>aRl (RangeV.up hN hr u1) oq fun k4 u4=>⟨_,rfl,fun g k5 u5=>?_,fun g=>?_⟩⟩)
 ·exact bad _ (by unfold fL;rw [if_pos (bZ f)]) (bZ f) k2 (u1.trans u2)
 ·exact bad _ (by unfold fL;rw [if_neg (by simp [bE f])]) (bZ g) k5 (u1.trans (u4.trans u5))
 ·have f:=bE f;have g:=bE g;have hA:fL s b r=0:=by unfold fL;rw [if_neg (by simp [f]),g]
  rw [hA]at C;unfold fQ at C;rw [if_neg (by simp)]at C;obtain⟨hE,hz,hz',_⟩:=oA f;have v4:=u1.trans u4;refine aYq (SecV.up hN hs v4) (StateV.up hNT hl v4) (StateV.up hNT hh v4) (RangeV.up hN hr v4) hE hz hz' (hd hE) hK2 hT1 hK hT fun k9 B0 m0 e0 B1 m1 e1 B2 m2 e2 B3 m3 e3 B4 m4 e4 B5 m5 e5 u9 h1 h2=>⟨_,_,_,_,_,_,_,_,_,_,_,_,_,_,_,_,_,_,rfl,fun k10 u10=>?_⟩;exact C k10 _ _ _ _ _ _ _ _ _ _ _ _ _ _ _ _ _ _ (v4.trans (u9.trans u10)) (StateW.up (cJ _) (cJ _) h1 u10) (StateW.up (cJ _) (cJ _) h2 u10)
theorem aRo (hs:SecV (NR K) k A0 n0 A1 n1 A2 n2 s) (hu:QV k cs u K) (hv:QV k cs' v K) (hK2:2≤K) (hK:K≤1000000)
 (C:∀k' B0 m0 e0 B1 m1 e1 B2 m2 e2 B3 m3 e3 B4 m4 e4 B5 m5 e5,Up k k'→StateV (NR K) k' B0 m0 B1 m1 B2 m2 (fQ (dD s u v) (eD s u v)).lo→StateV (NR K) k' B3 m3 B4 m4 B5 m5 (fQ (dD s u v) (eD s u v)).hi→
   R k' (.tuple #[S6 B0 m0 e0 B1 m1 e1 B2 m2 e2 B3 m3 e3 B4 m4 e4 B5 m5 e5,.int .i64 (dD s u v)])) :
 Cl k 19 #[S3 A0 n0 d0 A1 n1 d1 A2 n2 d2,.agg cs,.agg cs'] R:=by
 intro k0 u0;have hN:=cJ K;replace hs:=SecV.up hN hs u0;replace hu:=hu.up u0;replace hv:=hv.up u0;replace C:=fun k' B0 m0 e0 B1 m1 e1 B2 m2 e2 B3 m3 e3 B4 m4 e4 B5 m5 e5 u=>C k' B0 m0 e0 B1 m1 e1 B2 m2 e2 B3 m3 e3 B4 m4 e4 B5 m5 e5 (u0.trans u);have bad:∀e:Int,dD s u v=e→e≠0→∀k',Up k0 k'→R k' (.tuple #[S6 none 0 0 none 0 0 none 0 0 none 0 0 none 0 0 none 0 0,.int .i64 e]):=fun e he h0 k' u=>by
  have:=C k' none 0 0 none 0 0 none 0 0 none 0 0 none 0 0 none 0 0 u (by unfold fQ;rw [he,if_pos h0];exact⟨.nil,.nil,.nil⟩) (by unfold fQ;rw [he,if_pos h0];exact⟨.nil,.nil,.nil⟩)
  rwa [he]at this
 refine aLz hu.seg hv.seg (aIp hs hK fun k1 u1=>⟨_,rfl,fun f k2 u2=>?_,fun f=>rP (hu.up u1) (hv.up u1) oq fun k4 u4=>⟨_,rfl,fun g k5 u5=>?_,fun g=>?_⟩⟩)
 ·exact bad _ (by unfold dD;rw [if_pos (bZ f)]) (bZ f) k2 (u1.trans u2)
 ·rw [jY]at g;exact bad 7 (by unfold dD;rw [if_neg (by simp [bE f]),if_pos (ow g)]) oz k5 (u1.trans (u4.trans u5))
 ·rw [jY]at g;have f:=bE f;have hA:dD s u v=0:=by unfold dD;rw [if_neg (by simp [f]),if_neg (ov g)]
  rw [hA]at C;unfold fQ at C;rw [if_neg (by simp)]at C;have hc24:s.cells.length≤24:=by have:=bI f;unfold bM at this;omega
  have hce:=hs.cells.1;have v4:=u1.trans u4;refine aIm (s:=s) hce oq (hu.up v4) hK2 fun k7 B0 m0 e0 B1 m1 e1 B2 m2 e2 u7 h7=>⟨_,_,_,_,_,_,_,_,_,rfl,?_⟩;refine aIm (s:=s) hce oq (hv.up (v4.trans u7)) hK2 fun k9 B3 m3 e3 B4 m4 e4 B5 m5 e5 u9 h9=>⟨_,_,_,_,_,_,_,_,_,rfl,fun k10 u10=>?_⟩;exact C k10 _ _ _ _ _ _ _ _ _ _ _ _ _ _ _ _ _ _ ((v4.trans u7).trans (u9.trans u10)) (StateV.up (cJ _) h7 (u9.trans u10)) (StateV.up (cJ _) h9 u10)
end
open Sy (Up Sees CallsG Seg ReadAt)
def few30 (x:PState):Prop:=x.temp.length≤30∧x.cure.length≤30∧x.spoil.length≤30
def small5 (x:PState):Prop:=x.temp.length≤100000∧x.cure.length≤100000∧x.spoil.length≤100000
section
variable {k:World}{R:World→Value→Prop}{s:PSec}{b x y:PBand}{z:PState}{K L n0 n1 n2 d0 d1 d2 n3 n4 n5 d3 d4 d5 n6 d6 n7 d7 n8 d8 n9 d9 n10 d10 n11 d11 n12 d12 n13 d13 n14 d14 n15 d15 n16 d16 n17 d17:Nat}{A0 A1 A2 A3 A4 A5 A6 A7 A8 A9 A10 A11 A12 A13 A14 A15 A16 A17:Option Addr}{i0 i1 i2 i3 i4 i5 i6 i7:Int}
theorem aKu (j0:In64 i0) (j1:In64 i1) (j2:In64 i2) (j3:In64 i3) (j4:In64 i4) (j5:In64 i5) (j6:In64 i6) (j7:In64 i7)
 (C:∀k' c0 c1 c2 c3 g0 g1 g2 g3,Up k k'→RangeV (NP 1) k' c0 c1 c2 c3 ⟨ofQ i0 i1,ofQ i2 i3,ofQ i4 i5,ofQ i6 i7⟩→RangeV (NR 2) k' g0 g1 g2 g3 ⟨ofQ i0 i1,ofQ i2 i3,ofQ i4 i5,ofQ i6 i7⟩→
   R k' (.tuple #[Rg c0 c1 c2 c3,Rg g0 g1 g2 g3])) :
 Cl k 25 #[.agg #[.int .i64 i0,.int .i64 i1,.int .i64 i2,.int .i64 i3,.int .i64 i4,.int .i64 i5,.int .i64 i6,.int .i64 i7]] R:=by
 intro k0 u0;refine aFf (mN j0 j1 fun k1 c0 u1 w1=>⟨c0,w1.seg,rfl,oW j0 j1 fun k3 g0 u3 w3=>⟨g0,w3.seg,rfl,mN j4 j5 fun k5 c2 u5 w5=>⟨c2,w5.seg,rfl,oW j4 j5 fun k7 g2 u7 w7=>⟨g2,w7.seg,rfl,?_⟩⟩⟩⟩);refine mN j2 j3 fun k9 c1 u9 w9=>⟨c1,w9.seg,rfl,oW j2 j3 fun k11 g1 u11 w11=>⟨g1,w11.seg,rfl,mN j6 j7 fun k13 c3 u13 w13=>⟨c3,w13.seg,rfl,oW j6 j7 fun k15 g3 u15 w15=>⟨g3,w15.seg,rfl,fun k16 u16=>?_⟩⟩⟩⟩;have v9:=u9.trans (u11.trans (u13.trans (u15.trans u16)));have v1:=u3.trans (u5.trans (u7.trans v9));exact C k16 _ _ _ _ _ _ _ _ (u0.trans (u1.trans v1)) ⟨w1.up v1,w9.up (u11.trans (u13.trans (u15.trans u16))),w5.up (u7.trans v9),w13.up (u15.trans u16)⟩ ⟨w3.up (u5.trans (u7.trans v9)),w11.up (u13.trans (u15.trans u16)),w7.up v9,w15.up u16⟩
end
def zN (f:Nat→Nat→Bool):Nat→Nat
 | 0=>0
 | j+1=>if f j (zN f j)=true then j else zN f j
def aWp (s:PSec) (i:Nat):Rat:=(at_ s.mats (at_ s.cells i).m.toNat).done
def aPo (s:PSec) (i:Nat):Rat:=(at_ s.mats (at_ s.cells i).m.toNat).limit
def aVx (s:PSec) (x:PState):List Rat:=(List.range s.cells.length).map fun i=>at_ x.cure i/aWp s i
def aVy (s:PSec) (x:PState):List Rat:=(List.range s.cells.length).map fun i=>at_ x.spoil i/aPo s i
def aXj (l:List Rat) (i b:Nat):Bool:=decide (at_ l i<at_ l b)
def aXk (l:List Rat) (i b:Nat):Bool:=decide (at_ l b<at_ l i)
def bAl (s:PSec) (x:PState):Nat:=zN (aXj (aVx s x)) s.cells.length
def bAc (s:PSec) (x:PState):Nat:=zN (aXk (aVy s x)) s.cells.length
def aHm (s:PSec) (x:PState):Prop:=∀i,i<s.cells.length→¬ at_ x.cure i<aWp s i
def kO (s:PSec) (x:PState):Prop:=¬ ∀i,i<s.cells.length→¬ aPo s i<at_ x.spoil i
instance (s:PSec) (x:PState):Decidable (aHm s x):=by unfold aHm;exact inferInstance
instance (s:PSec) (x:PState):Decidable (kO s x):=by unfold kO;exact inferInstance
def bBf (s:PSec) (b:PBand):Int:=if kO s b.lo then 2 else if kO s b.hi then 3 else if ¬ aHm s b.lo then 1 else 0
section
variable {k k':World}{R:World→Value→Prop}{cs cs':Array Value}{s:PSec}{b:PBand}{x:PState}{l:List Rat}{K L T d n0 n1 n2 d0 d1 d2 n3 n4 n5 d3 d4 d5 n6 d6 n7 d7 n8 d8 n c:Nat}{A A0 A1 A2 A3 A4 A5 A6 A7 A8:Option Addr}
end
section
variable {k:World}{R:World→Value→Prop}{s:PSec}{b x:PBand}{x':PState}{K T n0 n1 n2 d0 d1 d2 n3 n4 n5 d3 d4 d5 n6 d6 n7 d7 n8 d8:Nat}{A0 A1 A2 A3 A4 A5 A6 A7 A8:Option Addr}
end
