/- Several texts in one. (Printed by prep.py.) -/
import Derived.Test.YtebaclefnpipfaaGreatTeFB
import Derived.Test.YtebaclefnpipfaaGreatTeVL6
import Derived.Test.YtebaclefnpipfaaGreatTeCZ2
namespace Go.Proofs.YtebaclefnpipfaaGreat
open Go.RowKit Num W32
open Sy (Up Sees CallsG Seg)
structure PBand where
 (lo hi:PState)
structure PRange where
 (s0 s1 a0 a1:Rat)
def jO (q:Rat):Rat:=xU q 40
def pU (q:Rat):Rat:=-xU (-q) 40
def dH (r:Rat→Rat) (s:PSec) (x:PState) (u v:Rat):PState where
 temp:=(List.range s.cells.length).map fun i=>r (fQ s x u v i)
 cure:=(List.range s.cells.length).map (pY s x)
 spoil:=(List.range s.cells.length).map (kY s x)
def jJ (s:PSec) (b:PBand) (r:PRange):PBand:=⟨dH jO s b.lo r.s0 r.a0,dH pU s b.hi r.s1 r.a1⟩
theorem qW {r:Rat→Rat}{s:PSec}{x:PState}{u v:Rat}:sized s (dH r s x u v):=by simp [sized,dH]
def btw (lo x hi:List Rat):Prop:=lo.length=x.length∧hi.length=x.length∧∀i,i<x.length→¬ at_ x i<at_ lo i∧¬ at_ hi i<at_ x i
instance (lo x hi:List Rat):Decidable (btw lo x hi):=by unfold btw;exact inferInstance
def iE (b:PBand) (x:PState):Prop:=btw b.lo.temp x.temp b.hi.temp∧btw b.lo.cure x.cure b.hi.cure∧btw b.lo.spoil x.spoil b.hi.spoil
instance (b:PBand) (x:PState):Decidable (iE b x):=by unfold iE;exact inferInstance
def aXj (x y:List Rat):Prop:=∃i,i<x.length∧at_ y i<at_ x i
def nW (x y:List Rat):Prop:=∀i,i<x.length→¬ at_ y i<at_ x i
instance (x y:List Rat):Decidable (nW x y):=by unfold nW;exact inferInstance
def alike (x y:PState):Prop:=x.temp.length=y.temp.length∧x.cure.length=y.cure.length∧x.spoil.length=y.spoil.length
instance (x y:PState):Decidable (alike x y):=by unfold alike;exact inferInstance
def iQ (x y:PState):Prop:=alike x y∧nW x.temp y.temp∧nW x.cure y.cure∧nW x.spoil y.spoil
instance (x y:PState):Decidable (iQ x y):=by unfold iQ;exact inferInstance
theorem sY {b:PBand}{x:PState}:iE b x↔iQ b.lo x∧iQ x b.hi:=by
 constructor
 ·rintro⟨⟨a1,a2,a3⟩,⟨b1,b2,b3⟩,c1,c2,c3⟩;exact⟨⟨⟨a1,b1,c1⟩,fun i hi=>(a3 i oq).1,fun i hi=>(b3 i oq).1,fun i hi=>(c3 i oq).1⟩,⟨a2.symm,b2.symm,c2.symm⟩,fun i hi=>(a3 i hi).2,fun i hi=>(b3 i hi).2,fun i hi=>(c3 i hi).2⟩
 ·rintro⟨⟨⟨a1,b1,c1⟩,a3,b3,c3⟩,⟨a2,b2,c2⟩,a4,b4,c4⟩;exact⟨⟨a1,a2.symm,fun i hi=>⟨a3 i oq,a4 i hi⟩⟩,⟨b1,b2.symm,fun i hi=>⟨b3 i oq,b4 i hi⟩⟩,c1,c2.symm,fun i hi=>⟨c3 i oq,c4 i hi⟩⟩
theorem aEt {x:PState}:iQ x x:=⟨⟨rfl,rfl,rfl⟩,fun _ _=>Rat.lt_irrefl,fun _ _=>Rat.lt_irrefl,fun _ _=>Rat.lt_irrefl⟩
theorem wD {b:PBand}:iE b b.lo↔iQ b.lo b.hi:=by
 rw [sY];exact⟨fun h=>h.2,fun h=>⟨aEt,h⟩⟩
def fY (s:PSec) (b:PBand):Int:=if fZ s b.lo≠0 then fZ s b.lo else if ¬ sized s b.hi then 4 else if ¬ iQ b.lo b.hi then 7 else 0
def cZ (r:PRange):Int:=if r.s1<r.s0∨r.a1<r.a0 then 7 else 0
def jZ (s:PSec) (b:PBand) (r:PRange):Int:=if fY s b≠0 then fY s b else cZ r
def iN (s:PSec) (lo hi:Rat):Int:=if aF s≠0 then aF s else if hi<lo then 7 else 0
def dJ (s:PSec) (lo hi:Rat):PBand:=⟨aQ s lo,aQ s hi⟩
def rP:PState:=⟨[],[],[]⟩
def uV (e:Int) (b:PBand):PBand:=if e≠0 then ⟨rP,rP⟩ else b
theorem aFd {s:PSec}{b:PBand}(h:fY s b=0):aF s=0∧sized s b.lo∧sized s b.hi∧iQ b.lo b.hi:=by
 unfold fY at h;split at h
 ·rename_i h1;exact absurd h h1
 ·rename_i h1;obtain⟨h2,h3⟩:=xL (zt.1 h1);split at h
  ·cases h
  ·rename_i h4;split at h
   ·cases h
   ·rename_i h5;exact⟨h2,h3,zt.1 h4,zt.1 h5⟩
theorem aKz {s:PSec}{b:PBand}{r:PRange}(h:jZ s b r=0):fY s b=0:=by
 unfold jZ at h;split at h
 ·rename_i h1;exact absurd h h1
 ·rename_i h1;exact zt.1 h1
structure StateW (N N':World→Array Value→Rat→Prop) (k:World) (A:Option Addr) (n:Nat) (B:Option Addr) (n':Nat) (C:Option Addr) (n'':Nat) (x:PState):Prop where
 temp:Lst k A n 3 (N k) x.temp
 cure:Lst k B n' 3 (N' k) x.cure
 spoil:Lst k C n'' 3 (N' k) x.spoil
theorem StateW.up {N N':World→Array Value→Rat→Prop}(hN:Num3 N) (hN':Num3 N') {k k':World}{A B C:Option Addr}{n n' n'':Nat}{x:PState}(h:StateW N N' k A n B n' C n'' x) (u:Up k k'):StateW N N' k' A n B n' C n'' x:=
 ⟨h.temp.up u fun _ _ h=>hN.up h u,h.cure.up u fun _ _ h=>hN'.up h u,h.spoil.up u fun _ _ h=>hN'.up h u⟩
section
variable {k k':World}{R:World→Value→Prop}{cs cs':Array Value}{u v q:Rat}{s:PSec}{x:PState}{K T d n0 n1 n2 d0 d1 d2 n3 n4 n5 d3 d4 d5 n6 d6 n7 d7 M:Nat}{A0 A1 A2 A3 A4 A5 A6 A7:Option Addr}
theorem aLu (hx:RatV k cs q K) (hK1:1≤K) (hK:K≤100000) (C:∀k' ds,Up k k'→RatV k' ds (jO q) (K+1001)→R k' (.agg ds)) :
 Cl k 73 #[.agg cs] R:=by
 intro k0 u0;refine aHd hx.seg (yW (m:=40) (hx.up u0) hK1 hK fun k1 ds u1 h=>⟨ds,h.seg,rfl,fun k2 u2=>?_⟩);exact C k2 ds ((u0.trans u1).trans u2) (h.up u2)
theorem aQi (hx:RatV k cs q K) (hK1:1≤K) (hK:K≤100000) (C:∀k' ds,Up k k'→RatV k' ds (pU q) (K+1001)→R k' (.agg ds)) :
 Cl k 74 #[.agg cs] R:=by
 intro k0 u0;refine aLm hx.seg (aQa (m:=40) (hx.up u0) hK1 hK fun k1 ds u1 h=>⟨ds,h.seg,rfl,fun k2 u2=>?_⟩);exact C k2 ds ((u0.trans u1).trans u2) (h.up u2)
set_option maxHeartbeats 1000000 in
theorem zW {f:FuncId}{rnd:Rat→Rat}(hvc:aKx f) (hf:∀ {k:World}{cs:Array Value}{q:Rat}{K:Nat}{R:World→Value→Prop},RatV k cs q K→1≤K→K≤100000→(∀k' ds,Up k k'→RatV k' ds (rnd q) (K+1001)→R k' (.agg ds))→∀k0,Up k k0→CallsG Tryz.prog f #[.agg cs] k0 R) (hs:SecV (NP K) k A0 n0 A1 n1 A2 n2 s) (hx:StateV (NP T) k A3 n3 A4 n4 A5 n5 x) (hM:NbV (NP K) k M s.links) (hu:RatV k cs u K) (hv:RatV k cs' v K) (hE:aF s=0) (hz:sized s x)
 (hd:∀i,i<s.cells.length→(nbm s.links (i:Nat)).length≤d) (hK1:1≤K) (hT1:1≤T) (hT:aU K d T≤90000) (hd2:d≤128)
 (C:∀k' B0 m0 e0 B1 m1 e1 B2 m2 e2,Up k k'→StateW (NP (aU K d T+1001)) (NP (T+K+1)) k' B0 m0 B1 m1 B2 m2 (dH rnd s x u v)→R k' (S3 B0 m0 e0 B1 m1 e1 B2 m2 e2)) :
 Cl k 35 #[.agg #[.slice A0 n0 d0,.slice A1 n1 d1,.slice A2 n2 d2,.map (some M)],S3 A3 n3 d3 A4 n4 d4 A5 n5 d5,.agg cs,.agg cs',.func (.func f) #[] #[]] R:=by
 intro k0 u0;have hN:=aD K;have hNT:=aD T;replace hs:=SecV.up hN hs u0;replace hx:=StateV.up hNT hx u0;replace hM:=NbV.up hN hM u0;replace hu:=hu.up u0;replace hv:=hv.up u0;replace C:=fun k' B0 m0 e0 B1 m1 e1 B2 m2 e2 u=>C k' B0 m0 e0 B1 m1 e1 B2 m2 e2 (u0.trans u);clear u0;have e1:=hs.cells.1;obtain⟨z3,z4,z5⟩:=hz;have f3:=hx.temp.1;have f4:=hx.cure.1;have f5:=hx.spoil.1;have hn24:n1≤24:=by have:=bF hE;unfold bW at this;omega
 have hW:3*T+5*K+4≤300000000:=by unfold aU at hT;omega
 have hup:∀ {W:Nat}{k k':World}{xs:Array Value}{j:Nat}{f:Nat→Rat},Up k k'→ArrV j 3 (NP W k) xs f→ArrV j 3 (NP W k') xs f:=fun u h=>h.mono fun _ _ h=>h.up u;have hseg:∀ {W:Nat}{k:World},∀a v,NP W k a v→Seg 3 a:=fun _ _ h=>h.seg
 refine hvc hu.seg hv.seg ⟨rfl,fun m k vs=>∃(j:Nat) (B0 B1 B2:Option Addr) (e0 e1 e2:Nat) (x0 x1 x2:Array Value),j+m=n1∧vs=[.int .i64 j,.tuple #[.slice B0 j e0,.agg x0],.tuple #[.slice B1 j e1,.agg x1],.tuple #[.slice B2 j e2,.agg x2]]∧
  ArrV j 3 (NP (aU K d T+1001) k) x0 (at_ (dH rnd s x u v).temp)∧ArrV j 3 (NP (T+K+1) k) x1 (at_ (dH rnd s x u v).cure)∧ArrV j 3 (NP (T+K+1) k) x2 (at_ (dH rnd s x u v).spoil),
  ⟨n1,fun k1 u1=>⟨0,_,_,_,_,_,_,_,_,_,oq,rfl,ArrV.empty,ArrV.empty,ArrV.empty⟩⟩,?_⟩
 rintro m k1 vs u1 ⟨j,B0,B1,B2,g0,g1,g2,x0,x1,x2,hj,rfl,h0,h1,h2⟩;refine⟨j,B0,j,g0,x0,h0.rowC hseg,B1,j,g1,x1,h1.rowC hseg,B2,j,g2,x2,h2.rowC hseg,rfl,fun hlt=>?_,fun hge k2 u2 r0 k3 u3 r1 k4 u4 r2 k5 u5=>?_⟩
 ·have hlt:=aL hlt;have hjn:j<s.cells.length:=oq
  replace hs:=SecV.up hN hs u1;replace hx:=StateV.up hNT hx u1;replace hM:=NbV.up hN hM u1;replace hu:=hu.up u1;replace hv:=hv.up u1;replace C:=fun k' B0 m0 e0 B1 m1 e1 B2 m2 e2 u=>C k' B0 m0 e0 B1 m1 e1 B2 m2 e2 (u1.trans u);obtain⟨a,_,⟨c0,c1,c2,rfl,q0,q1,q2⟩,ha,hb,hr,_⟩:=hs.cells.el (i:=j) hjn oz;obtain⟨t,_,ht,ta,tb,tr,_⟩:=hx.temp.el (i:=j) oq oz;obtain⟨hm0,hm1,_⟩:=gD hE hjn;have tT1:1≤K+T+1:=oq
  refine⟨ha,hb,_,c0,q0.seg,c1,q1.seg,c2,q2.seg,hr k1 (Up.refl _),ta,tb,t,ht.seg,tr k1 (Up.refl _),?_⟩;refine kE hu ht hK1 hT1 oq oq fun k2 y2 u2 w2=>⟨y2,w2.seg,rfl,?_⟩;refine jI (q1.up u2) w2 hK1 oq oq oq fun k4 y4 u4 w4=>⟨y4,w4.seg,rfl,?_⟩;refine kE ((hv.up u2).up u4) ((ht.up u2).up u4) hK1 hT1 oq oq fun k6 y6 u6 w6=>⟨y6,w6.seg,rfl,?_⟩;refine jI (((q2.up u2).up u4).up u6) w6 hK1 oq oq oq fun k8 y8 u8 w8=>⟨y8,w8.seg,rfl,?_⟩;refine dI ((w4.up u6).up u8) w8 oq oq oq oq fun k10 y10 u10 w10=>⟨y10,w10.seg,rfl,?_⟩;have v10:=(((u2.trans u4).trans u6).trans u8).trans u10;replace hs:=SecV.up hN hs v10;replace hx:=StateV.up hNT hx v10;replace hM:=NbV.up hN hM v10;replace C:=fun k' B0 m0 e0 B1 m1 e1 B2 m2 e2 u=>C k' B0 m0 e0 B1 m1 e1 B2 m2 e2 (v10.trans u);replace ht:=ht.up v10;replace q0:=q0.up v10;replace h0:=hup v10 h0;replace h1:=hup v10 h1;replace h2:=hup v10 h2;clear v10 u2 u4 u6 u8 u10 w2 w4 w6 w8 q1 q2 hr tr hu hv;obtain⟨B,p,q,hlook,hl⟩:=hM j oq;have hp:=hl.1;have hpd:=hd j hjn
  refine⟨B,p,q,hlook,rfl,fun m k vs=>∃(i:Nat) (ds:Array Value),i+m=p∧vs=[.int .i64 i,.agg ds]∧
   RatV k ds (((nbm s.links j).take i).foldl (fun t l=>t+l.v*(at_ x.temp (l.a+l.b-(j:Int)).toNat-at_ x.temp j)) ((at_ s.cells j).steam*(u-at_ x.temp j)+(at_ s.cells j).air*(v-at_ x.temp j))) (4*K+2*T+3+i*(K+2*T+2)),
   ⟨p,fun k1 u1=>⟨0,y10,oq,rfl,(w10.up u1).mono oq⟩⟩,?_⟩
  rintro m' k11 vs u11 ⟨i,es,hi,rfl,he⟩;have hmul:i*(K+2*T+2)≤d*(K+2*T+2):=ob _ oq;have hW2:3*T+5*K+4+i*(K+2*T+2)≤300000000:=by unfold aU at hT;omega
  refine⟨i,es,he.seg,rfl,fun hlt'=>?_,fun hge'=>?_⟩
  ·have hlt':=aL hlt';obtain⟨a,_,hlk,ha,hb,hr,_⟩:=(hl.up u11 fun _ _ h=>LinkV.up hN h u11).el (i:=i) oq oz;obtain⟨c3,rfl,g3⟩:=id hlk;have hmem:at_ (nbm s.links j) i∈nbm s.links j:=aLd oq;obtain⟨o,eo,ho⟩:=aAy hE hjn hmem;obtain⟨⟨l1,l2⟩,l3,l4⟩:=eK (dP hE) _ (lH hmem).1;refine⟨ha,hb,_,_,c3,g3.seg,hr k11 (Up.refl _),zN hlk l1 oq l3 oq oq fun k13 u13=>⟨_,rfl,?_⟩⟩;rw [eo];obtain⟨t',_,ht',ta',tb',tr',_⟩:=hx.temp.el (i:=o) oq oz;refine⟨ta',tb',t',ht'.seg,tr' k13 (u11.trans u13),?_⟩;refine kE ((ht'.up u11).up u13) ((ht.up u11).up u13) hT1 hT1 oq oq fun k15 y15 u15 w15=>⟨y15,w15.seg,rfl,?_⟩;refine jI ((g3.up u13).up u15) w15 hK1 oq oq oq fun k17 y17 u17 w17=>⟨y17,w17.seg,rfl,?_⟩;have hW3:4*K+2*T+3+i*(K+2*T+2)≤300000000:=oq
   refine dI (((he.up u13).up u15).up u17) w17 oq oq hW3 oq fun k19 y19 u19 w19=>⟨y19,w19.seg,rfl,fun k20 u20=>⟨m'-1,oq,i+1,y19,oq,by rw [aH oq],?_⟩⟩;rw [pL oq,eo,xq];exact (w19.up u20).mono (by have:(i+1)*(K+2*T+2)=i*(K+2*T+2)+(K+2*T+2):=jr _ _;omega)
  ·have hge':=aO hge';rw [zm oq]at he;have hflow:RatV k11 es (flow s x u v j) (4*K+2*T+3+i*(K+2*T+2)):=he;clear he hlook hl;replace hs:=SecV.up hN hs u11;replace hx:=StateV.up hNT hx u11;replace C:=fun k' B0 m0 e0 B1 m1 e1 B2 m2 e2 u=>C k' B0 m0 e0 B1 m1 e1 B2 m2 e2 (u11.trans u);replace ht:=ht.up u11;replace q0:=q0.up u11;replace h0:=hup u11 h0;replace h1:=hup u11 h1;replace h2:=hup u11 h2;have hmi:(at_ s.cells j).m=(((at_ s.cells j).m.toNat:Nat):Int):=oq
   obtain⟨a,_,⟨D,p1,r1,F,p2,r2,c4,c5,rfl,l0,l1,s0,s1⟩,ha',hb',hr',_⟩:=hs.mats.el (i:=(at_ s.cells j).m.toNat) oq oz;obtain⟨hr1,hr2⟩:=aNx hE (i:=(at_ s.cells j).m.toNat) oq;rw [←hmi]at hb' hr';refine⟨ha',hb',D,p1,r1,F,p2,r2,c4,s0.seg,c5,s1.seg,hr' k11 (Up.refl _),?_⟩;refine xQ hflow q0 oq hK1 oq oq fun k22 y22 u22 w22=>⟨y22,w22.seg,rfl,?_⟩;refine dI (ht.up u22) w22 hT1 oq oq oq fun k24 y24 u24 w24=>⟨y24,w24.seg,rfl,?_⟩;refine hf w24 oq (by unfold aU at hT;omega) fun k26 y26 u26 w26=>⟨y26,w26.seg,rfl,by simp [w26.seg.1],oz,⟨by simp;omega,by simp;omega⟩,?_⟩;rintro B0' _ g0' _ rfl rfl _;have v26:=(u22.trans u24).trans u26;have w24':=w26;replace ht:=ht.up v26;replace l0:=bJ hN l0 v26;replace l1:=bJ hN l1 v26;replace hx:=StateV.up hNT hx v26;replace C:=fun k' B0 m0 e0 B1 m1 e1 B2 m2 e2 u=>C k' B0 m0 e0 B1 m1 e1 B2 m2 e2 (v26.trans u);replace h0:=hup v26 h0;replace h1:=hup v26 h1;replace h2:=hup v26 h2;clear v26 u22 u24 u26 w22 w24 w26 hflow;obtain⟨t3,_,ht3,ta3,tb3,tr3,_⟩:=hx.cure.el (i:=j) oq oz;obtain⟨t4,_,ht4,ta4,tb4,tr4,_⟩:=hx.spoil.el (i:=j) oq oz;refine⟨ta3,tb3,t3,ht3.seg,tr3 k26 (Up.refl _),?_⟩;refine nE l0 ht hT1 oq oq (by rw [l0.1];have:=rates16 hr1;omega) fun k28 y28 u28 w28=>⟨y28,w28.seg,rfl,?_⟩;refine dI (ht3.up u28) w28 hT1 hK1 oq oq fun k30 y30 u30 w30=>⟨y30,w30.seg,rfl,by simp [w30.seg.1],oz,⟨by simp;omega,by simp;omega⟩,?_⟩;rintro B1' _ g1' _ rfl rfl _;refine⟨ta4,tb4,t4,ht4.seg,tr4 k30 (u28.trans u30),?_⟩;refine nE (bJ hN (bJ hN l1 u28) u30) ((ht.up u28).up u30) hT1 oq oq (by rw [l1.1];have:=rates16 hr2;omega) fun k32 y32 u32 w32=>⟨y32,w32.seg,rfl,?_⟩;refine dI (((ht4.up u28).up u30).up u32) w32 hT1 hK1 oq oq fun k34 y34 u34 w34=>⟨y34,w34.seg,rfl,by simp [w34.seg.1],oz,⟨by simp;omega,by simp;omega⟩,?_⟩;rintro B2' _ g2' _ rfl rfl _ k35 u35;have v34:=((u28.trans u30).trans u32).trans u34;have hpe:i=d∨i≤d:=Or.inr oq;have hi2:i*(K+2*T+2)≤d*(K+2*T+2):=hmul;refine⟨m-1,oq,j+1,B0',B1',B2',g0',g1',g2',_,_,_,oq,by rw [aH oq];rfl,?_,?_,?_⟩
   ·rw [oa];refine ArrV.push (hup (v34.trans u35) h0) w24'.seg.1 ?_;rw [show at_ (dH rnd s x u v).temp j=rnd (fQ s x u v j) from aM hjn];exact ((w24'.up v34).up u35).mono (by unfold aU;omega)
   ·rw [oa];refine ArrV.push (hup (v34.trans u35) h1) w30.seg.1 ?_;rw [show at_ (dH rnd s x u v).cure j=pY s x j from aM hjn];exact (((w30.up u32).up u34).up u35).mono oq
   ·rw [oa];refine ArrV.push (hup (v34.trans u35) h2) w34.seg.1 ?_;rw [show at_ (dH rnd s x u v).spoil j=kY s x j from aM hjn];exact (w34.up u35).mono oq
 ·have hge:=aO hge;have ej:j=n1:=oq
  refine C k5 _ _ _ _ _ _ _ _ _ ((((u1.trans u2).trans u3).trans u4).trans u5) ⟨?_,?_,?_⟩
  ·exact fU (by simp [dH];omega) (hup (((u2.trans u3).trans u4).trans u5) h0) hseg (eO r0 ((u3.trans u4).trans u5))
  ·exact fU (by simp [dH];omega) (hup (((u2.trans u3).trans u4).trans u5) h1) hseg (eO r1 (u4.trans u5))
  ·exact fU (by simp [dH];omega) (hup (((u2.trans u3).trans u4).trans u5) h2) hseg (eO r2 u5)
theorem aMg (hs:SecV (NP K) k A0 n0 A1 n1 A2 n2 s) (hx:StateV (NP T) k A3 n3 A4 n4 A5 n5 x) (hM:NbV (NP K) k M s.links) (hu:RatV k cs u K) (hv:RatV k cs' v K) (hE:aF s=0) (hz:sized s x)
 (hd:∀i,i<s.cells.length→(nbm s.links (i:Nat)).length≤d) (hK1:1≤K) (hT1:1≤T) (hT:aU K d T≤90000) (hd2:d≤128)
 (C:∀k' B0 m0 e0 B1 m1 e1 B2 m2 e2,Up k k'→StateW (NP (aU K d T+1001)) (NP (T+K+1)) k' B0 m0 B1 m1 B2 m2 (dH jO s x u v)→R k' (S3 B0 m0 e0 B1 m1 e1 B2 m2 e2)) :
 Cl k 35 #[.agg #[.slice A0 n0 d0,.slice A1 n1 d1,.slice A2 n2 d2,.map (some M)],S3 A3 n3 d3 A4 n4 d4 A5 n5 d5,.agg cs,.agg cs',.func (.func 73) #[] #[]] R:=
 zW aHr aLu hs hx hM hu hv hE hz hd hK1 hT1 hT hd2 C
theorem aMf (hs:SecV (NP K) k A0 n0 A1 n1 A2 n2 s) (hx:StateV (NP T) k A3 n3 A4 n4 A5 n5 x) (hM:NbV (NP K) k M s.links) (hu:RatV k cs u K) (hv:RatV k cs' v K) (hE:aF s=0) (hz:sized s x)
 (hd:∀i,i<s.cells.length→(nbm s.links (i:Nat)).length≤d) (hK1:1≤K) (hT1:1≤T) (hT:aU K d T≤90000) (hd2:d≤128)
 (C:∀k' B0 m0 e0 B1 m1 e1 B2 m2 e2,Up k k'→StateW (NP (aU K d T+1001)) (NP (T+K+1)) k' B0 m0 B1 m1 B2 m2 (dH pU s x u v)→R k' (S3 B0 m0 e0 B1 m1 e1 B2 m2 e2)) :
 Cl k 35 #[.agg #[.slice A0 n0 d0,.slice A1 n1 d1,.slice A2 n2 d2,.map (some M)],S3 A3 n3 d3 A4 n4 d4 A5 n5 d5,.agg cs,.agg cs',.func (.func 74) #[] #[]] R:=
 zW aHq aQi hs hx hM hu hv hE hz hd hK1 hT1 hT hd2 C
end
structure RangeV (N:World→Array Value→Rat→Prop) (k:World) (c0 c1 c2 c3:Array Value) (r:PRange):Prop where
 s0:N k c0 r.s0
 s1:N k c1 r.s1
 a0:N k c2 r.a0
 a1:N k c3 r.a1
theorem RangeV.up {N:World→Array Value→Rat→Prop}(hN:Num3 N) {k k':World}{c0 c1 c2 c3:Array Value}{r:PRange}(h:RangeV N k c0 c1 c2 c3 r) (u:Up k k'):RangeV N k' c0 c1 c2 c3 r:=⟨hN.up h.s0 u,hN.up h.s1 u,hN.up h.a0 u,hN.up h.a1 u⟩
def uG (x:PState):Prop:=x.temp.length≤1000000∧x.cure.length≤1000000∧x.spoil.length≤1000000
section
variable {k k':World}{R:World→Value→Prop}{c0 c1 c2 c3 cs cs':Array Value}{s:PSec}{b b':PBand}{x:PState}{r:PRange}{l0 l1 l2:List Rat}{u v:Rat}{K L T T' d M n0 n1 n2 d0 d1 d2 n3 n4 n5 d3 d4 d5 n6 d6 n7 d7 n8 d8 n9 d9 n10 d10 n11 d11:Nat}{A0 A1 A2 A3 A4 A5 A6 A7 A8 A9 A10 A11:Option Addr}
theorem aCn (h0:Lst k A0 n0 3 (NP K k) l0) (h1:Lst k A1 n1 3 (NP L k) l1) (h2:Lst k A2 n2 3 (NP K k) l2) (hK1:1≤K) (hL1:1≤L) (hK:K≤300000000) (hL:L≤300000000) (hn:l1.length≤1000000)
 (C:∀k',Up k k'→R k' (.bool (decide (btw l0 l1 l2)))) :
 Cl k 41 #[.slice A0 n0 d0,.slice A1 n1 d1,.slice A2 n2 d2] R:=by
 intro k0 u0;replace h0:=h0.up u0 fun _ _ h=>h.up u0;replace h1:=h1.up u0 fun _ _ h=>h.up u0;replace h2:=h2.up u0 fun _ _ h=>h.up u0;replace C:=fun k' u=>C k' (u0.trans u);have e0:=h0.1;have e1:=h1.1;have e2:=h2.1;have no:¬ btw l0 l1 l2→∀k',Up k0 k'→R k' (.bool false):=fun h k' u=>by have:=C k' u;rwa [decide_eq_false h]at this
 refine aQh ⟨rfl,rfl,fun a k1 u1=>no (fun h=>?_) k1 u1,fun a=>⟨rfl,rfl,fun c k1 u1=>no (fun h=>?_) k1 u1,fun c=>⟨rfl,?_⟩⟩⟩
 ·have:=h.1;simp at a;omega
 ·have:=h.2.1;simp at c;omega
 have a:n0=n1:=by simp at a;omega
 have c:n2=n1:=by simp at c;omega
 refine⟨fun m k vs=>∃j:Nat,j+m=n1∧vs=[.int .i64 j]∧∀i,i<j→¬ at_ l1 i<at_ l0 i∧¬ at_ l2 i<at_ l1 i,⟨n1,fun k1 u1=>⟨0,oq,rfl,fun i hi=>oq⟩⟩,?_⟩;rintro m k1 vs u1 ⟨j,hj,rfl,hz⟩;refine⟨j,rfl,fun hlt=>?_,fun hge k2 u2=>?_⟩
 ·have hlt:=aL hlt;obtain⟨y,_,gy,ya,yb,yr,_⟩:=(h1.up u1 fun _ _ h=>h.up u1).el (i:=j) oq oz;obtain⟨z,_,gz,za,zb,zr,_⟩:=(h0.up u1 fun _ _ h=>h.up u1).el (i:=j) oq oz;obtain⟨w,_,gw,wa,wb,wr,_⟩:=(h2.up u1 fun _ _ h=>h.up u1).el (i:=j) oq oz;refine⟨ya,yb,y,gy.seg,yr k1 (Up.refl _),za,zb,z,gz.seg,zr k1 (Up.refl _),cN gy gz hL1 hL hK fun k4 u4=>⟨_,rfl,fun f k5 u5=>no (fun h=>?_) k5 (u1.trans (u4.trans u5)),fun f=>⟨wa,wb,w,gw.seg,wr k4 u4,ya,yb,y,gy.seg,yr k4 u4,cN (gw.up u4) (gy.up u4) hK1 hK hL fun k7 u7=>⟨_,rfl,fun g k8 u8=>no (fun h=>?_) k8 (u1.trans (u4.trans (u7.trans u8))),fun g k9 u9=>?_⟩⟩⟩⟩
  ·exact (h.2.2 j oq).1 (ow f)
  ·exact (h.2.2 j oq).2 (ow g)
  ·exact⟨m-1,oq,j+1,oq,by rw [aH oq],eA hz ⟨ov f,ov g⟩⟩
 ·have hge:=aO hge;have:=C k2 (u1.trans u2)
  rwa [decide_eq_true (show btw l0 l1 l2 from⟨oq,oq,fun i hi=>hz i oq⟩)]at this
theorem oV (hl:StateV (NP K) k A0 n0 A1 n1 A2 n2 b.lo) (hh:StateV (NP K) k A3 n3 A4 n4 A5 n5 b.hi) (hx:StateV (NP L) k A6 n6 A7 n7 A8 n8 x) (hK1:1≤K) (hL1:1≤L) (hK:K≤300000000) (hL:L≤300000000) (hn:uG x)
 (C:∀k',Up k k'→R k' (.bool (decide (iE b x)))) :
 Cl k 14 #[S6 A0 n0 d0 A1 n1 d1 A2 n2 d2 A3 n3 d3 A4 n4 d4 A5 n5 d5,S3 A6 n6 d6 A7 n7 d7 A8 n8 d8] R:=by
 intro k0 u0;have hN:=aD K;have hM:=aD L;replace hl:=StateV.up hN hl u0;replace hh:=StateV.up hN hh u0;replace hx:=StateV.up hM hx u0;replace C:=fun k' u=>C k' (u0.trans u);refine aCt (aCn hl.temp hx.temp hh.temp hK1 hL1 hK hL hn.1 fun k1 u1=>⟨_,rfl,fun f=>aCn (StateV.up hN hl u1).cure (StateV.up hM hx u1).cure (StateV.up hN hh u1).cure hK1 hL1 hK hL hn.2.1 fun k3 u3=>⟨_,rfl,fun g=>aCn (StateV.up hN hl (u1.trans u3)).spoil (StateV.up hM hx (u1.trans u3)).spoil (StateV.up hN hh (u1.trans u3)).spoil hK1 hL1 hK hL hn.2.2 fun k5 u5=>⟨_,rfl,fun k6 u6=>?_⟩,fun g k7 u7=>?_⟩,fun f k8 u8=>?_⟩)
 ·have:=C k6 ((u1.trans u3).trans (u5.trans u6))
  rwa [show decide (iE b x)=decide (btw b.lo.spoil x.spoil b.hi.spoil) from decide_eq_decide.2 ⟨fun h=>h.2.2,fun h=>⟨ow f,ow g,h⟩⟩]at this
 ·have:=C k7 ((u1.trans u3).trans u7)
  rwa [decide_eq_false fun h=>ov g h.2.1]at this
 ·have:=C k8 (u1.trans u8)
  rwa [decide_eq_false fun h=>ov f h.1]at this
theorem aFg (hs:SecV (NP K) k A0 n0 A1 n1 A2 n2 s) (hl:StateV (NP T) k A3 n3 A4 n4 A5 n5 b.lo) (hh:StateV (NP T) k A6 n6 A7 n7 A8 n8 b.hi) (hK1:1≤K) (hK:K≤1000000) (hT1:1≤T) (hT:T≤300000000)
 (C:∀k',Up k k'→R k' (.int .i64 (fY s b))) :
 Cl k 42 #[S3 A0 n0 d0 A1 n1 d1 A2 n2 d2,S6 A3 n3 d3 A4 n4 d4 A5 n5 d5 A6 n6 d6 A7 n7 d7 A8 n8 d8] R:=by
 intro k0 u0;have hN:=aD K;have hM:=aD T;replace hs:=SecV.up hN hs u0;replace hl:=StateV.up hM hl u0;replace hh:=StateV.up hM hh u0;replace C:=fun k' u=>C k' (u0.trans u);have e1:=hs.cells.1;have f3:=hh.temp.1;have f4:=hh.cure.1;have f5:=hh.spoil.1;refine aLj (xM hs hl.temp.1 hl.cure.1 hl.spoil.1 hK1 hK fun k1 u1=>⟨_,rfl,fun f k2 u2=>?_,fun f=>zV fun k4 u4=>⟨_,rfl,fun g k5 u5=>?_,fun g=>?_⟩⟩)
 ·have:=C k2 (u1.trans u2);unfold fY at this
  rwa [og (dW f)]at this
 ·have hz:¬ (n6=n1∧n7=n1∧n8=n1):=fun h=>by rw [og h]at g;cases g
  have:=C k5 (u1.trans (u4.trans u5));unfold fY at this;rw [oh (by simp [cO f]),if_pos (by unfold sized;omega)]at this
  rwa [oh hz]
 ·have hz:n6=n1∧n7=n1∧n8=n1:=wv fun h=>by rw [oh h]at g;cases g
  have hsz:sized s b.hi:=by unfold sized;omega
  obtain⟨hE,z1,z2,z3⟩:=xL (cO f);have hc24:s.cells.length≤24:=by have:=bF hE;unfold bW at this;omega
  have v4:=u1.trans u4;refine oV (b:=b) (StateV.up hM hl v4) (StateV.up hM hh v4) (StateV.up hM hl v4) hT1 hT1 hT hT ⟨oq,oq,oq⟩ fun k7 u7=>⟨_,rfl,fun h k8 u8=>?_,fun h k9 u9=>?_⟩
  ·have:=C k8 (v4.trans (u7.trans u8));unfold fY at this
   rwa [oh (by simp [cO f]),if_neg (fun h=>h hsz),if_pos fun h'=>ov (by simpa using h) (wD.2 h')]at this
  ·have:=C k9 (v4.trans (u7.trans u9));unfold fY at this
   rwa [oh (by simp [cO f]),if_neg (fun h=>h hsz),if_neg fun h'=>h' (wD.1 (ow (by simpa using h)))]at this
theorem zO (hr:RangeV (NP K) k c0 c1 c2 c3 r) (hK1:1≤K) (hK:K≤300000000) (C:∀k',Up k k'→R k' (.int .i64 (cZ r))) :
 Cl k 79 #[Rg c0 c1 c2 c3] R:=by
 intro k0 u0;replace hr:=RangeV.up (aD K) hr u0;replace C:=fun k' u=>C k' (u0.trans u);unfold cZ at C;refine aHj hr.s0.seg hr.s1.seg hr.a0.seg hr.a1.seg (cN hr.s1 hr.s0 hK1 hK hK fun k1 u1=>⟨_,rfl,fun f k2 u2=>?_,fun f=>cN (hr.a1.up u1) (hr.a0.up u1) hK1 hK hK fun k4 u4=>⟨_,rfl,fun g k5 u5=>?_,fun g k6 u6=>?_⟩⟩)
 ·have:=C k2 (u1.trans u2)
  rwa [og (Or.inl (ow f))]at this
 ·have:=C k5 (u1.trans (u4.trans u5))
  rwa [og (Or.inr (ow g))]at this
 ·have:=C k6 (u1.trans (u4.trans u6))
  rwa [oh (not_or.2 ⟨ov f,ov g⟩)]at this
theorem aLf (hs:SecV (NP K) k A0 n0 A1 n1 A2 n2 s) (hl:StateV (NP T) k A3 n3 A4 n4 A5 n5 b.lo) (hh:StateV (NP T) k A6 n6 A7 n7 A8 n8 b.hi) (hM:NbV (NP K) k M s.links) (hr:RangeV (NP K) k c0 c1 c2 c3 r) (hE:aF s=0) (hz:sized s b.lo) (hz':sized s b.hi)
 (hd:∀i,i<s.cells.length→(nbm s.links (i:Nat)).length≤d) (hK1:1≤K) (hT1:1≤T) (hT:aU K d T≤90000) (hd2:d≤128)
 (C:∀k' B0 m0 e0 B1 m1 e1 B2 m2 e2 B3 m3 e3 B4 m4 e4 B5 m5 e5,Up k k'→StateW (NP (aU K d T+1001)) (NP (T+K+1)) k' B0 m0 B1 m1 B2 m2 (jJ s b r).lo→StateW (NP (aU K d T+1001)) (NP (T+K+1)) k' B3 m3 B4 m4 B5 m5 (jJ s b r).hi→
   R k' (S6 B0 m0 e0 B1 m1 e1 B2 m2 e2 B3 m3 e3 B4 m4 e4 B5 m5 e5)) :
 Cl k 40 #[.agg #[.slice A0 n0 d0,.slice A1 n1 d1,.slice A2 n2 d2,.map (some M)],S6 A3 n3 d3 A4 n4 d4 A5 n5 d5 A6 n6 d6 A7 n7 d7 A8 n8 d8,Rg c0 c1 c2 c3] R:=by
 intro k0 u0;have hN:=aD K;have hNT:=aD T;replace hr:=RangeV.up hN hr u0;refine aQg hr.s0.seg hr.s1.seg hr.a0.seg hr.a1.seg (aMg (SecV.up hN hs u0) (StateV.up hNT hl u0) (NbV.up hN hM u0) hr.s0 hr.a0 hE hz hd hK1 hT1 hT hd2 fun k1 B0 m0 e0 B1 m1 e1 B2 m2 e2 u1 h1=>⟨_,_,_,_,_,_,_,_,_,rfl,?_⟩);have v1:=u0.trans u1;refine aMf (SecV.up hN hs v1) (StateV.up hNT hh v1) (NbV.up hN hM v1) (hr.s1.up u1) (hr.a1.up u1) hE hz' hd hK1 hT1 hT hd2 fun k3 B3 m3 e3 B4 m4 e4 B5 m5 e5 u3 h3=>⟨_,_,_,_,_,_,_,_,_,rfl,fun k4 u4=>?_⟩;exact C k4 _ _ _ _ _ _ _ _ _ _ _ _ _ _ _ _ _ _ (v1.trans (u3.trans u4)) (StateW.up (aD _) (aD _) h1 (u3.trans u4)) (StateW.up (aD _) (aD _) h3 u4)
theorem aLk (hs:SecV (NP K) k A0 n0 A1 n1 A2 n2 s) (hu:RatV k cs u K) (hv:RatV k cs' v K) (hK1:1≤K) (hK:K≤1000000)
 (C:∀k' B0 m0 e0 B1 m1 e1 B2 m2 e2 B3 m3 e3 B4 m4 e4 B5 m5 e5,Up k k'→StateV (NP K) k' B0 m0 B1 m1 B2 m2 (uV (iN s u v) (dJ s u v)).lo→StateV (NP K) k' B3 m3 B4 m4 B5 m5 (uV (iN s u v) (dJ s u v)).hi→
   R k' (.tuple #[S6 B0 m0 e0 B1 m1 e1 B2 m2 e2 B3 m3 e3 B4 m4 e4 B5 m5 e5,.int .i64 (iN s u v)])) :
 Cl k 9 #[S3 A0 n0 d0 A1 n1 d1 A2 n2 d2,.agg cs,.agg cs'] R:=by
 intro k0 u0;have hN:=aD K;replace hs:=SecV.up hN hs u0;replace hu:=hu.up u0;replace hv:=hv.up u0;replace C:=fun k' B0 m0 e0 B1 m1 e1 B2 m2 e2 B3 m3 e3 B4 m4 e4 B5 m5 e5 u=>C k' B0 m0 e0 B1 m1 e1 B2 m2 e2 B3 m3 e3 B4 m4 e4 B5 m5 e5 (u0.trans u);have bad:∀e:Int,iN s u v=e→e≠0→∀k',Up k0 k'→R k' (.tuple #[S6 none 0 0 none 0 0 none 0 0 none 0 0 none 0 0 none 0 0,.int .i64 e]):=fun e he h0 k' u=>by
  have:=C k' none 0 0 none 0 0 none 0 0 none 0 0 none 0 0 none 0 0 u (by unfold uV;rw [he,og h0];exact⟨.nil,.nil,.nil⟩) (by unfold uV;rw [he,og h0];exact⟨.nil,.nil,.nil⟩)
  rwa [he]at this
 refine aGt hu.seg hv.seg (nF hs hK1 hK fun k1 u1=>⟨_,rfl,fun f k2 u2=>?_,fun f=>cN (hv.up u1) (hu.up u1) hK1 oq oq fun k4 u4=>⟨_,rfl,fun g k5 u5=>?_,fun g=>?_⟩⟩)
 ·exact bad _ (by unfold iN;rw [og (dW f)]) (dW f) k2 (u1.trans u2)
 ·exact bad 7 (by unfold iN;rw [oh (by simp [cO f]),if_pos (ow g)]) oz k5 (u1.trans (u4.trans u5))
 ·have f:=cO f;have hA:iN s u v=0:=by unfold iN;rw [oh (by simp [f]),if_neg (ov g)]
  rw [hA]at C;unfold uV at C;rw [oh (by simp)]at C;have hc24:s.cells.length≤24:=by have:=bF f;unfold bW at this;omega
  have hce:=hs.cells.1;have v4:=u1.trans u4;refine sJ (s:=s) hce oq (hu.up v4) fun k7 B0 m0 e0 B1 m1 e1 B2 m2 e2 u7 h7=>⟨_,_,_,_,_,_,_,_,_,rfl,?_⟩;refine sJ (s:=s) hce oq (hv.up (v4.trans u7)) fun k9 B3 m3 e3 B4 m4 e4 B5 m5 e5 u9 h9=>⟨_,_,_,_,_,_,_,_,_,rfl,fun k10 u10=>?_⟩;exact C k10 _ _ _ _ _ _ _ _ _ _ _ _ _ _ _ _ _ _ ((v4.trans u7).trans (u9.trans u10)) (StateV.up (aD _) h7 (u9.trans u10)) (StateV.up (aD _) h9 u10)
end
open Sy (Up Sees CallsG Seg ReadIn)
def NF (W:Nat) (k:World) (a:Array Value) (v:Rat×Bool):Prop:=QV k a v.1 (bif v.2 then W+2003 else W)
section
variable {k k':World}{R:World→Value→Prop}{c0 c1 c2 c3 cs cs':Array Value}{s:PSec}{b b':PBand}{x y:PState}{r:PRange}{l0 l1 l2:List Rat}{u v:Rat}{K L T T' d M n0 n1 n2 d0 d1 d2 n3 n4 n5 d3 d4 d5 n6 d6 n7 d7 n8 d8 n9 d9 n10 d10 n11 d11:Nat}{A0 A1 A2 A3 A4 A5 A6 A7 A8 A9 A10 A11:Option Addr}
end
open Sy (Up Sees CallsG Seg ReadAt)
def few30 (x:PState):Prop:=x.temp.length≤30∧x.cure.length≤30∧x.spoil.length≤30
def small5 (x:PState):Prop:=x.temp.length≤100000∧x.cure.length≤100000∧x.spoil.length≤100000
section
variable {k:World}{R:World→Value→Prop}{s:PSec}{b x y:PBand}{z:PState}{K L n0 n1 n2 d0 d1 d2 n3 n4 n5 d3 d4 d5 n6 d6 n7 d7 n8 d8 n9 d9 n10 d10 n11 d11 n12 d12 n13 d13 n14 d14 n15 d15 n16 d16 n17 d17:Nat}{A0 A1 A2 A3 A4 A5 A6 A7 A8 A9 A10 A11 A12 A13 A14 A15 A16 A17:Option Addr}{i0 i1 i2 i3 i4 i5 i6 i7:Int}
end
def bV (f:Nat→Nat→Bool):Nat→Nat
 | 0=>0
 | j+1=>if f j (bV f j)=true then j else bV f j
theorem lE {f:Nat→Nat→Bool}:∀ {n:Nat},bV f n≤n-1
 | 0=>oy _
 | n+1=>by
  have:=lE (f:=f) (n:=n);unfold bV;split <;> omega
theorem oZ {f:Nat→Nat→Bool}{n:Nat}(h:0<n):bV f n<n:=by have:=lE (f:=f) (n:=n);omega
theorem mL {l:Nat→Rat}:∀ {n i:Nat},i<n→¬ l i<l (bV (fun i b=>decide (l i<l b)) n)
 | n+1,i,hi=>by
  unfold bV
  by_cases h:l n<l (bV (fun i b=>decide (l i<l b)) n)
  ·rw [og (decide_eq_true h)]
   by_cases e:i=n
   ·rw [e];exact Rat.lt_irrefl
   ·have ih:=mL (l:=l) (n:=n) (i:=i) oq;exact fun g=>ih (Std.lt_trans g h)
  ·rw [oh (by simp [h])]
   by_cases e:i=n
   ·rw [e];exact h
   ·exact mL oq
theorem wU {x a:Rat}(ha:0<a):x/a<1↔x<a:=by rw [Rat.div_lt_iff ha,Rat.one_mul]
theorem aJe {x a:Rat}(ha:0<a):1<x/a↔a<x:=by rw [Rat.lt_div_iff ha,Rat.one_mul]
def sN (s:PSec) (i:Nat):Rat:=(at_ s.mats (at_ s.cells i).m.toNat).done
def kO (s:PSec) (i:Nat):Rat:=(at_ s.mats (at_ s.cells i).m.toNat).limit
def bN (s:PSec) (x:PState):List Rat:=(List.range s.cells.length).map fun i=>at_ x.cure i/sN s i
def dF (s:PSec) (x:PState):List Rat:=(List.range s.cells.length).map fun i=>at_ x.spoil i/kO s i
def gO (l:List Rat) (i b:Nat):Bool:=decide (at_ l i<at_ l b)
def iM (l:List Rat) (i b:Nat):Bool:=decide (at_ l b<at_ l i)
def fA (s:PSec) (x:PState):Nat:=bV (gO (bN s x)) s.cells.length
def aAe (s:PSec) (x:PState):Nat:=bV (iM (dF s x)) s.cells.length
def iU (s:PSec) (x:PState):Prop:=∀i,i<s.cells.length→¬ at_ x.cure i<sN s i
def bU (s:PSec) (x:PState):Prop:=¬ ∀i,i<s.cells.length→¬ kO s i<at_ x.spoil i
instance (s:PSec) (x:PState):Decidable (iU s x):=by unfold iU;exact inferInstance
instance (s:PSec) (x:PState):Decidable (bU s x):=by unfold bU;exact inferInstance
def aXh (s:PSec) (b:PBand):Int:=if bU s b.lo then 2 else if bU s b.hi then 3 else if ¬ iU s b.lo then 1 else 0
theorem lJ {s:PSec}(h:aF s=0) {i:Nat}(hi:i<s.cells.length):0<sN s i∧0<kO s i:=by
 obtain⟨h0,h1,_⟩:=gD h hi;have:=cY (lK h) (at_ s.cells i).m.toNat oq;unfold nU at this;split at this
 ·rename_i hn;exact absurd this hn
 ·split at this
  ·rename_i hn;exact absurd this hn
  ·split at this
   ·cases this
   ·rename_i hn;rw [not_or,zt,zt]at hn;exact hn
theorem aAb {s:PSec}(h:aF s=0) {x:PState}(hn:0<s.cells.length):(¬ at_ (bN s x) (fA s x)<1)↔iU s x:=by
 have hl:fA s x<s.cells.length:=oZ hn;have hm:∀i,i<s.cells.length→¬ at_ (bN s x) i<at_ (bN s x) (fA s x):=fun i hi=>mL (l:=at_ (bN s x)) hi;have e:∀i,i<s.cells.length→(at_ (bN s x) i<1↔at_ x.cure i<sN s i):=fun i hi=>by
  unfold bN;rw [aM hi];exact wU (lJ h hi).1
 constructor
 ·intro g i hi hc;exact hm i hi (by have:=(e i hi).2 hc;grind)
 ·intro g hc;exact g _ hl ((e _ hl).1 hc)
section
variable {k k':World}{R:World→Value→Prop}{cs cs':Array Value}{s:PSec}{b:PBand}{x:PState}{l:List Rat}{K L T d n0 n1 n2 d0 d1 d2 n3 n4 n5 d3 d4 d5 n6 d6 n7 d7 n8 d8 n c:Nat}{A A0 A1 A2 A3 A4 A5 A6 A7 A8:Option Addr}
theorem sI {f:FuncId}{g:PMat→Rat}(hvc:aCf f) (hf:∀ {k:World}{cs:Array Value}{m:PMat}{R:World→Value→Prop},MatV (NP K) k cs m→(∀k' ds,Up k k'→RatV k' ds (g m) K→R k' (.agg ds))→∀k0,Up k k0→CallsG Tryz.prog f #[.agg cs] k0 R) (hs:SecV (NP K) k A0 n0 A1 n1 A2 n2 s) (hx:Lst k A3 n3 3 (NP T k) l) (hE:aF s=0) (hz:l.length=s.cells.length) (hK1:1≤K) (hT1:1≤T) (hK:K≤300000000) (hT:T≤300000000)
 (C:∀k' B m e,Up k k'→Lst k' B m 3 (NP (T+K) k') ((List.range s.cells.length).map fun i=>at_ l i/g (at_ s.mats (at_ s.cells i).m.toNat))→R k' (.slice B m e)) :
 Cl k 104 #[S3 A0 n0 d0 A1 n1 d1 A2 n2 d2,.slice A3 n3 d3,.func (.func f) #[] #[]] R:=by
 intro k0 u0;have hN:=aD K;replace hs:=SecV.up hN hs u0;replace hx:=hx.up u0 fun _ _ h=>h.up u0;replace C:=fun k' B m e u=>C k' B m e (u0.trans u);have hce:=hs.cells.1;have hn24:s.cells.length≤24:=by have:=bF hE;unfold bW at this;omega
 have hseg:∀ {k:World},∀a v,NP (T+K) k a v→Seg 3 a:=fun _ _ h=>h.seg;refine hvc ⟨rfl,fun m k vs=>∃(j:Nat) (B:Option Addr) (e:Nat) (xs:Array Value),j+m=n1∧vs=[.int .i64 j,.tuple #[.slice B j e,.agg xs]]∧ArrV j 3 (NP (T+K) k) xs (at_ ((List.range s.cells.length).map fun i=>at_ l i/g (at_ s.mats (at_ s.cells i).m.toNat))),⟨n1,fun k1 u1=>⟨0,_,_,_,oq,rfl,ArrV.empty⟩⟩,?_⟩;rintro m k1 vs u1 ⟨j,B,e,xs,hj,rfl,h0⟩;refine⟨j,B,j,e,xs,h0.rowC hseg,rfl,fun hlt=>?_,fun hge k6 u6 r6 k7 u7=>?_⟩
 ·have hlt:=aL hlt;have hjn:j<s.cells.length:=oq
  replace hs:=SecV.up hN hs u1;obtain⟨a,_,⟨c0,c1,c2,rfl,q0,q1,q2⟩,ha,hb,hr,_⟩:=hs.cells.el hjn oz;obtain⟨t,_,ht,ta,tb,tr,_⟩:=(hx.up u1 fun _ _ h=>h.up u1).el (i:=j) oq oz;obtain⟨hm0,hm1,_⟩:=gD hE hjn;have hmi:(at_ s.cells j).m=(((at_ s.cells j).m.toNat:Nat):Int):=oq
  obtain⟨a',_,hmv,ha',hb',hr',_⟩:=hs.mats.el (i:=(at_ s.cells j).m.toNat) oq oz;rw [←hmi]at hb' hr';obtain⟨D,p1,r1,F,p2,r2,c4,c5,rfl,l0,l1,s0,s1⟩:=id hmv;refine⟨ha,hb,_,c0,q0.seg,c1,q1.seg,c2,q2.seg,hr k1 (Up.refl _),ta,tb,t,ht.seg,tr k1 (Up.refl _),ha',hb',D,p1,r1,F,p2,r2,c4,s0.seg,c5,s1.seg,hr' k1 (Up.refl _),?_⟩;refine hf hmv fun k2 ds v2 hds=>⟨ds,hds.seg,rfl,?_⟩;refine xQ (ht.up v2) hds hT1 hK1 hT hK fun k4 y4 u4 w4=>⟨y4,w4.seg,rfl,by simp [w4.seg.1],oz,⟨by simp;omega,by simp;omega⟩,?_⟩;rintro B' _ e' _ rfl rfl _ k5 u5;refine⟨m-1,oq,j+1,B',e',_,oq,by rw [aH oq];rfl,?_⟩;rw [oa];refine ArrV.push (h0.mono fun a v h=>h.up (v2.trans (u4.trans u5))) w4.seg.1 ?_;rw [aM hjn];exact w4.up u5
 ·have hge:=aO hge;have ej:j=n1:=oq
  refine C k7 B j e (u1.trans (u6.trans u7)) (fU (by simp;omega) ((h0.mono fun _ _ h=>h.up u6).mono fun _ _ h=>h.up u7) hseg (eO r6 u7))
theorem aCw (hs:SecV (NP K) k A0 n0 A1 n1 A2 n2 s) (hx:Lst k A3 n3 3 (NP T k) x.cure) (hE:aF s=0) (hz:x.cure.length=s.cells.length) (hK1:1≤K) (hT1:1≤T) (hK:K≤300000000) (hT:T≤300000000)
 (C:∀k' B m e,Up k k'→Lst k' B m 3 (NP (T+K) k') (bN s x)→R k' (.slice B m e)) :
 Cl k 104 #[S3 A0 n0 d0 A1 n1 d1 A2 n2 d2,.slice A3 n3 d3,.func (.func 105) #[] #[]] R:=
 sI (g:=fun m=>m.done) zQ (fun hm C k0 u0=>by
  obtain⟨D,p1,r1,F,p2,r2,c4,c5,rfl,l0,l1,s0,s1⟩:=hm
  exact aCp s0.seg s1.seg fun k2 u2=>C k2 c4 (u0.trans u2) (s0.up (u0.trans u2))) hs hx hE hz hK1 hT1 hK hT C
theorem aCx (hs:SecV (NP K) k A0 n0 A1 n1 A2 n2 s) (hx:Lst k A3 n3 3 (NP T k) x.spoil) (hE:aF s=0) (hz:x.spoil.length=s.cells.length) (hK1:1≤K) (hT1:1≤T) (hK:K≤300000000) (hT:T≤300000000)
 (C:∀k' B m e,Up k k'→Lst k' B m 3 (NP (T+K) k') (dF s x)→R k' (.slice B m e)) :
 Cl k 104 #[S3 A0 n0 d0 A1 n1 d1 A2 n2 d2,.slice A3 n3 d3,.func (.func 106) #[] #[]] R:=
 sI (g:=fun m=>m.limit) zR (fun hm C k0 u0=>by
  obtain⟨D,p1,r1,F,p2,r2,c4,c5,rfl,l0,l1,s0,s1⟩:=hm
  exact zU s0.seg s1.seg fun k2 u2=>C k2 c5 (u0.trans u2) (s1.up (u0.trans u2))) hs hx hE hz hK1 hT1 hK hT C
theorem zI (hs:SecV (NP K) k A0 n0 A1 n1 A2 n2 s) (hx:StateV (NP T) k A3 n3 A4 n4 A5 n5 x) (hE:aF s=0) (hz:sized s x) (hK1:1≤K) (hT1:1≤T) (hK:K≤300000000) (hT:T≤300000000)
 (C:∀k' B m e,Up k k'→Lst k' B m 3 (NP (T+K) k') (bN s x)→R k' (.slice B m e)) :
 Cl k 76 #[S3 A0 n0 d0 A1 n1 d1 A2 n2 d2,S3 A3 n3 d3 A4 n4 d4 A5 n5 d5] R:=by
 intro k0 u0;refine aGw (aCw (SecV.up (aD K) hs u0) (StateV.up (aD T) hx u0).cure hE hz.2.1 hK1 hT1 hK hT fun k1 B m e u1 h1=>⟨_,_,_,rfl,fun k2 u2=>?_⟩);exact C k2 B m e (u0.trans (u1.trans u2)) (h1.up u2 fun _ _ h=>h.up u2)
theorem vP (hs:SecV (NP K) k A0 n0 A1 n1 A2 n2 s) (hx:StateV (NP T) k A3 n3 A4 n4 A5 n5 x) (hE:aF s=0) (hz:sized s x) (hK1:1≤K) (hT1:1≤T) (hK:K≤300000000) (hT:T≤300000000)
 (C:∀k' B m e,Up k k'→Lst k' B m 3 (NP (T+K) k') (dF s x)→R k' (.slice B m e)) :
 Cl k 77 #[S3 A0 n0 d0 A1 n1 d1 A2 n2 d2,S3 A3 n3 d3 A4 n4 d4 A5 n5 d5] R:=by
 intro k0 u0;refine aCy (aCx (SecV.up (aD K) hs u0) (StateV.up (aD T) hx u0).spoil hE hz.2.2 hK1 hT1 hK hT fun k1 B m e u1 h1=>⟨_,_,_,rfl,fun k2 u2=>?_⟩);exact C k2 B m e (u0.trans (u1.trans u2)) (h1.up u2 fun _ _ h=>h.up u2)
theorem vJ (hl:Lst k A n 3 (NP K k) l) (hK1:1≤K) (hK:K≤300000000) (h0:0<l.length) (hn:l.length≤1000000) (C:∀k',Up k k'→R k' (.int .i64 (bV (gO l) l.length:Nat))) :
 Cl k 75 #[.slice A n c,.func (.func 27) #[] #[]] R:=by
 intro k0 u0;replace hl:=hl.up u0 fun _ _ h=>h.up u0;have hnl:=hl.1;refine aCr ⟨rfl,fun m k vs=>∃j:Nat,j+m=n∧vs=[.int .i64 (bV (gO l) j:Nat),.int .i64 j],⟨n,fun k1 u1=>⟨0,oq,rfl⟩⟩,?_⟩;rintro m k1 vs u1 ⟨j,hj,rfl⟩;refine⟨_,j,rfl,fun hlt=>?_,fun hge k5 u5=>?_⟩
 ·have hlt:=aL hlt;have hle:=lE (f:=gO l) (n:=j);obtain⟨y,_,gy,ya,yb,yr,_⟩:=(hl.up u1 fun _ _ h=>h.up u1).el (i:=j) oq oz;obtain⟨z,_,gz,za,zb,zr,_⟩:=(hl.up u1 fun _ _ h=>h.up u1).el (i:=bV (gO l) j) oq oz;refine⟨ya,yb,y,gy.seg,yr k1 (Up.refl _),za,zb,z,gz.seg,zr k1 (Up.refl _),cN gy gz hK1 hK hK fun k2 u2=>⟨_,rfl,fun f k3 u3=>⟨m-1,oq,j+1,oq,?_⟩,fun f k4 u4=>⟨m-1,oq,j+1,oq,?_⟩⟩⟩
  ·rw [aH oq,show bV (gO l) (j+1)=j from og f]
  ·rw [aH oq,show bV (gO l) (j+1)=bV (gO l) j from oh (by simpa [gO] using f)]
 ·have hge:=aO hge;have ej:j=l.length:=oq
  subst ej;exact C k5 (u0.trans (u1.trans u5))
theorem aLs {y z:Rat}(hy:RatV k cs y K) (hz:RatV k cs' z K) (hK1:1≤K) (hK:K≤300000000) (C:∀k',Up k k'→R k' (.bool (decide (z<y)))) :
 Cl k 78 #[.agg cs,.agg cs'] R:=by
 intro k0 u0;exact aHb hy.seg hz.seg (cN (hz.up u0) (hy.up u0) hK1 hK hK fun k1 u1=>⟨_,rfl,fun k2 u2=>C k2 (u0.trans (u1.trans u2))⟩)
theorem aHc (hl:Lst k A n 3 (NP K k) l) (hK1:1≤K) (hK:K≤300000000) (h0:0<l.length) (hn:l.length≤1000000) (C:∀k',Up k k'→R k' (.int .i64 (bV (iM l) l.length:Nat))) :
 Cl k 75 #[.slice A n c,.func (.func 78) #[] #[]] R:=by
 intro k0 u0;replace hl:=hl.up u0 fun _ _ h=>h.up u0;have hnl:=hl.1;refine aCs ⟨rfl,fun m k vs=>∃j:Nat,j+m=n∧vs=[.int .i64 (bV (iM l) j:Nat),.int .i64 j],⟨n,fun k1 u1=>⟨0,oq,rfl⟩⟩,?_⟩;rintro m k1 vs u1 ⟨j,hj,rfl⟩;refine⟨_,j,rfl,fun hlt=>?_,fun hge k5 u5=>?_⟩
 ·have hlt:=aL hlt;have hle:=lE (f:=iM l) (n:=j);obtain⟨y,_,gy,ya,yb,yr,_⟩:=(hl.up u1 fun _ _ h=>h.up u1).el (i:=j) oq oz;obtain⟨z,_,gz,za,zb,zr,_⟩:=(hl.up u1 fun _ _ h=>h.up u1).el (i:=bV (iM l) j) oq oz;refine⟨ya,yb,y,gy.seg,yr k1 (Up.refl _),za,zb,z,gz.seg,zr k1 (Up.refl _),aLs gy gz hK1 hK fun k2 u2=>⟨_,rfl,fun f k3 u3=>⟨m-1,oq,j+1,oq,?_⟩,fun f k4 u4=>⟨m-1,oq,j+1,oq,?_⟩⟩⟩
  ·rw [aH oq,show bV (iM l) (j+1)=j from og f]
  ·rw [aH oq,show bV (iM l) (j+1)=bV (iM l) j from oh (by simpa [iM] using f)]
 ·have hge:=aO hge;have ej:j=l.length:=oq
  subst ej;exact C k5 (u0.trans (u1.trans u5))
theorem aQy (hs:SecV (NP K) k A0 n0 A1 n1 A2 n2 s) (hl:StateV (NP T) k A3 n3 A4 n4 A5 n5 b.lo) (hE:aF s=0) (hz:sized s b.lo) (hK1:1≤K) (hT1:1≤T) (hK:K≤100000000) (hT:T≤100000000) (C:∀k',Up k k'→R k' (.int .i64 (fA s b.lo:Nat))) :
 Cl k 43 #[S3 A0 n0 d0 A1 n1 d1 A2 n2 d2,S6 A3 n3 d3 A4 n4 d4 A5 n5 d5 A6 n6 d6 A7 n7 d7 A8 n8 d8] R:=by
 intro k0 u0;have hsz:=bF hE;unfold bW at hsz;refine aMe (zI (SecV.up (aD K) hs u0) (StateV.up (aD T) hl u0) hE hz hK1 hT1 oq oq fun k1 B m e u1 h1=>⟨_,_,_,rfl,vJ h1 oq oq (by simp [bN];omega) (by simp [bN];omega) fun k3 u3=>⟨_,rfl,fun k4 u4=>?_⟩⟩);have:=C k4 (u0.trans (u1.trans (u3.trans u4)))
 rwa [show fA s b.lo=bV (gO (bN s b.lo)) (bN s b.lo).length by unfold fA;rw [show (bN s b.lo).length=s.cells.length by simp [bN]]]at this
theorem aQm (hs:SecV (NP K) k A0 n0 A1 n1 A2 n2 s) (hl:StateV (NP T) k A6 n6 A7 n7 A8 n8 b.hi) (hE:aF s=0) (hz:sized s b.hi) (hK1:1≤K) (hT1:1≤T) (hK:K≤100000000) (hT:T≤100000000) (C:∀k',Up k k'→R k' (.int .i64 (aAe s b.hi:Nat))) :
 Cl k 44 #[S3 A0 n0 d0 A1 n1 d1 A2 n2 d2,S6 A3 n3 d3 A4 n4 d4 A5 n5 d5 A6 n6 d6 A7 n7 d7 A8 n8 d8] R:=by
 intro k0 u0;have hsz:=bF hE;unfold bW at hsz;refine aLt (vP (SecV.up (aD K) hs u0) (StateV.up (aD T) hl u0) hE hz hK1 hT1 oq oq fun k1 B m e u1 h1=>⟨_,_,_,rfl,aHc h1 oq oq (by simp [dF];omega) (by simp [dF];omega) fun k3 u3=>⟨_,rfl,fun k4 u4=>?_⟩⟩);have:=C k4 (u0.trans (u1.trans (u3.trans u4)))
 rwa [show aAe s b.hi=bV (iM (dF s b.hi)) (dF s b.hi).length by unfold aAe;rw [show (dF s b.hi).length=s.cells.length by simp [dF]]]at this
theorem aQk (hs:SecV (NP K) k A0 n0 A1 n1 A2 n2 s) (hx:StateV (NP T) k A3 n3 A4 n4 A5 n5 x) (hE:aF s=0) (hz:sized s x) (hK1:1≤K) (hT1:1≤T) (hK:K≤100000000) (hT:T≤100000000) (C:∀k',Up k k'→R k' (.bool (decide (iU s x)))) :
 Cl k 46 #[S3 A0 n0 d0 A1 n1 d1 A2 n2 d2,S3 A3 n3 d3 A4 n4 d4 A5 n5 d5] R:=by
 intro k0 u0;have hsz:=bF hE;unfold bW at hsz;have hlen:(bN s x).length=s.cells.length:=by simp [bN]
 have hlt:fA s x<s.cells.length:=oZ oq;refine aLq (zI (SecV.up (aD K) hs u0) (StateV.up (aD T) hx u0) hE hz hK1 hT1 oq oq fun k1 B m e u1 h1=>⟨_,_,_,rfl,vJ h1 oq oq oq oq fun k3 u3=>?_⟩);obtain⟨y,_,gy,ya,yb,yr,_⟩:=(h1.up u3 fun _ _ h=>h.up u3).el (i:=fA s x) oq oz;have hse:bV (gO (bN s x)) (bN s x).length=fA s x:=by rw [hlen];rfl
 refine⟨_,rfl,ya,by rw [hse];exact yb,y,gy.seg,by rw [hse];exact yr k3 (Up.refl _),?_⟩;refine bK (z:=1) oz oz fun k5 y5 u5 w5=>⟨y5,w5.seg,rfl,?_⟩;refine cN (gy.up u5) w5 oq oq oq fun k7 u7=>⟨_,rfl,fun k8 u8=>?_⟩;have:=C k8 (u0.trans (u1.trans (u3.trans (u5.trans (u7.trans u8)))))
 rwa [show decide (iU s x)=!decide (at_ (bN s x) (fA s x)<((1:Int):Rat)) by rw [←decide_not];exact decide_eq_decide.2 (aAb hE oq).symm]at this
theorem aHn (hs:SecV (NP K) k A0 n0 A1 n1 A2 n2 s) (hx:StateV (NP T) k A3 n3 A4 n4 A5 n5 x) (hE:aF s=0) (hz:sized s x) (hK1:1≤K) (hT1:1≤T) (hK:K≤100000000) (hT:T≤100000000) (C:∀k',Up k k'→R k' (.bool (decide (bU s x)))) :
 Cl k 45 #[S3 A0 n0 d0 A1 n1 d1 A2 n2 d2,S3 A3 n3 d3 A4 n4 d4 A5 n5 d5] R:=by
 intro k0 u0;have hsz:=bF hE;unfold bW at hsz;have hlen:(dF s x).length=s.cells.length:=by simp [dF]
 have hsh:∀j,j<s.cells.length→(((1:Int):Rat)<at_ (dF s x) j↔kO s j<at_ x.spoil j):=fun j hj=>by
  rw [show at_ (dF s x) j=at_ x.spoil j/kO s j from aM hj];exact aJe (lJ hE hj).2
 refine aCz (vP (SecV.up (aD K) hs u0) (StateV.up (aD T) hx u0) hE hz hK1 hT1 oq oq fun k1 B m e u1 h1=>⟨_,_,_,rfl,rfl,?_⟩);have hml:=h1.1;refine⟨fun q k vs=>∃j:Nat,j+q=m∧vs=[.int .i64 j]∧∀i,i<j→¬ kO s i<at_ x.spoil i,⟨m,fun k2 u2=>⟨0,oq,rfl,fun i hi=>oq⟩⟩,?_⟩;rintro q k2 vs u2 ⟨j,hj,rfl,hno⟩;refine⟨j,rfl,fun hlt=>?_,fun hge k9 u9=>?_⟩
 ·have hlt:=aL hlt;obtain⟨y,_,gy,ya,yb,yr,_⟩:=(h1.up u2 fun _ _ h=>h.up u2).el (i:=j) oq oz;refine⟨ya,yb,y,gy.seg,yr k2 (Up.refl _),?_⟩;refine bK (z:=1) oz oz fun k4 y4 u4 w4=>⟨y4,w4.seg,rfl,?_⟩;refine cN w4 (gy.up u4) oz oq oq fun k6 u6=>⟨_,rfl,fun f k7 u7=>?_,fun f k8 u8=>?_⟩
  ·have:=C k7 (u0.trans (u1.trans (u2.trans (u4.trans (u6.trans u7)))))
   rwa [decide_eq_true (show bU s x from fun h=>h j oq ((hsh j oq).1 (ow f)))]at this
  ·exact⟨q-1,oq,j+1,oq,by rw [aH oq],eA hno fun h=>ov f ((hsh j oq).2 h)⟩
 ·have hge:=aO hge;have:=C k9 (u0.trans (u1.trans (u2.trans u9)))
  rwa [decide_eq_false (show ¬ bU s x from fun h=>h fun i hi=>hno i oq)]at this
end
section
variable {k:World}{R:World→Value→Prop}{s:PSec}{b x:PBand}{x':PState}{K T n0 n1 n2 d0 d1 d2 n3 n4 n5 d3 d4 d5 n6 d6 n7 d7 n8 d8:Nat}{A0 A1 A2 A3 A4 A5 A6 A7 A8:Option Addr}
end
