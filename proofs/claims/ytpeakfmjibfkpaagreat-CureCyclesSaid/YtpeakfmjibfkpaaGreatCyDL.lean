/- Several texts in one. (Printed by prep.py.) -/
import Derived.Test.YtpeakfmjibfkpaaGreatCyFB
import Derived.Test.YtpeakfmjibfkpaaGreatCyVL6
import Derived.Test.YtpeakfmjibfkpaaGreatCyCZ2
namespace Go.Proofs.YtpeakfmjibfkpaaGreat
open Go.RowKit Num W32
open Sy (Up Sees CallsG Seg)
structure PBand where
 (lo hi:PState)
structure PRange where
 (s0 s1 a0 a1:Rat)
def jL (q:Rat):Rat:=oA q 40
def pA (q:Rat):Rat:=-oA (-q) 40
def cM (r:Rat→Rat) (s:PSec) (x:PState) (u v:Rat):PState where
 temp:=(List.range s.cells.length).map fun i=>r (fB s x u v i)
 cure:=(List.range s.cells.length).map (nG s x)
 spoil:=(List.range s.cells.length).map (gW s x)
def dL (s:PSec) (b:PBand) (r:PRange):PBand:=⟨cM jL s b.lo r.s0 r.a0,cM pA s b.hi r.s1 r.a1⟩
theorem sU {r:Rat→Rat}{s:PSec}{x:PState}{u v:Rat}:sized s (cM r s x u v):=by simp [sized,cM]
def btw (lo x hi:List Rat):Prop:=lo.length=x.length∧hi.length=x.length∧∀i,i<x.length→¬ at_ x i<at_ lo i∧¬ at_ hi i<at_ x i
instance (lo x hi:List Rat):Decidable (btw lo x hi):=by unfold btw;exact inferInstance
def mK (b:PBand) (x:PState):Prop:=btw b.lo.temp x.temp b.hi.temp∧btw b.lo.cure x.cure b.hi.cure∧btw b.lo.spoil x.spoil b.hi.spoil
instance (b:PBand) (x:PState):Decidable (mK b x):=by unfold mK;exact inferInstance
def bCl (x y:List Rat):Prop:=∃i,i<x.length∧at_ y i<at_ x i
def iC (x y:List Rat):Prop:=∀i,i<x.length→¬ at_ y i<at_ x i
instance (x y:List Rat):Decidable (iC x y):=by unfold iC;exact inferInstance
def alike (x y:PState):Prop:=x.temp.length=y.temp.length∧x.cure.length=y.cure.length∧x.spoil.length=y.spoil.length
instance (x y:PState):Decidable (alike x y):=by unfold alike;exact inferInstance
def jA (x y:PState):Prop:=alike x y∧iC x.temp y.temp∧iC x.cure y.cure∧iC x.spoil y.spoil
instance (x y:PState):Decidable (jA x y):=by unfold jA;exact inferInstance
theorem aGa {b:PBand}{x:PState}:mK b x↔jA b.lo x∧jA x b.hi:=by
 constructor
 ·rintro⟨⟨a1,a2,a3⟩,⟨b1,b2,b3⟩,c1,c2,c3⟩;exact⟨⟨⟨a1,b1,c1⟩,fun i hi=>(a3 i oq).1,fun i hi=>(b3 i oq).1,fun i hi=>(c3 i oq).1⟩,⟨a2.symm,b2.symm,c2.symm⟩,fun i hi=>(a3 i hi).2,fun i hi=>(b3 i hi).2,fun i hi=>(c3 i hi).2⟩
 ·rintro⟨⟨⟨a1,b1,c1⟩,a3,b3,c3⟩,⟨a2,b2,c2⟩,a4,b4,c4⟩;exact⟨⟨a1,a2.symm,fun i hi=>⟨a3 i oq,a4 i hi⟩⟩,⟨b1,b2.symm,fun i hi=>⟨b3 i oq,b4 i hi⟩⟩,c1,c2.symm,fun i hi=>⟨c3 i oq,c4 i hi⟩⟩
theorem aHo {x:PState}:jA x x:=⟨⟨rfl,rfl,rfl⟩,fun _ _=>Rat.lt_irrefl,fun _ _=>Rat.lt_irrefl,fun _ _=>Rat.lt_irrefl⟩
theorem xZ {b:PBand}:mK b b.lo↔jA b.lo b.hi:=by
 rw [aGa];exact⟨fun h=>h.2,fun h=>⟨aHo,h⟩⟩
def eG (s:PSec) (b:PBand):Int:=if eA s b.lo≠0 then eA s b.lo else if ¬ sized s b.hi then 4 else if ¬ jA b.lo b.hi then 7 else 0
def gV (r:PRange):Int:=if r.s1<r.s0∨r.a1<r.a0 then 7 else 0
def gR (s:PSec) (b:PBand) (r:PRange):Int:=if eG s b≠0 then eG s b else gV r
def dE (s:PSec) (lo hi:Rat):Int:=if aF s≠0 then aF s else if hi<lo then 7 else 0
def eP (s:PSec) (lo hi:Rat):PBand:=⟨cK s lo,cK s hi⟩
def tQ:PState:=⟨[],[],[]⟩
def jN (e:Int) (b:PBand):PBand:=if e≠0 then ⟨tQ,tQ⟩ else b
theorem mH {s:PSec}{b:PBand}(h:eG s b=0):aF s=0∧sized s b.lo∧sized s b.hi∧jA b.lo b.hi:=by
 unfold eG at h;split at h
 ·rename_i h1;exact absurd h h1
 ·rename_i h1;obtain⟨h2,h3⟩:=tI (zd.1 h1);split at h
  ·cases h
  ·rename_i h4;split at h
   ·cases h
   ·rename_i h5;exact⟨h2,h3,zd.1 h4,zd.1 h5⟩
theorem zL {s:PSec}{b:PBand}{r:PRange}(h:gR s b r=0):eG s b=0:=by
 unfold gR at h;split at h
 ·rename_i h1;exact absurd h h1
 ·rename_i h1;exact zd.1 h1
structure StateW (N N':World→Array Value→Rat→Prop) (k:World) (A:Option Addr) (n:Nat) (B:Option Addr) (n':Nat) (C:Option Addr) (n'':Nat) (x:PState):Prop where
 temp:Lst k A n 3 (N k) x.temp
 cure:Lst k B n' 3 (N' k) x.cure
 spoil:Lst k C n'' 3 (N' k) x.spoil
theorem StateW.up {N N':World→Array Value→Rat→Prop}(hN:Num3 N) (hN':Num3 N') {k k':World}{A B C:Option Addr}{n n' n'':Nat}{x:PState}(h:StateW N N' k A n B n' C n'' x) (u:Up k k'):StateW N N' k' A n B n' C n'' x:=
 ⟨h.temp.up u fun _ _ h=>hN.up h u,h.cure.up u fun _ _ h=>hN'.up h u,h.spoil.up u fun _ _ h=>hN'.up h u⟩
section
variable {k k':World}{R:World→Value→Prop}{cs cs':Array Value}{u v q:Rat}{s:PSec}{x:PState}{K T d n0 n1 n2 d0 d1 d2 n3 n4 n5 d3 d4 d5 n6 d6 n7 d7 M:Nat}{A0 A1 A2 A3 A4 A5 A6 A7:Option Addr}
theorem aPk (hx:RatV k cs q K) (hK1:1≤K) (hK:K≤100000) (C:∀k' ds,Up k k'→RatV k' ds (jL q) (K+1001)→R k' (.agg ds)) :
 Cl k 115 #[.agg cs] R:=by
 intro k0 u0;refine aKd hx.seg (aBh (m:=40) (hx.up u0) hK1 hK fun k1 ds u1 h=>⟨ds,h.seg,rfl,fun k2 u2=>?_⟩);exact C k2 ds ((u0.trans u1).trans u2) (h.up u2)
theorem aUr (hx:RatV k cs q K) (hK1:1≤K) (hK:K≤100000) (C:∀k' ds,Up k k'→RatV k' ds (pA q) (K+1001)→R k' (.agg ds)) :
 Cl k 116 #[.agg cs] R:=by
 intro k0 u0;refine aPd hx.seg (aUn (m:=40) (hx.up u0) hK1 hK fun k1 ds u1 h=>⟨ds,h.seg,rfl,fun k2 u2=>?_⟩);exact C k2 ds ((u0.trans u1).trans u2) (h.up u2)
set_option maxHeartbeats 1000000 in
theorem aCe {f:FuncId}{rnd:Rat→Rat}(hvc:aOs f) (hf:∀ {k:World}{cs:Array Value}{q:Rat}{K:Nat}{R:World→Value→Prop},RatV k cs q K→1≤K→K≤100000→(∀k' ds,Up k k'→RatV k' ds (rnd q) (K+1001)→R k' (.agg ds))→∀k0,Up k k0→CallsG Tryz.prog f #[.agg cs] k0 R) (hs:SecV (NP K) k A0 n0 A1 n1 A2 n2 s) (hx:StateV (NP T) k A3 n3 A4 n4 A5 n5 x) (hM:NbV (NP K) k M s.links) (hu:RatV k cs u K) (hv:RatV k cs' v K) (hE:aF s=0) (hz:sized s x)
 (hd:∀i,i<s.cells.length→(nbm s.links (i:Nat)).length≤d) (hK1:1≤K) (hT1:1≤T) (hT:aJ K d T≤90000) (hd2:d≤128)
 (C:∀k' B0 m0 e0 B1 m1 e1 B2 m2 e2,Up k k'→StateW (NP (aJ K d T+1001)) (NP (T+K+1)) k' B0 m0 B1 m1 B2 m2 (cM rnd s x u v)→R k' (S3 B0 m0 e0 B1 m1 e1 B2 m2 e2)) :
 Cl k 92 #[.agg #[.slice A0 n0 d0,.slice A1 n1 d1,.slice A2 n2 d2,.map (some M)],S3 A3 n3 d3 A4 n4 d4 A5 n5 d5,.agg cs,.agg cs',.func (.func f) #[] #[]] R:=by
 intro k0 u0;have hN:=aE K;have hNT:=aE T;replace hs:=SecV.up hN hs u0;replace hx:=StateV.up hNT hx u0;replace hM:=NbV.up hN hM u0;replace hu:=hu.up u0;replace hv:=hv.up u0;replace C:=fun k' B0 m0 e0 B1 m1 e1 B2 m2 e2 u=>C k' B0 m0 e0 B1 m1 e1 B2 m2 e2 (u0.trans u);clear u0;have e1:=hs.cells.1;obtain⟨z3,z4,z5⟩:=hz;have f3:=hx.temp.1;have f4:=hx.cure.1;have f5:=hx.spoil.1;have hn24:n1≤24:=by have:=aQ hE;unfold aY at this;omega
 have hW:3*T+5*K+4≤300000000:=by unfold aJ at hT;omega
 have hup:∀ {W:Nat}{k k':World}{xs:Array Value}{j:Nat}{f:Nat→Rat},Up k k'→ArrV j 3 (NP W k) xs f→ArrV j 3 (NP W k') xs f:=fun u h=>h.mono fun _ _ h=>h.up u;have hseg:∀ {W:Nat}{k:World},∀a v,NP W k a v→Seg 3 a:=fun _ _ h=>h.seg
 refine hvc hu.seg hv.seg ⟨rfl,fun m k vs=>∃(j:Nat) (B0 B1 B2:Option Addr) (e0 e1 e2:Nat) (x0 x1 x2:Array Value),j+m=n1∧vs=[.int .i64 j,.tuple #[.slice B0 j e0,.agg x0],.tuple #[.slice B1 j e1,.agg x1],.tuple #[.slice B2 j e2,.agg x2]]∧
  ArrV j 3 (NP (aJ K d T+1001) k) x0 (at_ (cM rnd s x u v).temp)∧ArrV j 3 (NP (T+K+1) k) x1 (at_ (cM rnd s x u v).cure)∧ArrV j 3 (NP (T+K+1) k) x2 (at_ (cM rnd s x u v).spoil),
  ⟨n1,fun k1 u1=>⟨0,_,_,_,_,_,_,_,_,_,oq,rfl,ArrV.empty,ArrV.empty,ArrV.empty⟩⟩,?_⟩
 rintro m k1 vs u1 ⟨j,B0,B1,B2,g0,g1,g2,x0,x1,x2,hj,rfl,h0,h1,h2⟩;refine⟨j,B0,j,g0,x0,h0.rowC hseg,B1,j,g1,x1,h1.rowC hseg,B2,j,g2,x2,h2.rowC hseg,rfl,fun hlt=>?_,fun hge k2 u2 r0 k3 u3 r1 k4 u4 r2 k5 u5=>?_⟩
 ·have hlt:=aH hlt;have hjn:j<s.cells.length:=oq
  replace hs:=SecV.up hN hs u1;replace hx:=StateV.up hNT hx u1;replace hM:=NbV.up hN hM u1;replace hu:=hu.up u1;replace hv:=hv.up u1;replace C:=fun k' B0 m0 e0 B1 m1 e1 B2 m2 e2 u=>C k' B0 m0 e0 B1 m1 e1 B2 m2 e2 (u1.trans u);obtain⟨a,_,⟨c0,c1,c2,rfl,q0,q1,q2⟩,ha,hb,hr,_⟩:=hs.cells.el (i:=j) hjn oz;obtain⟨t,_,ht,ta,tb,tr,_⟩:=hx.temp.el (i:=j) oq oz;obtain⟨hm0,hm1,_⟩:=eM hE hjn;have tT1:1≤K+T+1:=oq
  refine⟨ha,hb,_,c0,q0.seg,c1,q1.seg,c2,q2.seg,hr k1 (Up.refl _),ta,tb,t,ht.seg,tr k1 (Up.refl _),?_⟩;refine qO hu ht hK1 hT1 oq oq fun k2 y2 u2 w2=>⟨y2,w2.seg,rfl,?_⟩;refine qN (q1.up u2) w2 hK1 oq oq oq fun k4 y4 u4 w4=>⟨y4,w4.seg,rfl,?_⟩;refine qO ((hv.up u2).up u4) ((ht.up u2).up u4) hK1 hT1 oq oq fun k6 y6 u6 w6=>⟨y6,w6.seg,rfl,?_⟩;refine qN (((q2.up u2).up u4).up u6) w6 hK1 oq oq oq fun k8 y8 u8 w8=>⟨y8,w8.seg,rfl,?_⟩;refine gQ ((w4.up u6).up u8) w8 oq oq oq oq fun k10 y10 u10 w10=>⟨y10,w10.seg,rfl,?_⟩;have v10:=(((u2.trans u4).trans u6).trans u8).trans u10;replace hs:=SecV.up hN hs v10;replace hx:=StateV.up hNT hx v10;replace hM:=NbV.up hN hM v10;replace C:=fun k' B0 m0 e0 B1 m1 e1 B2 m2 e2 u=>C k' B0 m0 e0 B1 m1 e1 B2 m2 e2 (v10.trans u);replace ht:=ht.up v10;replace q0:=q0.up v10;replace h0:=hup v10 h0;replace h1:=hup v10 h1;replace h2:=hup v10 h2;clear v10 u2 u4 u6 u8 u10 w2 w4 w6 w8 q1 q2 hr tr hu hv;obtain⟨B,p,q,hlook,hl⟩:=hM j oq;have hp:=hl.1;have hpd:=hd j hjn
  refine⟨B,p,q,hlook,rfl,fun m k vs=>∃(i:Nat) (ds:Array Value),i+m=p∧vs=[.int .i64 i,.agg ds]∧
   RatV k ds (((nbm s.links j).take i).foldl (fun t l=>t+l.v*(at_ x.temp (l.a+l.b-(j:Int)).toNat-at_ x.temp j)) ((at_ s.cells j).steam*(u-at_ x.temp j)+(at_ s.cells j).air*(v-at_ x.temp j))) (4*K+2*T+3+i*(K+2*T+2)),
   ⟨p,fun k1 u1=>⟨0,y10,oq,rfl,(w10.up u1).mono oq⟩⟩,?_⟩
  rintro m' k11 vs u11 ⟨i,es,hi,rfl,he⟩;have hmul:i*(K+2*T+2)≤d*(K+2*T+2):=od _ oq;have hW2:3*T+5*K+4+i*(K+2*T+2)≤300000000:=by unfold aJ at hT;omega
  refine⟨i,es,he.seg,rfl,fun hlt'=>?_,fun hge'=>?_⟩
  ·have hlt':=aH hlt';obtain⟨a,_,hlk,ha,hb,hr,_⟩:=(hl.up u11 fun _ _ h=>LinkV.up hN h u11).el (i:=i) oq oz;obtain⟨c3,rfl,g3⟩:=id hlk;have hmem:at_ (nbm s.links j) i∈nbm s.links j:=aEu oq;obtain⟨o,eo,ho⟩:=aDi hE hjn hmem;obtain⟨⟨l1,l2⟩,l3,l4⟩:=dH (cQ hE) _ (iB hmem).1;refine⟨ha,hb,_,_,c3,g3.seg,hr k11 (Up.refl _),aBx hlk l1 oq l3 oq oq fun k13 u13=>⟨_,rfl,?_⟩⟩;rw [eo];obtain⟨t',_,ht',ta',tb',tr',_⟩:=hx.temp.el (i:=o) oq oz;refine⟨ta',tb',t',ht'.seg,tr' k13 (u11.trans u13),?_⟩;refine qO ((ht'.up u11).up u13) ((ht.up u11).up u13) hT1 hT1 oq oq fun k15 y15 u15 w15=>⟨y15,w15.seg,rfl,?_⟩;refine qN ((g3.up u13).up u15) w15 hK1 oq oq oq fun k17 y17 u17 w17=>⟨y17,w17.seg,rfl,?_⟩;have hW3:4*K+2*T+3+i*(K+2*T+2)≤300000000:=oq
   refine gQ (((he.up u13).up u15).up u17) w17 oq oq hW3 oq fun k19 y19 u19 w19=>⟨y19,w19.seg,rfl,fun k20 u20=>⟨m'-1,oq,i+1,y19,oq,by rw [aC oq],?_⟩⟩;rw [rP oq,eo,oc];exact (w19.up u20).mono (by have:(i+1)*(K+2*T+2)=i*(K+2*T+2)+(K+2*T+2):=jt _ _;omega)
  ·have hge':=aG hge';rw [zp oq]at he;have hflow:RatV k11 es (flow s x u v j) (4*K+2*T+3+i*(K+2*T+2)):=he;clear he hlook hl;replace hs:=SecV.up hN hs u11;replace hx:=StateV.up hNT hx u11;replace C:=fun k' B0 m0 e0 B1 m1 e1 B2 m2 e2 u=>C k' B0 m0 e0 B1 m1 e1 B2 m2 e2 (u11.trans u);replace ht:=ht.up u11;replace q0:=q0.up u11;replace h0:=hup u11 h0;replace h1:=hup u11 h1;replace h2:=hup u11 h2;have hmi:(at_ s.cells j).m=(((at_ s.cells j).m.toNat:Nat):Int):=oq
   obtain⟨a,_,⟨D,p1,r1,F,p2,r2,c4,c5,rfl,l0,l1,s0,s1⟩,ha',hb',hr',_⟩:=hs.mats.el (i:=(at_ s.cells j).m.toNat) oq oz;obtain⟨hr1,hr2⟩:=aGm hE (i:=(at_ s.cells j).m.toNat) oq;rw [←hmi]at hb' hr';refine⟨ha',hb',D,p1,r1,F,p2,r2,c4,s0.seg,c5,s1.seg,hr' k11 (Up.refl _),?_⟩;refine aFk hflow q0 oq hK1 oq oq fun k22 y22 u22 w22=>⟨y22,w22.seg,rfl,?_⟩;refine gQ (ht.up u22) w22 hT1 oq oq oq fun k24 y24 u24 w24=>⟨y24,w24.seg,rfl,?_⟩;refine hf w24 oq (by unfold aJ at hT;omega) fun k26 y26 u26 w26=>⟨y26,w26.seg,rfl,by simp [w26.seg.1],oz,⟨by simp;omega,by simp;omega⟩,?_⟩;rintro B0' _ g0' _ rfl rfl _;have v26:=(u22.trans u24).trans u26;have w24':=w26;replace ht:=ht.up v26;replace l0:=aP hN l0 v26;replace l1:=aP hN l1 v26;replace hx:=StateV.up hNT hx v26;replace C:=fun k' B0 m0 e0 B1 m1 e1 B2 m2 e2 u=>C k' B0 m0 e0 B1 m1 e1 B2 m2 e2 (v26.trans u);replace h0:=hup v26 h0;replace h1:=hup v26 h1;replace h2:=hup v26 h2;clear v26 u22 u24 u26 w22 w24 w26 hflow;obtain⟨t3,_,ht3,ta3,tb3,tr3,_⟩:=hx.cure.el (i:=j) oq oz;obtain⟨t4,_,ht4,ta4,tb4,tr4,_⟩:=hx.spoil.el (i:=j) oq oz;refine⟨ta3,tb3,t3,ht3.seg,tr3 k26 (Up.refl _),?_⟩;refine pB l0 ht hT1 oq oq (by rw [l0.1];have:=rates16 hr1;omega) fun k28 y28 u28 w28=>⟨y28,w28.seg,rfl,?_⟩;refine gQ (ht3.up u28) w28 hT1 hK1 oq oq fun k30 y30 u30 w30=>⟨y30,w30.seg,rfl,by simp [w30.seg.1],oz,⟨by simp;omega,by simp;omega⟩,?_⟩;rintro B1' _ g1' _ rfl rfl _;refine⟨ta4,tb4,t4,ht4.seg,tr4 k30 (u28.trans u30),?_⟩;refine pB (aP hN (aP hN l1 u28) u30) ((ht.up u28).up u30) hT1 oq oq (by rw [l1.1];have:=rates16 hr2;omega) fun k32 y32 u32 w32=>⟨y32,w32.seg,rfl,?_⟩;refine gQ (((ht4.up u28).up u30).up u32) w32 hT1 hK1 oq oq fun k34 y34 u34 w34=>⟨y34,w34.seg,rfl,by simp [w34.seg.1],oz,⟨by simp;omega,by simp;omega⟩,?_⟩;rintro B2' _ g2' _ rfl rfl _ k35 u35;have v34:=((u28.trans u30).trans u32).trans u34;have hpe:i=d∨i≤d:=Or.inr oq;have hi2:i*(K+2*T+2)≤d*(K+2*T+2):=hmul;refine⟨m-1,oq,j+1,B0',B1',B2',g0',g1',g2',_,_,_,oq,by rw [aC oq];rfl,?_,?_,?_⟩
   ·rw [qw];refine ArrV.push (hup (v34.trans u35) h0) w24'.seg.1 ?_;rw [show at_ (cM rnd s x u v).temp j=rnd (fB s x u v j) from aN hjn];exact ((w24'.up v34).up u35).mono (by unfold aJ;omega)
   ·rw [qw];refine ArrV.push (hup (v34.trans u35) h1) w30.seg.1 ?_;rw [show at_ (cM rnd s x u v).cure j=nG s x j from aN hjn];exact (((w30.up u32).up u34).up u35).mono oq
   ·rw [qw];refine ArrV.push (hup (v34.trans u35) h2) w34.seg.1 ?_;rw [show at_ (cM rnd s x u v).spoil j=gW s x j from aN hjn];exact (w34.up u35).mono oq
 ·have hge:=aG hge;have ej:j=n1:=oq
  refine C k5 _ _ _ _ _ _ _ _ _ ((((u1.trans u2).trans u3).trans u4).trans u5) ⟨?_,?_,?_⟩
  ·exact eE (by simp [cM];omega) (hup (((u2.trans u3).trans u4).trans u5) h0) hseg (bZ r0 ((u3.trans u4).trans u5))
  ·exact eE (by simp [cM];omega) (hup (((u2.trans u3).trans u4).trans u5) h1) hseg (bZ r1 (u4.trans u5))
  ·exact eE (by simp [cM];omega) (hup (((u2.trans u3).trans u4).trans u5) h2) hseg (bZ r2 u5)
theorem aPv (hs:SecV (NP K) k A0 n0 A1 n1 A2 n2 s) (hx:StateV (NP T) k A3 n3 A4 n4 A5 n5 x) (hM:NbV (NP K) k M s.links) (hu:RatV k cs u K) (hv:RatV k cs' v K) (hE:aF s=0) (hz:sized s x)
 (hd:∀i,i<s.cells.length→(nbm s.links (i:Nat)).length≤d) (hK1:1≤K) (hT1:1≤T) (hT:aJ K d T≤90000) (hd2:d≤128)
 (C:∀k' B0 m0 e0 B1 m1 e1 B2 m2 e2,Up k k'→StateW (NP (aJ K d T+1001)) (NP (T+K+1)) k' B0 m0 B1 m1 B2 m2 (cM jL s x u v)→R k' (S3 B0 m0 e0 B1 m1 e1 B2 m2 e2)) :
 Cl k 92 #[.agg #[.slice A0 n0 d0,.slice A1 n1 d1,.slice A2 n2 d2,.map (some M)],S3 A3 n3 d3 A4 n4 d4 A5 n5 d5,.agg cs,.agg cs',.func (.func 115) #[] #[]] R:=
 aCe aKq aPk hs hx hM hu hv hE hz hd hK1 hT1 hT hd2 C
theorem aPu (hs:SecV (NP K) k A0 n0 A1 n1 A2 n2 s) (hx:StateV (NP T) k A3 n3 A4 n4 A5 n5 x) (hM:NbV (NP K) k M s.links) (hu:RatV k cs u K) (hv:RatV k cs' v K) (hE:aF s=0) (hz:sized s x)
 (hd:∀i,i<s.cells.length→(nbm s.links (i:Nat)).length≤d) (hK1:1≤K) (hT1:1≤T) (hT:aJ K d T≤90000) (hd2:d≤128)
 (C:∀k' B0 m0 e0 B1 m1 e1 B2 m2 e2,Up k k'→StateW (NP (aJ K d T+1001)) (NP (T+K+1)) k' B0 m0 B1 m1 B2 m2 (cM pA s x u v)→R k' (S3 B0 m0 e0 B1 m1 e1 B2 m2 e2)) :
 Cl k 92 #[.agg #[.slice A0 n0 d0,.slice A1 n1 d1,.slice A2 n2 d2,.map (some M)],S3 A3 n3 d3 A4 n4 d4 A5 n5 d5,.agg cs,.agg cs',.func (.func 116) #[] #[]] R:=
 aCe aKp aUr hs hx hM hu hv hE hz hd hK1 hT1 hT hd2 C
end
structure RangeV (N:World→Array Value→Rat→Prop) (k:World) (c0 c1 c2 c3:Array Value) (r:PRange):Prop where
 s0:N k c0 r.s0
 s1:N k c1 r.s1
 a0:N k c2 r.a0
 a1:N k c3 r.a1
theorem RangeV.up {N:World→Array Value→Rat→Prop}(hN:Num3 N) {k k':World}{c0 c1 c2 c3:Array Value}{r:PRange}(h:RangeV N k c0 c1 c2 c3 r) (u:Up k k'):RangeV N k' c0 c1 c2 c3 r:=⟨hN.up h.s0 u,hN.up h.s1 u,hN.up h.a0 u,hN.up h.a1 u⟩
def wH (x:PState):Prop:=x.temp.length≤1000000∧x.cure.length≤1000000∧x.spoil.length≤1000000
section
variable {k k':World}{R:World→Value→Prop}{c0 c1 c2 c3 cs cs':Array Value}{s:PSec}{b b':PBand}{x:PState}{r:PRange}{l0 l1 l2:List Rat}{u v:Rat}{K L T T' d M n0 n1 n2 d0 d1 d2 n3 n4 n5 d3 d4 d5 n6 d6 n7 d7 n8 d8 n9 d9 n10 d10 n11 d11:Nat}{A0 A1 A2 A3 A4 A5 A6 A7 A8 A9 A10 A11:Option Addr}
theorem aFa (h0:Lst k A0 n0 3 (NP K k) l0) (h1:Lst k A1 n1 3 (NP L k) l1) (h2:Lst k A2 n2 3 (NP K k) l2) (hK1:1≤K) (hL1:1≤L) (hK:K≤300000000) (hL:L≤300000000) (hn:l1.length≤1000000)
 (C:∀k',Up k k'→R k' (.bool (decide (btw l0 l1 l2)))) :
 Cl k 64 #[.slice A0 n0 d0,.slice A1 n1 d1,.slice A2 n2 d2] R:=by
 intro k0 u0;replace h0:=h0.up u0 fun _ _ h=>h.up u0;replace h1:=h1.up u0 fun _ _ h=>h.up u0;replace h2:=h2.up u0 fun _ _ h=>h.up u0;replace C:=fun k' u=>C k' (u0.trans u);have e0:=h0.1;have e1:=h1.1;have e2:=h2.1;have no:¬ btw l0 l1 l2→∀k',Up k0 k'→R k' (.bool false):=fun h k' u=>by have:=C k' u;rwa [decide_eq_false h]at this
 refine aUq ⟨rfl,rfl,fun a k1 u1=>no (fun h=>?_) k1 u1,fun a=>⟨rfl,rfl,fun c k1 u1=>no (fun h=>?_) k1 u1,fun c=>⟨rfl,?_⟩⟩⟩
 ·have:=h.1;simp at a;omega
 ·have:=h.2.1;simp at c;omega
 have a:n0=n1:=by simp at a;omega
 have c:n2=n1:=by simp at c;omega
 refine⟨fun m k vs=>∃j:Nat,j+m=n1∧vs=[.int .i64 j]∧∀i,i<j→¬ at_ l1 i<at_ l0 i∧¬ at_ l2 i<at_ l1 i,⟨n1,fun k1 u1=>⟨0,oq,rfl,fun i hi=>oq⟩⟩,?_⟩;rintro m k1 vs u1 ⟨j,hj,rfl,hz⟩;refine⟨j,rfl,fun hlt=>?_,fun hge k2 u2=>?_⟩
 ·have hlt:=aH hlt;obtain⟨y,_,gy,ya,yb,yr,_⟩:=(h1.up u1 fun _ _ h=>h.up u1).el (i:=j) oq oz;obtain⟨z,_,gz,za,zb,zr,_⟩:=(h0.up u1 fun _ _ h=>h.up u1).el (i:=j) oq oz;obtain⟨w,_,gw,wa,wb,wr,_⟩:=(h2.up u1 fun _ _ h=>h.up u1).el (i:=j) oq oz;refine⟨ya,yb,y,gy.seg,yr k1 (Up.refl _),za,zb,z,gz.seg,zr k1 (Up.refl _),dA gy gz hL1 hL hK fun k4 u4=>⟨_,rfl,fun f k5 u5=>no (fun h=>?_) k5 (u1.trans (u4.trans u5)),fun f=>⟨wa,wb,w,gw.seg,wr k4 u4,ya,yb,y,gy.seg,yr k4 u4,dA (gw.up u4) (gy.up u4) hK1 hK hL fun k7 u7=>⟨_,rfl,fun g k8 u8=>no (fun h=>?_) k8 (u1.trans (u4.trans (u7.trans u8))),fun g k9 u9=>?_⟩⟩⟩⟩
  ·exact (h.2.2 j oq).1 (ow f)
  ·exact (h.2.2 j oq).2 (ow g)
  ·exact⟨m-1,oq,j+1,oq,by rw [aC oq],bP hz ⟨ov f,ov g⟩⟩
 ·have hge:=aG hge;have:=C k2 (u1.trans u2)
  rwa [decide_eq_true (show btw l0 l1 l2 from⟨oq,oq,fun i hi=>hz i oq⟩)]at this
theorem aKf (hl:StateV (NP K) k A0 n0 A1 n1 A2 n2 b.lo) (hh:StateV (NP K) k A3 n3 A4 n4 A5 n5 b.hi) (hx:StateV (NP L) k A6 n6 A7 n7 A8 n8 x) (hK1:1≤K) (hL1:1≤L) (hK:K≤300000000) (hL:L≤300000000) (hn:wH x)
 (C:∀k',Up k k'→R k' (.bool (decide (mK b x)))) :
 Cl k 22 #[S6 A0 n0 d0 A1 n1 d1 A2 n2 d2 A3 n3 d3 A4 n4 d4 A5 n5 d5,S3 A6 n6 d6 A7 n7 d7 A8 n8 d8] R:=by
 intro k0 u0;have hN:=aE K;have hM:=aE L;replace hl:=StateV.up hN hl u0;replace hh:=StateV.up hN hh u0;replace hx:=StateV.up hM hx u0;replace C:=fun k' u=>C k' (u0.trans u);refine aFh (aFa hl.temp hx.temp hh.temp hK1 hL1 hK hL hn.1 fun k1 u1=>⟨_,rfl,fun f=>aFa (StateV.up hN hl u1).cure (StateV.up hM hx u1).cure (StateV.up hN hh u1).cure hK1 hL1 hK hL hn.2.1 fun k3 u3=>⟨_,rfl,fun g=>aFa (StateV.up hN hl (u1.trans u3)).spoil (StateV.up hM hx (u1.trans u3)).spoil (StateV.up hN hh (u1.trans u3)).spoil hK1 hL1 hK hL hn.2.2 fun k5 u5=>⟨_,rfl,fun k6 u6=>?_⟩,fun g k7 u7=>?_⟩,fun f k8 u8=>?_⟩)
 ·have:=C k6 ((u1.trans u3).trans (u5.trans u6))
  rwa [show decide (mK b x)=decide (btw b.lo.spoil x.spoil b.hi.spoil) from decide_eq_decide.2 ⟨fun h=>h.2.2,fun h=>⟨ow f,ow g,h⟩⟩]at this
 ·have:=C k7 ((u1.trans u3).trans u7)
  rwa [decide_eq_false fun h=>ov g h.2.1]at this
 ·have:=C k8 (u1.trans u8)
  rwa [decide_eq_false fun h=>ov f h.1]at this
theorem aIc (hs:SecV (NP K) k A0 n0 A1 n1 A2 n2 s) (hl:StateV (NP T) k A3 n3 A4 n4 A5 n5 b.lo) (hh:StateV (NP T) k A6 n6 A7 n7 A8 n8 b.hi) (hK1:1≤K) (hK:K≤1000000) (hT1:1≤T) (hT:T≤300000000)
 (C:∀k',Up k k'→R k' (.int .i64 (eG s b))) :
 Cl k 66 #[S3 A0 n0 d0 A1 n1 d1 A2 n2 d2,S6 A3 n3 d3 A4 n4 d4 A5 n5 d5 A6 n6 d6 A7 n7 d7 A8 n8 d8] R:=by
 intro k0 u0;have hN:=aE K;have hM:=aE T;replace hs:=SecV.up hN hs u0;replace hl:=StateV.up hM hl u0;replace hh:=StateV.up hM hh u0;replace C:=fun k' u=>C k' (u0.trans u);have e1:=hs.cells.1;have f3:=hh.temp.1;have f4:=hh.cure.1;have f5:=hh.spoil.1;refine aPa (zP hs hl.temp.1 hl.cure.1 hl.spoil.1 hK1 hK fun k1 u1=>⟨_,rfl,fun f k2 u2=>?_,fun f=>aCd fun k4 u4=>⟨_,rfl,fun g k5 u5=>?_,fun g=>?_⟩⟩)
 ·have:=C k2 (u1.trans u2);unfold eG at this
  rwa [og (cE f)]at this
 ·have hz:¬ (n6=n1∧n7=n1∧n8=n1):=fun h=>by rw [og h]at g;cases g
  have:=C k5 (u1.trans (u4.trans u5));unfold eG at this;rw [oh (by simp [bD f]),if_pos (by unfold sized;omega)]at this
  rwa [oh hz]
 ·have hz:n6=n1∧n7=n1∧n8=n1:=xe fun h=>by rw [oh h]at g;cases g
  have hsz:sized s b.hi:=by unfold sized;omega
  obtain⟨hE,z1,z2,z3⟩:=tI (bD f);have hc24:s.cells.length≤24:=by have:=aQ hE;unfold aY at this;omega
  have v4:=u1.trans u4;refine aKf (b:=b) (StateV.up hM hl v4) (StateV.up hM hh v4) (StateV.up hM hl v4) hT1 hT1 hT hT ⟨oq,oq,oq⟩ fun k7 u7=>⟨_,rfl,fun h k8 u8=>?_,fun h k9 u9=>?_⟩
  ·have:=C k8 (v4.trans (u7.trans u8));unfold eG at this
   rwa [oh (by simp [bD f]),if_neg (fun h=>h hsz),if_pos fun h'=>ov (by simpa using h) (xZ.2 h')]at this
  ·have:=C k9 (v4.trans (u7.trans u9));unfold eG at this
   rwa [oh (by simp [bD f]),if_neg (fun h=>h hsz),if_neg fun h'=>h' (xZ.1 (ow (by simpa using h)))]at this
theorem aBy (hr:RangeV (NP K) k c0 c1 c2 c3 r) (hK1:1≤K) (hK:K≤300000000) (C:∀k',Up k k'→R k' (.int .i64 (gV r))) :
 Cl k 67 #[Rg c0 c1 c2 c3] R:=by
 intro k0 u0;replace hr:=RangeV.up (aE K) hr u0;replace C:=fun k' u=>C k' (u0.trans u);unfold gV at C;refine aKj hr.s0.seg hr.s1.seg hr.a0.seg hr.a1.seg (dA hr.s1 hr.s0 hK1 hK hK fun k1 u1=>⟨_,rfl,fun f k2 u2=>?_,fun f=>dA (hr.a1.up u1) (hr.a0.up u1) hK1 hK hK fun k4 u4=>⟨_,rfl,fun g k5 u5=>?_,fun g k6 u6=>?_⟩⟩)
 ·have:=C k2 (u1.trans u2)
  rwa [og (Or.inl (ow f))]at this
 ·have:=C k5 (u1.trans (u4.trans u5))
  rwa [og (Or.inr (ow g))]at this
 ·have:=C k6 (u1.trans (u4.trans u6))
  rwa [oh (not_or.2 ⟨ov f,ov g⟩)]at this
theorem aEz (hs:SecV (NP K) k A0 n0 A1 n1 A2 n2 s) (hl:StateV (NP T) k A3 n3 A4 n4 A5 n5 b.lo) (hh:StateV (NP T) k A6 n6 A7 n7 A8 n8 b.hi) (hM:NbV (NP K) k M s.links) (hr:RangeV (NP K) k c0 c1 c2 c3 r) (hE:aF s=0) (hz:sized s b.lo) (hz':sized s b.hi)
 (hd:∀i,i<s.cells.length→(nbm s.links (i:Nat)).length≤d) (hK1:1≤K) (hT1:1≤T) (hT:aJ K d T≤90000) (hd2:d≤128)
 (C:∀k' B0 m0 e0 B1 m1 e1 B2 m2 e2 B3 m3 e3 B4 m4 e4 B5 m5 e5,Up k k'→StateW (NP (aJ K d T+1001)) (NP (T+K+1)) k' B0 m0 B1 m1 B2 m2 (dL s b r).lo→StateW (NP (aJ K d T+1001)) (NP (T+K+1)) k' B3 m3 B4 m4 B5 m5 (dL s b r).hi→
   R k' (S6 B0 m0 e0 B1 m1 e1 B2 m2 e2 B3 m3 e3 B4 m4 e4 B5 m5 e5)) :
 Cl k 69 #[.agg #[.slice A0 n0 d0,.slice A1 n1 d1,.slice A2 n2 d2,.map (some M)],S6 A3 n3 d3 A4 n4 d4 A5 n5 d5 A6 n6 d6 A7 n7 d7 A8 n8 d8,Rg c0 c1 c2 c3] R:=by
 intro k0 u0;have hN:=aE K;have hNT:=aE T;replace hr:=RangeV.up hN hr u0;refine aUp hr.s0.seg hr.s1.seg hr.a0.seg hr.a1.seg (aPv (SecV.up hN hs u0) (StateV.up hNT hl u0) (NbV.up hN hM u0) hr.s0 hr.a0 hE hz hd hK1 hT1 hT hd2 fun k1 B0 m0 e0 B1 m1 e1 B2 m2 e2 u1 h1=>⟨_,_,_,_,_,_,_,_,_,rfl,?_⟩);have v1:=u0.trans u1;refine aPu (SecV.up hN hs v1) (StateV.up hNT hh v1) (NbV.up hN hM v1) (hr.s1.up u1) (hr.a1.up u1) hE hz' hd hK1 hT1 hT hd2 fun k3 B3 m3 e3 B4 m4 e4 B5 m5 e5 u3 h3=>⟨_,_,_,_,_,_,_,_,_,rfl,fun k4 u4=>?_⟩;exact C k4 _ _ _ _ _ _ _ _ _ _ _ _ _ _ _ _ _ _ (v1.trans (u3.trans u4)) (StateW.up (aE _) (aE _) h1 (u3.trans u4)) (StateW.up (aE _) (aE _) h3 u4)
theorem aPb (hs:SecV (NP K) k A0 n0 A1 n1 A2 n2 s) (hu:RatV k cs u K) (hv:RatV k cs' v K) (hK1:1≤K) (hK:K≤1000000)
 (C:∀k' B0 m0 e0 B1 m1 e1 B2 m2 e2 B3 m3 e3 B4 m4 e4 B5 m5 e5,Up k k'→StateV (NP K) k' B0 m0 B1 m1 B2 m2 (jN (dE s u v) (eP s u v)).lo→StateV (NP K) k' B3 m3 B4 m4 B5 m5 (jN (dE s u v) (eP s u v)).hi→
   R k' (.tuple #[S6 B0 m0 e0 B1 m1 e1 B2 m2 e2 B3 m3 e3 B4 m4 e4 B5 m5 e5,.int .i64 (dE s u v)])) :
 Cl k 17 #[S3 A0 n0 d0 A1 n1 d1 A2 n2 d2,.agg cs,.agg cs'] R:=by
 intro k0 u0;have hN:=aE K;replace hs:=SecV.up hN hs u0;replace hu:=hu.up u0;replace hv:=hv.up u0;replace C:=fun k' B0 m0 e0 B1 m1 e1 B2 m2 e2 B3 m3 e3 B4 m4 e4 B5 m5 e5 u=>C k' B0 m0 e0 B1 m1 e1 B2 m2 e2 B3 m3 e3 B4 m4 e4 B5 m5 e5 (u0.trans u);have bad:∀e:Int,dE s u v=e→e≠0→∀k',Up k0 k'→R k' (.tuple #[S6 none 0 0 none 0 0 none 0 0 none 0 0 none 0 0 none 0 0,.int .i64 e]):=fun e he h0 k' u=>by
  have:=C k' none 0 0 none 0 0 none 0 0 none 0 0 none 0 0 none 0 0 u (by unfold jN;rw [he,og h0];exact⟨.nil,.nil,.nil⟩) (by unfold jN;rw [he,og h0];exact⟨.nil,.nil,.nil⟩)
  rwa [he]at this
 refine aJt hu.seg hv.seg (uH hs hK1 hK fun k1 u1=>⟨_,rfl,fun f k2 u2=>?_,fun f=>dA (hv.up u1) (hu.up u1) hK1 oq oq fun k4 u4=>⟨_,rfl,fun g k5 u5=>?_,fun g=>?_⟩⟩)
 ·exact bad _ (by unfold dE;rw [og (cE f)]) (cE f) k2 (u1.trans u2)
 ·exact bad 7 (by unfold dE;rw [oh (by simp [bD f]),if_pos (ow g)]) oz k5 (u1.trans (u4.trans u5))
 ·have f:=bD f;have hA:dE s u v=0:=by unfold dE;rw [oh (by simp [f]),if_neg (ov g)]
  rw [hA]at C;unfold jN at C;rw [oh (by simp)]at C;have hc24:s.cells.length≤24:=by have:=aQ f;unfold aY at this;omega
  have hce:=hs.cells.1;have v4:=u1.trans u4;refine uG (s:=s) hce oq (hu.up v4) fun k7 B0 m0 e0 B1 m1 e1 B2 m2 e2 u7 h7=>⟨_,_,_,_,_,_,_,_,_,rfl,?_⟩;refine uG (s:=s) hce oq (hv.up (v4.trans u7)) fun k9 B3 m3 e3 B4 m4 e4 B5 m5 e5 u9 h9=>⟨_,_,_,_,_,_,_,_,_,rfl,fun k10 u10=>?_⟩;exact C k10 _ _ _ _ _ _ _ _ _ _ _ _ _ _ _ _ _ _ ((v4.trans u7).trans (u9.trans u10)) (StateV.up (aE _) h7 (u9.trans u10)) (StateV.up (aE _) h9 u10)
end
open Sy (Up Sees CallsG Seg ReadIn)
def NF (W:Nat) (k:World) (a:Array Value) (v:Rat×Bool):Prop:=QV k a v.1 (bif v.2 then W+2003 else W)
theorem NF.seg {W:Nat}{k:World}{a:Array Value}{v:Rat×Bool}(h:NF W k a v):Seg 3 a:=QV.seg h
theorem NF.up {W:Nat}{k k':World}{a:Array Value}{v:Rat×Bool}(h:NF W k a v) (u:Up k k'):NF W k' a v:=QV.up h u
section
variable {k k':World}{R:World→Value→Prop}{c0 c1 c2 c3 cs cs':Array Value}{s:PSec}{b b':PBand}{x y:PState}{r:PRange}{l0 l1 l2:List Rat}{u v:Rat}{K L T T' d M n0 n1 n2 d0 d1 d2 n3 n4 n5 d3 d4 d5 n6 d6 n7 d7 n8 d8 n9 d9 n10 d10 n11 d11:Nat}{A0 A1 A2 A3 A4 A5 A6 A7 A8 A9 A10 A11:Option Addr}
theorem zK (h0:Lst k A0 n0 3 (NR K k) l0) (h1:Lst k A1 n1 3 (NR L k) l1) (he:l0.length=l1.length) (hK:K≤300000000) (hL:L≤300000000) (hn:l1.length≤1000000)
 (C:∀k',Up k k'→R k' (.bool (!decide (iC l0 l1)))) :
 Cl k 113 #[.slice A0 n0 d0,.slice A1 n1 d1] R:=by
 intro k0 u0;replace h0:=h0.up u0 fun _ _ h=>h.up u0;replace h1:=h1.up u0 fun _ _ h=>h.up u0;replace C:=fun k' u=>C k' (u0.trans u);have e0:=h0.1;have e1:=h1.1;refine aMv ⟨fun m k vs=>∃j:Nat,j+m=n0∧vs=[.int .i64 j]∧∀i,i<j→¬ at_ l1 i<at_ l0 i,⟨n0,fun k1 u1=>⟨0,oq,rfl,fun i hi=>oq⟩⟩,?_⟩;rintro m k1 vs u1 ⟨j,hj,rfl,hz⟩;refine⟨j,rfl,rfl,fun hlt=>?_,fun hge k2 u2=>?_⟩
 ·have hlt:=aH hlt;obtain⟨y,_,gy,ya,yb,yr,_⟩:=(h0.up u1 fun _ _ h=>h.up u1).el (i:=j) oq oz;obtain⟨z,_,gz,za,zb,zr,_⟩:=(h1.up u1 fun _ _ h=>h.up u1).el (i:=j) oq oz;refine⟨ya,yb,y,gy.seg,yr k1 (Up.refl _),za,zb,z,gz.seg,zr k1 (Up.refl _),sB gy gz oq fun k3 u3=>⟨_,rfl,fun f k4 u4=>?_,fun f k4 u4=>?_⟩⟩
  ·rw [kL]at f;have:=C k4 (u1.trans (u3.trans u4))
   rwa [decide_eq_false (show ¬ iC l0 l1 from fun h=>h j oq (ow f))]at this
  ·rw [kL]at f;exact⟨m-1,oq,j+1,oq,by rw [aC oq],bP hz (ov f)⟩
 ·have hge:=aG hge;have:=C k2 (u1.trans u2)
  rwa [decide_eq_true (show iC l0 l1 from fun i hi=>hz i oq)]at this
theorem aXu (hx:StateV (NR K) k A0 n0 A1 n1 A2 n2 x) (hy:StateV (NR L) k A3 n3 A4 n4 A5 n5 y) (hK:K≤300000000) (hL:L≤300000000) (hn:wH x)
 (C:∀k',Up k k'→R k' (.bool (decide (jA x y)))) :
 Cl k 65 #[S3 A0 n0 d0 A1 n1 d1 A2 n2 d2,S3 A3 n3 d3 A4 n4 d4 A5 n5 d5] R:=by
 intro k0 u0;have hN:=cL K;have hM:=cL L;replace hx:=StateV.up hN hx u0;replace hy:=StateV.up hM hy u0;replace C:=fun k' u=>C k' (u0.trans u);have e0:=hx.temp.1;have e1:=hx.cure.1;have e2:=hx.spoil.1;have e3:=hy.temp.1;have e4:=hy.cure.1;have e5:=hy.spoil.1;obtain⟨g0,g1,g2⟩:=hn;have no:¬ jA x y→∀k',Up k0 k'→R k' (.bool false):=fun h k' u=>by have:=C k' u;rwa [decide_eq_false h]at this
 refine aNs ⟨rfl,rfl,fun a k1 u1=>no (fun h=>?_) k1 u1,fun a=>⟨rfl,rfl,fun a' k1 u1=>no (fun h=>?_) k1 u1,fun a'=>⟨rfl,rfl,fun a'' k1 u1=>no (fun h=>?_) k1 u1,fun a''=>?_⟩⟩⟩
 ·have:=h.1.1;simp at a;omega
 ·have:=h.1.2.1;simp at a';omega
 ·have:=h.1.2.2;simp at a'';omega
 have a:n0=n3:=by simp at a;omega
 have a':n1=n4:=by simp at a';omega
 have a'':n2=n5:=by simp at a'';omega
 have dd:∀ {c:Bool},(!(!c))=true→c=true:=fun h=>by simpa using h
 have df:∀ {c:Bool},(!(!c))=false→c=false:=fun h=>by simpa using h
 refine zK hx.temp hy.temp oq hK hL oq fun k4 u4=>⟨_,rfl,fun f=>zK (StateV.up hN hx u4).cure (StateV.up hM hy u4).cure oq hK hL oq fun k6 u6=>⟨_,rfl,fun g=>zK (StateV.up hN hx (u4.trans u6)).spoil (StateV.up hM hy (u4.trans u6)).spoil oq hK hL oq fun k8 u8=>⟨_,rfl,fun k9 u9=>?_⟩,fun g k10 u10=>no (fun h=>ov (df g) h.2.2.1) k10 ((u4.trans u6).trans u10)⟩,fun f k11 u11=>no (fun h=>ov (df f) h.2.1) k11 (u4.trans u11)⟩;have:=C k9 ((u4.trans u6).trans (u8.trans u9))
 rwa [show decide (jA x y)=!(!decide (iC x.spoil y.spoil)) by rw [Bool.not_not];exact decide_eq_decide.2 ⟨fun h=>h.2.2.2,fun h=>⟨⟨oq,oq,oq⟩,ow (dd f),ow (dd g),h⟩⟩]at this
theorem aOv (hs:SecV (NR K) k A0 n0 A1 n1 A2 n2 s) (hl:StateV (NR T) k A3 n3 A4 n4 A5 n5 b.lo) (hh:StateV (NR T) k A6 n6 A7 n7 A8 n8 b.hi) (hK:K≤1000000) (hT:T≤300000000)
 (C:∀k',Up k k'→R k' (.int .i64 (eG s b))) :
 Cl k 70 #[S3 A0 n0 d0 A1 n1 d1 A2 n2 d2,S6 A3 n3 d3 A4 n4 d4 A5 n5 d5 A6 n6 d6 A7 n7 d7 A8 n8 d8] R:=by
 intro k0 u0;have hN:=cL K;have hM:=cL T;replace hs:=SecV.up hN hs u0;replace hl:=StateV.up hM hl u0;replace hh:=StateV.up hM hh u0;replace C:=fun k' u=>C k' (u0.trans u);have e1:=hs.cells.1;have f0:=hl.temp.1;have f1:=hl.cure.1;have f2:=hl.spoil.1;have f3:=hh.temp.1;have f4:=hh.cure.1;have f5:=hh.spoil.1;refine aGv (aJk hs hK fun k1 u1=>⟨_,rfl,fun f k2 u2=>?_,fun f=>aJe fun k4 u4=>⟨_,rfl,fun g k5 u5=>?_,fun g=>aJe fun k7 u7=>⟨_,rfl,fun g' k8 u8=>?_,fun g'=>?_⟩⟩⟩)
 ·have:=C k2 (u1.trans u2);have hb:eA s b.lo=aF s:=by unfold eA;rw [og (cE f)]
  unfold eG at this
  rwa [hb,og (cE f)]at this
 ·have hz:=ov (sL g);have:=C k5 (u1.trans (u4.trans u5));have hb:eA s b.lo=4:=by unfold eA;rw [oh (by simp [bD f]),if_pos (by unfold sized;omega)]
  unfold eG at this
  rwa [hb,og oz]at this
 ·have hz:=ow (nP g);have hz':=ov (sL g');have:=C k8 (u1.trans (u4.trans (u7.trans u8)));have hb:eA s b.lo=0:=by unfold eA;rw [oh (by simp [bD f]),if_neg (fun h=>h (by unfold sized;omega))]
  unfold eG at this
  rwa [hb,oh (by simp),og (by unfold sized;omega)]at this
 ·have hz:=ow (nP g);have hz':=ow (nP g');have hb:eA s b.lo=0:=by unfold eA;rw [oh (by simp [bD f]),if_neg (fun h=>h (by unfold sized;omega))]
  have hsz:sized s b.hi:=by unfold sized;omega
  have hc24:s.cells.length≤24:=by have:=aQ (bD f);unfold aY at this;omega
  have v7:=u1.trans (u4.trans u7);refine aXu (StateV.up hM hl v7) (StateV.up hM hh v7) hT hT ⟨oq,oq,oq⟩ fun k10 u10=>⟨_,rfl,fun h k11 u11=>?_,fun h k12 u12=>?_⟩
  ·have:=C k11 (v7.trans (u10.trans u11));unfold eG at this
   rwa [hb,oh (by simp),oh (fun h=>h hsz),og (ov (sL h))]at this
  ·have:=C k12 (v7.trans (u10.trans u12));unfold eG at this
   rwa [hb,oh (by simp),oh (fun h=>h hsz),oh (fun h'=>h' (ow (nP h)))]at this
theorem aSy (hr:RangeV (NR K) k c0 c1 c2 c3 r) (hK:K≤300000000) (C:∀k',Up k k'→R k' (.int .i64 (gV r))) :
 Cl k 71 #[Rg c0 c1 c2 c3] R:=by
 intro k0 u0;replace hr:=RangeV.up (cL K) hr u0;replace C:=fun k' u=>C k' (u0.trans u);unfold gV at C;refine aHc hr.s0.seg hr.s1.seg hr.a0.seg hr.a1.seg (sB hr.s0 hr.s1 oq fun k1 u1=>⟨_,rfl,fun f k2 u2=>?_,fun f=>sB (hr.a0.up u1) (hr.a1.up u1) oq fun k4 u4=>⟨_,rfl,fun g k5 u5=>?_,fun g k6 u6=>?_⟩⟩)
 ·rw [kL]at f;have:=C k2 (u1.trans u2)
  rwa [og (Or.inl (ow f))]at this
 ·rw [kL]at g;have:=C k5 (u1.trans (u4.trans u5))
  rwa [og (Or.inr (ow g))]at this
 ·rw [kL]at f g;have:=C k6 (u1.trans (u4.trans u6))
  rwa [oh (not_or.2 ⟨ov f,ov g⟩)]at this
theorem aDw (hs:SecV (NR K) k A0 n0 A1 n1 A2 n2 s) (hx:StateV (NR T) k A3 n3 A4 n4 A5 n5 x) (hu:QV k cs u K) (hv:QV k cs' v K) (hE:aF s=0) (hz:sized s x)
 (hd:∀i,i<s.cells.length→(nbm s.links (i:Nat)).length≤d) (hK2:2≤K) (hT1:1≤T) (hK:K≤1000000) (hT:aJ K d T≤300000000)
 (C:∀k' B0 e0 x0 B1 e1 x1 B2 e2 x2,Up k k'→ArrV n1 3 (NR (aJ K d T) k') x0 (at_ (bH s x u v).temp)→ArrV n1 3 (NR (T+K+1) k') x1 (at_ (bH s x u v).cure)→ArrV n1 3 (NR (T+K+1) k') x2 (at_ (bH s x u v).spoil)→
   R k' (.tuple #[.slice B0 n1 e0,.agg x0,.slice B1 n1 e1,.agg x1,.slice B2 n1 e2,.agg x2])) :
 ∀k0,Up k k0→Sy.CallsR3 Tryz.prog 118 #[S3 A0 n0 d0 A1 n1 d1 A2 n2 d2,S3 A3 n3 d3 A4 n4 d4 A5 n5 d5,.agg cs,.agg cs'] k0 81 3 R:=by
 intro k0 u0;have hN:=cL K;have hNT:=cL T;replace hs:=SecV.up hN hs u0;replace hx:=StateV.up hNT hx u0;replace hu:=hu.up u0;replace hv:=hv.up u0;replace C:=fun k' B0 e0 x0 B1 e1 x1 B2 e2 x2 u=>C k' B0 e0 x0 B1 e1 x1 B2 e2 x2 (u0.trans u);clear u0;have e1:=hs.cells.1;obtain⟨z3,z4,z5⟩:=id hz;have f3:=hx.temp.1;have f4:=hx.cure.1;have f5:=hx.spoil.1;have hn24:n1≤24:=by have:=aQ hE;unfold aY at this;omega
 have hW:3*T+5*K+4+d*(K+2*T+2)≤300000000:=hT;have hup:∀ {W:Nat}{k k':World}{xs:Array Value}{j:Nat}{f:Nat→Rat},Up k k'→ArrV j 3 (NR W k) xs f→ArrV j 3 (NR W k') xs f:=fun u h=>h.mono fun _ _ h=>h.up u;have hseg:∀ {W:Nat}{k:World},∀a v,NR W k a v→Seg 3 a:=fun _ _ h=>h.seg
 refine aNo hu.seg hv.seg ⟨fun m k vs=>∃(j:Nat) (B0 B1 B2:Option Addr) (e0 e1 e2:Nat) (x0 x1 x2:Array Value),j+m=n1∧vs=[.int .i64 j,.tuple #[.slice B0 j e0,.agg x0],.tuple #[.slice B1 j e1,.agg x1],.tuple #[.slice B2 j e2,.agg x2]]∧
  ArrV j 3 (NR (aJ K d T) k) x0 (at_ (bH s x u v).temp)∧ArrV j 3 (NR (T+K+1) k) x1 (at_ (bH s x u v).cure)∧ArrV j 3 (NR (T+K+1) k) x2 (at_ (bH s x u v).spoil),
  ⟨n1,fun k1 u1=>⟨0,_,_,_,_,_,_,_,_,_,oq,rfl,ArrV.empty,ArrV.empty,ArrV.empty⟩⟩,?_⟩
 rintro m k1 vs u1 ⟨j,B0,B1,B2,g0,g1,g2,x0,x1,x2,hj,rfl,h0,h1,h2⟩;refine⟨j,B0,j,g0,x0,h0.rowC hseg,B1,j,g1,x1,h1.rowC hseg,B2,j,g2,x2,h2.rowC hseg,rfl,rfl,fun hlt=>?_,fun hge k2 u2=>?_⟩
 ·have hlt:=aH hlt;have hjn:j<s.cells.length:=oq
  replace hs:=SecV.up hN hs u1;replace hx:=StateV.up hNT hx u1;replace hu:=hu.up u1;replace hv:=hv.up u1;obtain⟨a,_,⟨c0,c1,c2,rfl,q0,q1,q2⟩,ha,hb,_,hr,hr1⟩:=hs.cells.elx (i:=j) hjn oz;obtain⟨t,_,ht,ta,tb,tr,_⟩:=hx.temp.elx (i:=j) oq oz;obtain⟨hm0,hm1,_⟩:=eM hE hjn;have hmi:(at_ s.cells j).m=(((at_ s.cells j).m.toNat:Nat):Int):=oq
  obtain⟨a',_,⟨D,p1,r1,F,p2,r2,c4,c5,rfl,l0,l1,s0,s1⟩,ha',hb',hr',_⟩:=hs.mats.elx (i:=(at_ s.cells j).m.toNat) oq oz;obtain⟨hR1,hR2⟩:=aGm hE (i:=(at_ s.cells j).m.toNat) oq;rw [←hmi]at hb' hr';refine⟨ha,hb,ha,hb,_,hr1 k1 0 _ (Up.refl _) rfl,ha',hb',D,p1,r1,F,p2,r2,c4,s0.seg,c5,s1.seg,hr' k1 (Up.refl _),ta,tb,t,ht.seg,tr k1 (Up.refl _),ha,hb,ha,hb,c0,q0.seg,hr k1 c0 1 3 (Up.refl _) q0.seg.1 (fun q u h=>rA (d:=0) (by rw [qb];exact fS h)),?_⟩;refine aZf hs hx hu hv hE hz hjn (hd j hjn) hK oq fun k2 y2 u2 w2=>⟨y2,w2.seg,rfl,?_⟩;refine bBy w2 (q0.up u2) oq oq oq fun k4 y4 u4 w4=>⟨y4,w4.seg,rfl,?_⟩;refine nC ((ht.up u2).up u4) w4 oq fun k6 y6 u6 w6=>⟨y6,w6.seg,rfl,by simp [w6.seg.1],oz,⟨by simp;omega,by simp;omega⟩,?_⟩;rintro B0' _ g0' _ rfl rfl _;have v6:=(u2.trans u4).trans u6;replace hx:=StateV.up hNT hx v6;obtain⟨t3,_,ht3,ta3,tb3,tr3,_⟩:=hx.cure.elx (i:=j) oq oz;obtain⟨t4,_,ht4,ta4,tb4,tr4,_⟩:=hx.spoil.elx (i:=j) oq oz;obtain⟨t5,_,ht5,ta5,tb5,tr5,_⟩:=hx.temp.elx (i:=j) oq oz;refine⟨ta3,tb3,t3,ht3.seg,tr3 k6 (Up.refl _),ta5,tb5,t5,ht5.seg,tr5 k6 (Up.refl _),?_⟩;refine aJg (aP hN l0 v6) ht5 hR1 hK2 oq fun k8 y8 u8 w8=>⟨y8,w8.seg,rfl,?_⟩;refine nC (ht3.up u8) w8 oq fun k10 y10 u10 w10=>⟨y10,w10.seg,rfl,by simp [w10.seg.1],oz,⟨by simp;omega,by simp;omega⟩,?_⟩;rintro B1' _ g1' _ rfl rfl _;have v10:=u8.trans u10;refine⟨ta4,tb4,t4,ht4.seg,tr4 k10 v10,ta5,tb5,t5,ht5.seg,tr5 k10 v10,?_⟩;refine aJg (aP hN (aP hN l1 v6) v10) (ht5.up v10) hR2 hK2 oq fun k12 y12 u12 w12=>⟨y12,w12.seg,rfl,?_⟩;refine nC ((ht4.up v10).up u12) w12 oq fun k14 y14 u14 w14=>⟨y14,w14.seg,rfl,by simp [w14.seg.1],oz,⟨by simp;omega,by simp;omega⟩,?_⟩;rintro B2' _ g2' _ rfl rfl _ k15 u15;have v14:=(v10.trans u12).trans u14;refine⟨m-1,oq,j+1,B0',B1',B2',g0',g1',g2',_,_,_,oq,by rw [aC oq];rfl,?_,?_,?_⟩
  ·rw [qw];refine ArrV.push (hup ((v6.trans v14).trans u15) h0) w6.seg.1 ?_;rw [show at_ (bH s x u v).temp j=fB s x u v j from aN hjn];exact ((w6.up v14).up u15).mono (by unfold aJ;omega)
  ·rw [qw];refine ArrV.push (hup ((v6.trans v14).trans u15) h1) w10.seg.1 ?_;rw [show at_ (bH s x u v).cure j=nG s x j from aN hjn];exact (((w10.up u12).up u14).up u15).mono oq
  ·rw [qw];refine ArrV.push (hup ((v6.trans v14).trans u15) h2) w14.seg.1 ?_;rw [show at_ (bH s x u v).spoil j=gW s x j from aN hjn];exact (w14.up u15).mono oq
 ·have hge:=aG hge;have ej:j=n1:=oq
  subst ej;exact C k2 _ _ _ _ _ _ _ _ _ (u1.trans u2) (hup u2 h0) (hup u2 h1) (hup u2 h2)
theorem bAb (hs:SecV (NR K) k A0 n0 A1 n1 A2 n2 s) (hl:StateV (NR T) k A3 n3 A4 n4 A5 n5 b.lo) (hh:StateV (NR T) k A6 n6 A7 n7 A8 n8 b.hi) (hr:RangeV (NR K) k c0 c1 c2 c3 r) (hE:aF s=0) (hz:sized s b.lo) (hz':sized s b.hi)
 (hd:∀i,i<s.cells.length→(nbm s.links (i:Nat)).length≤d) (hK2:2≤K) (hT1:1≤T) (hK:K≤1000000) (hT:aJ K d T≤90000)
 (C:∀k' B0 m0 e0 B1 m1 e1 B2 m2 e2 B3 m3 e3 B4 m4 e4 B5 m5 e5,Up k k'→StateW (NR (aJ K d T+2003)) (NR (T+K+1)) k' B0 m0 B1 m1 B2 m2 (dL s b r).lo→StateW (NR (aJ K d T+2003)) (NR (T+K+1)) k' B3 m3 B4 m4 B5 m5 (dL s b r).hi→
   R k' (S6 B0 m0 e0 B1 m1 e1 B2 m2 e2 B3 m3 e3 B4 m4 e4 B5 m5 e5)) :
 Cl k 72 #[S3 A0 n0 d0 A1 n1 d1 A2 n2 d2,S6 A3 n3 d3 A4 n4 d4 A5 n5 d5 A6 n6 d6 A7 n7 d7 A8 n8 d8,Rg c0 c1 c2 c3] R:=by
 intro k0 u0;have hN:=cL K;have hNT:=cL T;have e1:=hs.cells.1;have hc24:s.cells.length≤24:=by have:=aQ hE;unfold aY at this;omega
 replace hr:=RangeV.up hN hr u0;have hT':aJ K d T≤300000000:=oq
 have hW:1≤aJ K d T:=by unfold aJ;omega
 have hup:∀ {W:Nat}{k k':World}{xs:Array Value}{j:Nat}{f:Nat→Rat},Up k k'→ArrV j 3 (NR W k) xs f→ArrV j 3 (NR W k') xs f:=fun u h=>h.mono fun _ _ h=>h.up u;have hseg:∀ {W:Nat}{k:World},∀a v,NR W k a v→Seg 3 a:=fun _ _ h=>h.seg;refine aXg hr.s0.seg hr.s1.seg hr.a0.seg hr.a1.seg (aDw (SecV.up hN hs u0) (StateV.up hNT hl u0) hr.s0 hr.a0 hE hz hd hK2 hT1 hK hT' fun k1 B0 e0 x0 B1 e1 x1 B2 e2 x2 u1 h0 h1 h2=>⟨_,_,_,_,_,_,_,_,_,_,_,_,rfl,?_⟩);have v1:=u0.trans u1;refine aDw (SecV.up hN hs v1) (StateV.up hNT hh v1) (hr.s1.up u1) (hr.a1.up u1) hE hz' hd hK2 hT1 hK hT' fun k3 B3 e3 x3 B4 e4 x4 B5 e5 x5 u3 h3 h4 h5=>⟨_,_,_,_,_,_,_,_,_,_,_,_,rfl,?_⟩;have v3:=v1.trans u3;have segF:∀ {k:World},∀a v,NF (aJ K d T) k a v→Seg 3 a:=fun _ _ h=>h.seg;have upF:∀ {k k':World}{xs:Array Value}{j:Nat}{f:Nat→Rat×Bool},Up k k'→ArrV j 3 (NF (aJ K d T) k) xs f→ArrV j 3 (NF (aJ K d T) k') xs f:=fun u h=>h.mono fun _ _ h=>h.up u;have e40:iQ 40=40:=oz
 refine⟨fun m k vs=>∃(j:Nat) (y0 y3:Array Value),j+m=n1∧vs=[.int .i64 j,.tuple #[.slice B0 n1 e0,.agg y0],.tuple #[.slice B3 n1 e3,.agg y3]]∧
  ArrV n1 3 (NF (aJ K d T) k) y0 (cut j (fun i=>(at_ (dL s b r).lo.temp i,true)) (fun i=>(at_ (bH s b.lo r.s0 r.a0).temp i,false)))∧
  ArrV n1 3 (NF (aJ K d T) k) y3 (cut j (fun i=>(at_ (dL s b r).hi.temp i,true)) (fun i=>(at_ (bH s b.hi r.s1 r.a1).temp i,false))),
  ⟨n1,fun k4 u4=>⟨0,_,_,oq,rfl,ArrV.start (show ArrV n1 3 (NF (aJ K d T) k4) x0 (fun i=>(at_ (bH s b.lo r.s0 r.a0).temp i,false)) from hup (u3.trans u4) h0),ArrV.start (show ArrV n1 3 (NF (aJ K d T) k4) x3 (fun i=>(at_ (bH s b.hi r.s1 r.a1).temp i,false)) from hup u4 h3)⟩⟩,?_⟩
 rintro m k4 vs u4 ⟨j,y0,y3,hj,rfl,g0,g3⟩;refine⟨j,B0,n1,e0,y0,g0.rowC segF,B3,n1,e3,y3,g3.rowC segF,rfl,rfl,fun hlt=>?_,fun hge k10 u10 r0 k11 u11 r1 k12 u12 r2 k13 u13 r3 k14 u14 r4 k15 u15 r5 k16 u16=>?_⟩
 ·have hlt:=aH hlt;have hjn:j<s.cells.length:=oq
  obtain⟨a,ha,ga,hr0⟩:=g0.read hlt;obtain⟨c,hc,gc,hr3⟩:=g3.read hlt;unfold cut at ga gc;rw [oh (Nat.lt_irrefl j)]at ga gc;have ga':QV k4 a (fB s b.lo r.s0 r.a0 j) (aJ K d T):=by
   have:QV k4 a (at_ (bH s b.lo r.s0 r.a0).temp j) (aJ K d T):=ga
   rwa [show at_ (bH s b.lo r.s0 r.a0).temp j=fB s b.lo r.s0 r.a0 j from aN hjn]at this
  have gc':QV k4 c (fB s b.hi r.s1 r.a1 j) (aJ K d T):=by
   have:QV k4 c (at_ (bH s b.hi r.s1 r.a1).temp j) (aJ K d T):=gc
   rwa [show at_ (bH s b.hi r.s1 r.a1).temp j=fB s b.hi r.s1 r.a1 j from aN hjn]at this
  refine⟨decide_eq_true ⟨oq,oq⟩,a,ga'.seg,hr0 0 3 (.agg a) ha (fun q u h=>by rw [qb];exact h),decide_eq_true ⟨oq,oq⟩,c,gc'.seg,hr3 0 3 (.agg c) hc (fun q u h=>by rw [qb];exact h),?_⟩;refine aDr (m:=40) ga' hW oq fun k6 y6 u6 w6=>⟨y6,w6.seg,rfl,?_⟩;refine aXf (m:=40) (gc'.up u6) hW oq fun k8 y8 u8 w8=>⟨y8,w8.seg,rfl,decide_eq_true ⟨oq,oq⟩,⟨oq,oq⟩,?_⟩;rw [e40]at w6 w8;rintro _ rfl;refine⟨decide_eq_true ⟨oq,oq⟩,⟨oq,oq⟩,?_⟩;rintro _ rfl k9 u9;have v9:=u6.trans (u8.trans u9);refine⟨m-1,oq,j+1,_,_,oq,by rw [aC oq],?_,?_⟩
  ·rw [qw];refine (upF v9 g0).step hlt w6.seg.1 ?_;show QV k9 y6 (at_ (dL s b r).lo.temp j) (aJ K d T+2003);rw [show at_ (dL s b r).lo.temp j=jL (fB s b.lo r.s0 r.a0 j) from aN hjn];exact (w6.up u8).up u9
  ·rw [qw];refine (upF v9 g3).step hlt w8.seg.1 ?_;show QV k9 y8 (at_ (dL s b r).hi.temp j) (aJ K d T+2003);rw [show at_ (dL s b r).hi.temp j=pA (fB s b.hi r.s1 r.a1 j) from aN hjn];exact w8.up u9
 ·have hge:=aG hge;have v16:=((u10.trans u11).trans (u12.trans u13)).trans ((u14.trans u15).trans u16);have q0:ArrV n1 3 (NR (aJ K d T+2003) k4) y0 (at_ (dL s b r).lo.temp):=g0.done hge;have q3:ArrV n1 3 (NR (aJ K d T+2003) k4) y3 (at_ (dL s b r).hi.temp):=g3.done hge;refine C k16 _ _ _ _ _ _ _ _ _ _ _ _ _ _ _ _ _ _ (v3.trans (u4.trans v16)) ⟨?_,?_,?_⟩ ⟨?_,?_,?_⟩
  ·exact eE (by simp [dL,cM];omega) (hup v16 q0) hseg (bZ r0 (((u11.trans u12).trans (u13.trans u14)).trans (u15.trans u16)))
  ·exact eE (by simp [dL,cM];omega) (hup ((u3.trans u4).trans v16) h1) hseg (bZ r1 ((u12.trans (u13.trans u14)).trans (u15.trans u16)))
  ·exact eE (by simp [dL,cM];omega) (hup ((u3.trans u4).trans v16) h2) hseg (bZ r2 ((u13.trans u14).trans (u15.trans u16)))
  ·exact eE (by simp [dL,cM];omega) (hup v16 q3) hseg (bZ r3 (u14.trans (u15.trans u16)))
  ·exact eE (by simp [dL,cM];omega) (hup (u4.trans v16) h4) hseg (bZ r4 (u15.trans u16))
  ·exact eE (by simp [dL,cM];omega) (hup (u4.trans v16) h5) hseg (bZ r5 u16)
theorem aTc (hs:SecV (NR K) k A0 n0 A1 n1 A2 n2 s) (hl:StateV (NR T) k A3 n3 A4 n4 A5 n5 b.lo) (hh:StateV (NR T) k A6 n6 A7 n7 A8 n8 b.hi) (hr:RangeV (NR K) k c0 c1 c2 c3 r)
 (hd:aF s=0→∀i,i<s.cells.length→(nbm s.links (i:Nat)).length≤d) (hK2:2≤K) (hT1:1≤T) (hK:K≤1000000) (hT:aJ K d T≤90000)
 (C:∀k' B0 m0 e0 B1 m1 e1 B2 m2 e2 B3 m3 e3 B4 m4 e4 B5 m5 e5,Up k k'→StateW (NR (aJ K d T+2003)) (NR (T+K+1)) k' B0 m0 B1 m1 B2 m2 (jN (gR s b r) (dL s b r)).lo→StateW (NR (aJ K d T+2003)) (NR (T+K+1)) k' B3 m3 B4 m4 B5 m5 (jN (gR s b r) (dL s b r)).hi→
   R k' (.tuple #[S6 B0 m0 e0 B1 m1 e1 B2 m2 e2 B3 m3 e3 B4 m4 e4 B5 m5 e5,.int .i64 (gR s b r)])) :
 Cl k 27 #[S3 A0 n0 d0 A1 n1 d1 A2 n2 d2,S6 A3 n3 d3 A4 n4 d4 A5 n5 d5 A6 n6 d6 A7 n7 d7 A8 n8 d8,Rg c0 c1 c2 c3] R:=by
 intro k0 u0;have hN:=cL K;have hNT:=cL T;have hT':T≤300000000:=qk mC (qk hT oz);replace hs:=SecV.up hN hs u0;replace hl:=StateV.up hNT hl u0;replace hh:=StateV.up hNT hh u0;replace hr:=RangeV.up hN hr u0;replace C:=fun k' B0 m0 e0 B1 m1 e1 B2 m2 e2 B3 m3 e3 B4 m4 e4 B5 m5 e5 u=>C k' B0 m0 e0 B1 m1 e1 B2 m2 e2 B3 m3 e3 B4 m4 e4 B5 m5 e5 (u0.trans u);have bad:∀e:Int,gR s b r=e→e≠0→∀k',Up k0 k'→R k' (.tuple #[S6 none 0 0 none 0 0 none 0 0 none 0 0 none 0 0 none 0 0,.int .i64 e]):=fun e he h0 k' u=>by
  have:=C k' none 0 0 none 0 0 none 0 0 none 0 0 none 0 0 none 0 0 u (by unfold jN;rw [he,og h0];exact⟨.nil,.nil,.nil⟩) (by unfold jN;rw [he,og h0];exact⟨.nil,.nil,.nil⟩)
  rwa [he]at this
 refine aNb hr.s0.seg hr.s1.seg hr.a0.seg hr.a1.seg (aOv hs hl hh hK hT' fun k1 u1=>⟨_,rfl,fun f k2 u2=>?_,fun f=>aSy (RangeV.up hN hr u1) oq fun k4 u4=>⟨_,rfl,fun g k5 u5=>?_,fun g=>?_⟩⟩)
 ·exact bad _ (by unfold gR;rw [og (cE f)]) (cE f) k2 (u1.trans u2)
 ·exact bad _ (by unfold gR;rw [oh (by simp [bD f])]) (cE g) k5 (u1.trans (u4.trans u5))
 ·have f:=bD f;have g:=bD g;have hA:gR s b r=0:=by unfold gR;rw [oh (by simp [f]),g]
  rw [hA]at C;unfold jN at C;rw [oh (by simp)]at C;obtain⟨hE,hz,hz',_⟩:=mH f;have v4:=u1.trans u4;refine bAb (SecV.up hN hs v4) (StateV.up hNT hl v4) (StateV.up hNT hh v4) (RangeV.up hN hr v4) hE hz hz' (hd hE) hK2 hT1 hK hT fun k9 B0 m0 e0 B1 m1 e1 B2 m2 e2 B3 m3 e3 B4 m4 e4 B5 m5 e5 u9 h1 h2=>⟨_,_,_,_,_,_,_,_,_,_,_,_,_,_,_,_,_,_,rfl,fun k10 u10=>?_⟩;exact C k10 _ _ _ _ _ _ _ _ _ _ _ _ _ _ _ _ _ _ (v4.trans (u9.trans u10)) (StateW.up (cL _) (cL _) h1 u10) (StateW.up (cL _) (cL _) h2 u10)
theorem aTb (hs:SecV (NR K) k A0 n0 A1 n1 A2 n2 s) (hu:QV k cs u K) (hv:QV k cs' v K) (hK2:2≤K) (hK:K≤1000000)
 (C:∀k' B0 m0 e0 B1 m1 e1 B2 m2 e2 B3 m3 e3 B4 m4 e4 B5 m5 e5,Up k k'→StateV (NR K) k' B0 m0 B1 m1 B2 m2 (jN (dE s u v) (eP s u v)).lo→StateV (NR K) k' B3 m3 B4 m4 B5 m5 (jN (dE s u v) (eP s u v)).hi→
   R k' (.tuple #[S6 B0 m0 e0 B1 m1 e1 B2 m2 e2 B3 m3 e3 B4 m4 e4 B5 m5 e5,.int .i64 (dE s u v)])) :
 Cl k 19 #[S3 A0 n0 d0 A1 n1 d1 A2 n2 d2,.agg cs,.agg cs'] R:=by
 intro k0 u0;have hN:=cL K;replace hs:=SecV.up hN hs u0;replace hu:=hu.up u0;replace hv:=hv.up u0;replace C:=fun k' B0 m0 e0 B1 m1 e1 B2 m2 e2 B3 m3 e3 B4 m4 e4 B5 m5 e5 u=>C k' B0 m0 e0 B1 m1 e1 B2 m2 e2 B3 m3 e3 B4 m4 e4 B5 m5 e5 (u0.trans u);have bad:∀e:Int,dE s u v=e→e≠0→∀k',Up k0 k'→R k' (.tuple #[S6 none 0 0 none 0 0 none 0 0 none 0 0 none 0 0 none 0 0,.int .i64 e]):=fun e he h0 k' u=>by
  have:=C k' none 0 0 none 0 0 none 0 0 none 0 0 none 0 0 none 0 0 u (by unfold jN;rw [he,og h0];exact⟨.nil,.nil,.nil⟩) (by unfold jN;rw [he,og h0];exact⟨.nil,.nil,.nil⟩)
  rwa [he]at this
 refine aNa hu.seg hv.seg (aJk hs hK fun k1 u1=>⟨_,rfl,fun f k2 u2=>?_,fun f=>sB (hu.up u1) (hv.up u1) oq fun k4 u4=>⟨_,rfl,fun g k5 u5=>?_,fun g=>?_⟩⟩)
 ·exact bad _ (by unfold dE;rw [og (cE f)]) (cE f) k2 (u1.trans u2)
 ·rw [kL]at g;exact bad 7 (by unfold dE;rw [oh (by simp [bD f]),if_pos (ow g)]) oz k5 (u1.trans (u4.trans u5))
 ·rw [kL]at g;have f:=bD f;have hA:dE s u v=0:=by unfold dE;rw [oh (by simp [f]),if_neg (ov g)]
  rw [hA]at C;unfold jN at C;rw [oh (by simp)]at C;have hc24:s.cells.length≤24:=by have:=aQ f;unfold aY at this;omega
  have hce:=hs.cells.1;have v4:=u1.trans u4;refine aJh (s:=s) hce oq (hu.up v4) hK2 fun k7 B0 m0 e0 B1 m1 e1 B2 m2 e2 u7 h7=>⟨_,_,_,_,_,_,_,_,_,rfl,?_⟩;refine aJh (s:=s) hce oq (hv.up (v4.trans u7)) hK2 fun k9 B3 m3 e3 B4 m4 e4 B5 m5 e5 u9 h9=>⟨_,_,_,_,_,_,_,_,_,rfl,fun k10 u10=>?_⟩;exact C k10 _ _ _ _ _ _ _ _ _ _ _ _ _ _ _ _ _ _ ((v4.trans u7).trans (u9.trans u10)) (StateV.up (cL _) h7 (u9.trans u10)) (StateV.up (cL _) h9 u10)
end
open Sy (Up Sees CallsG Seg ReadAt)
def few30 (x:PState):Prop:=x.temp.length≤30∧x.cure.length≤30∧x.spoil.length≤30
def small5 (x:PState):Prop:=x.temp.length≤100000∧x.cure.length≤100000∧x.spoil.length≤100000
section
variable {k:World}{R:World→Value→Prop}{s:PSec}{b x y:PBand}{z:PState}{K L n0 n1 n2 d0 d1 d2 n3 n4 n5 d3 d4 d5 n6 d6 n7 d7 n8 d8 n9 d9 n10 d10 n11 d11 n12 d12 n13 d13 n14 d14 n15 d15 n16 d16 n17 d17:Nat}{A0 A1 A2 A3 A4 A5 A6 A7 A8 A9 A10 A11 A12 A13 A14 A15 A16 A17:Option Addr}{i0 i1 i2 i3 i4 i5 i6 i7:Int}
theorem aLt (j0:In64 i0) (j1:In64 i1) (j2:In64 i2) (j3:In64 i3) (j4:In64 i4) (j5:In64 i5) (j6:In64 i6) (j7:In64 i7)
 (C:∀k' c0 c1 c2 c3 g0 g1 g2 g3,Up k k'→RangeV (NP 1) k' c0 c1 c2 c3 ⟨ofQ i0 i1,ofQ i2 i3,ofQ i4 i5,ofQ i6 i7⟩→RangeV (NR 2) k' g0 g1 g2 g3 ⟨ofQ i0 i1,ofQ i2 i3,ofQ i4 i5,ofQ i6 i7⟩→
   R k' (.tuple #[Rg c0 c1 c2 c3,Rg g0 g1 g2 g3])) :
 Cl k 25 #[.agg #[.int .i64 i0,.int .i64 i1,.int .i64 i2,.int .i64 i3,.int .i64 i4,.int .i64 i5,.int .i64 i6,.int .i64 i7]] R:=by
 intro k0 u0;refine aGc (oS j0 j1 fun k1 c0 u1 w1=>⟨c0,w1.seg,rfl,pT j0 j1 fun k3 g0 u3 w3=>⟨g0,w3.seg,rfl,oS j4 j5 fun k5 c2 u5 w5=>⟨c2,w5.seg,rfl,pT j4 j5 fun k7 g2 u7 w7=>⟨g2,w7.seg,rfl,?_⟩⟩⟩⟩);refine oS j2 j3 fun k9 c1 u9 w9=>⟨c1,w9.seg,rfl,pT j2 j3 fun k11 g1 u11 w11=>⟨g1,w11.seg,rfl,oS j6 j7 fun k13 c3 u13 w13=>⟨c3,w13.seg,rfl,pT j6 j7 fun k15 g3 u15 w15=>⟨g3,w15.seg,rfl,fun k16 u16=>?_⟩⟩⟩⟩;have v9:=u9.trans (u11.trans (u13.trans (u15.trans u16)));have v1:=u3.trans (u5.trans (u7.trans v9));exact C k16 _ _ _ _ _ _ _ _ (u0.trans (u1.trans v1)) ⟨w1.up v1,w9.up (u11.trans (u13.trans (u15.trans u16))),w5.up (u7.trans v9),w13.up (u15.trans u16)⟩ ⟨w3.up (u5.trans (u7.trans v9)),w11.up (u13.trans (u15.trans u16)),w7.up v9,w15.up u16⟩
end
def cC (f:Nat→Nat→Bool):Nat→Nat
 | 0=>0
 | j+1=>if f j (cC f j)=true then j else cC f j
theorem mI {f:Nat→Nat→Bool}:∀ {n:Nat},cC f n≤n-1
 | 0=>oy _
 | n+1=>by
  have:=mI (f:=f) (n:=n);unfold cC;split <;> omega
theorem rC {f:Nat→Nat→Bool}{n:Nat}(h:0<n):cC f n<n:=by have:=mI (f:=f) (n:=n);omega
theorem nZ {l:Nat→Rat}:∀ {n i:Nat},i<n→¬ l i<l (cC (fun i b=>decide (l i<l b)) n)
 | n+1,i,hi=>by
  unfold cC
  by_cases h:l n<l (cC (fun i b=>decide (l i<l b)) n)
  ·rw [og (decide_eq_true h)]
   by_cases e:i=n
   ·rw [e];exact Rat.lt_irrefl
   ·have ih:=nZ (l:=l) (n:=n) (i:=i) oq;exact fun g=>ih (Std.lt_trans g h)
  ·rw [oh (by simp [h])]
   by_cases e:i=n
   ·rw [e];exact h
   ·exact nZ oq
theorem yX {x a:Rat}(ha:0<a):x/a<1↔x<a:=by rw [Rat.div_lt_iff ha,Rat.one_mul]
theorem aMi {x a:Rat}(ha:0<a):1<x/a↔a<x:=by rw [Rat.lt_div_iff ha,Rat.one_mul]
def xQ (s:PSec) (i:Nat):Rat:=(at_ s.mats (at_ s.cells i).m.toNat).done
def oC (s:PSec) (i:Nat):Rat:=(at_ s.mats (at_ s.cells i).m.toNat).limit
def bV (s:PSec) (x:PState):List Rat:=(List.range s.cells.length).map fun i=>at_ x.cure i/xQ s i
def dZ (s:PSec) (x:PState):List Rat:=(List.range s.cells.length).map fun i=>at_ x.spoil i/oC s i
def iO (l:List Rat) (i b:Nat):Bool:=decide (at_ l i<at_ l b)
def jJ (l:List Rat) (i b:Nat):Bool:=decide (at_ l b<at_ l i)
def fU (s:PSec) (x:PState):Nat:=cC (iO (bV s x)) s.cells.length
def aCn (s:PSec) (x:PState):Nat:=cC (jJ (dZ s x)) s.cells.length
def fD (s:PSec) (x:PState):Prop:=∀i,i<s.cells.length→¬ at_ x.cure i<xQ s i
def aR (s:PSec) (x:PState):Prop:=¬ ∀i,i<s.cells.length→¬ oC s i<at_ x.spoil i
instance (s:PSec) (x:PState):Decidable (fD s x):=by unfold fD;exact inferInstance
instance (s:PSec) (x:PState):Decidable (aR s x):=by unfold aR;exact inferInstance
def bCk (s:PSec) (b:PBand):Int:=if aR s b.lo then 2 else if aR s b.hi then 3 else if ¬ fD s b.lo then 1 else 0
theorem rE {s:PSec}(h:aF s=0) {i:Nat}(hi:i<s.cells.length):0<xQ s i∧0<oC s i:=by
 obtain⟨h0,h1,_⟩:=eM h hi;have:=cP (mQ h) (at_ s.cells i).m.toNat oq;unfold mZ at this;split at this
 ·rename_i hn;exact absurd this hn
 ·split at this
  ·rename_i hn;exact absurd this hn
  ·split at this
   ·cases this
   ·rename_i hn;rw [not_or,zd,zd]at hn;exact hn
theorem aCk {s:PSec}(h:aF s=0) {x:PState}(hn:0<s.cells.length):(¬ at_ (bV s x) (fU s x)<1)↔fD s x:=by
 have hl:fU s x<s.cells.length:=rC hn;have hm:∀i,i<s.cells.length→¬ at_ (bV s x) i<at_ (bV s x) (fU s x):=fun i hi=>nZ (l:=at_ (bV s x)) hi;have e:∀i,i<s.cells.length→(at_ (bV s x) i<1↔at_ x.cure i<xQ s i):=fun i hi=>by
  unfold bV;rw [aN hi];exact yX (rE h hi).1
 constructor
 ·intro g i hi hc;exact hm i hi (by have:=(e i hi).2 hc;grind)
 ·intro g hc;exact g _ hl ((e _ hl).1 hc)
section
variable {k k':World}{R:World→Value→Prop}{cs cs':Array Value}{s:PSec}{b:PBand}{x:PState}{l:List Rat}{K L T d n0 n1 n2 d0 d1 d2 n3 n4 n5 d3 d4 d5 n6 d6 n7 d7 n8 d8 n c:Nat}{A A0 A1 A2 A3 A4 A5 A6 A7 A8:Option Addr}
theorem uF {f:FuncId}{g:PMat→Rat}(hvc:aEt f) (hf:∀ {k:World}{cs:Array Value}{m:PMat}{R:World→Value→Prop},MatV (NP K) k cs m→(∀k' ds,Up k k'→RatV k' ds (g m) K→R k' (.agg ds))→∀k0,Up k k0→CallsG Tryz.prog f #[.agg cs] k0 R) (hs:SecV (NP K) k A0 n0 A1 n1 A2 n2 s) (hx:Lst k A3 n3 3 (NP T k) l) (hE:aF s=0) (hz:l.length=s.cells.length) (hK1:1≤K) (hT1:1≤T) (hK:K≤300000000) (hT:T≤300000000)
 (C:∀k' B m e,Up k k'→Lst k' B m 3 (NP (T+K) k') ((List.range s.cells.length).map fun i=>at_ l i/g (at_ s.mats (at_ s.cells i).m.toNat))→R k' (.slice B m e)) :
 Cl k 166 #[S3 A0 n0 d0 A1 n1 d1 A2 n2 d2,.slice A3 n3 d3,.func (.func f) #[] #[]] R:=by
 intro k0 u0;have hN:=aE K;replace hs:=SecV.up hN hs u0;replace hx:=hx.up u0 fun _ _ h=>h.up u0;replace C:=fun k' B m e u=>C k' B m e (u0.trans u);have hce:=hs.cells.1;have hn24:s.cells.length≤24:=by have:=aQ hE;unfold aY at this;omega
 have hseg:∀ {k:World},∀a v,NP (T+K) k a v→Seg 3 a:=fun _ _ h=>h.seg;refine hvc ⟨rfl,fun m k vs=>∃(j:Nat) (B:Option Addr) (e:Nat) (xs:Array Value),j+m=n1∧vs=[.int .i64 j,.tuple #[.slice B j e,.agg xs]]∧ArrV j 3 (NP (T+K) k) xs (at_ ((List.range s.cells.length).map fun i=>at_ l i/g (at_ s.mats (at_ s.cells i).m.toNat))),⟨n1,fun k1 u1=>⟨0,_,_,_,oq,rfl,ArrV.empty⟩⟩,?_⟩;rintro m k1 vs u1 ⟨j,B,e,xs,hj,rfl,h0⟩;refine⟨j,B,j,e,xs,h0.rowC hseg,rfl,fun hlt=>?_,fun hge k6 u6 r6 k7 u7=>?_⟩
 ·have hlt:=aH hlt;have hjn:j<s.cells.length:=oq
  replace hs:=SecV.up hN hs u1;obtain⟨a,_,⟨c0,c1,c2,rfl,q0,q1,q2⟩,ha,hb,hr,_⟩:=hs.cells.el hjn oz;obtain⟨t,_,ht,ta,tb,tr,_⟩:=(hx.up u1 fun _ _ h=>h.up u1).el (i:=j) oq oz;obtain⟨hm0,hm1,_⟩:=eM hE hjn;have hmi:(at_ s.cells j).m=(((at_ s.cells j).m.toNat:Nat):Int):=oq
  obtain⟨a',_,hmv,ha',hb',hr',_⟩:=hs.mats.el (i:=(at_ s.cells j).m.toNat) oq oz;rw [←hmi]at hb' hr';obtain⟨D,p1,r1,F,p2,r2,c4,c5,rfl,l0,l1,s0,s1⟩:=id hmv;refine⟨ha,hb,_,c0,q0.seg,c1,q1.seg,c2,q2.seg,hr k1 (Up.refl _),ta,tb,t,ht.seg,tr k1 (Up.refl _),ha',hb',D,p1,r1,F,p2,r2,c4,s0.seg,c5,s1.seg,hr' k1 (Up.refl _),?_⟩;refine hf hmv fun k2 ds v2 hds=>⟨ds,hds.seg,rfl,?_⟩;refine aFk (ht.up v2) hds hT1 hK1 hT hK fun k4 y4 u4 w4=>⟨y4,w4.seg,rfl,by simp [w4.seg.1],oz,⟨by simp;omega,by simp;omega⟩,?_⟩;rintro B' _ e' _ rfl rfl _ k5 u5;refine⟨m-1,oq,j+1,B',e',_,oq,by rw [aC oq];rfl,?_⟩;rw [qw];refine ArrV.push (h0.mono fun a v h=>h.up (v2.trans (u4.trans u5))) w4.seg.1 ?_;rw [aN hjn];exact w4.up u5
 ·have hge:=aG hge;have ej:j=n1:=oq
  refine C k7 B j e (u1.trans (u6.trans u7)) (eE (by simp;omega) ((h0.mono fun _ _ h=>h.up u6).mono fun _ _ h=>h.up u7) hseg (bZ r6 u7))
theorem aFl (hs:SecV (NP K) k A0 n0 A1 n1 A2 n2 s) (hx:Lst k A3 n3 3 (NP T k) x.cure) (hE:aF s=0) (hz:x.cure.length=s.cells.length) (hK1:1≤K) (hT1:1≤T) (hK:K≤300000000) (hT:T≤300000000)
 (C:∀k' B m e,Up k k'→Lst k' B m 3 (NP (T+K) k') (bV s x)→R k' (.slice B m e)) :
 Cl k 166 #[S3 A0 n0 d0 A1 n1 d1 A2 n2 d2,.slice A3 n3 d3,.func (.func 167) #[] #[]] R:=
 uF (g:=fun m=>m.done) aCa (fun hm C k0 u0=>by
  obtain⟨D,p1,r1,F,p2,r2,c4,c5,rfl,l0,l1,s0,s1⟩:=hm
  exact aFc s0.seg s1.seg fun k2 u2=>C k2 c4 (u0.trans u2) (s0.up (u0.trans u2))) hs hx hE hz hK1 hT1 hK hT C
theorem aFm (hs:SecV (NP K) k A0 n0 A1 n1 A2 n2 s) (hx:Lst k A3 n3 3 (NP T k) x.spoil) (hE:aF s=0) (hz:x.spoil.length=s.cells.length) (hK1:1≤K) (hT1:1≤T) (hK:K≤300000000) (hT:T≤300000000)
 (C:∀k' B m e,Up k k'→Lst k' B m 3 (NP (T+K) k') (dZ s x)→R k' (.slice B m e)) :
 Cl k 166 #[S3 A0 n0 d0 A1 n1 d1 A2 n2 d2,.slice A3 n3 d3,.func (.func 168) #[] #[]] R:=
 uF (g:=fun m=>m.limit) aCb (fun hm C k0 u0=>by
  obtain⟨D,p1,r1,F,p2,r2,c4,c5,rfl,l0,l1,s0,s1⟩:=hm
  exact aCc s0.seg s1.seg fun k2 u2=>C k2 c5 (u0.trans u2) (s1.up (u0.trans u2))) hs hx hE hz hK1 hT1 hK hT C
theorem aBt (hs:SecV (NP K) k A0 n0 A1 n1 A2 n2 s) (hx:StateV (NP T) k A3 n3 A4 n4 A5 n5 x) (hE:aF s=0) (hz:sized s x) (hK1:1≤K) (hT1:1≤T) (hK:K≤300000000) (hT:T≤300000000)
 (C:∀k' B m e,Up k k'→Lst k' B m 3 (NP (T+K) k') (bV s x)→R k' (.slice B m e)) :
 Cl k 122 #[S3 A0 n0 d0 A1 n1 d1 A2 n2 d2,S3 A3 n3 d3 A4 n4 d4 A5 n5 d5] R:=by
 intro k0 u0;refine aJw (aFl (SecV.up (aE K) hs u0) (StateV.up (aE T) hx u0).cure hE hz.2.1 hK1 hT1 hK hT fun k1 B m e u1 h1=>⟨_,_,_,rfl,fun k2 u2=>?_⟩);exact C k2 B m e (u0.trans (u1.trans u2)) (h1.up u2 fun _ _ h=>h.up u2)
theorem xL (hs:SecV (NP K) k A0 n0 A1 n1 A2 n2 s) (hx:StateV (NP T) k A3 n3 A4 n4 A5 n5 x) (hE:aF s=0) (hz:sized s x) (hK1:1≤K) (hT1:1≤T) (hK:K≤300000000) (hT:T≤300000000)
 (C:∀k' B m e,Up k k'→Lst k' B m 3 (NP (T+K) k') (dZ s x)→R k' (.slice B m e)) :
 Cl k 123 #[S3 A0 n0 d0 A1 n1 d1 A2 n2 d2,S3 A3 n3 d3 A4 n4 d4 A5 n5 d5] R:=by
 intro k0 u0;refine aFn (aFm (SecV.up (aE K) hs u0) (StateV.up (aE T) hx u0).spoil hE hz.2.2 hK1 hT1 hK hT fun k1 B m e u1 h1=>⟨_,_,_,rfl,fun k2 u2=>?_⟩);exact C k2 B m e (u0.trans (u1.trans u2)) (h1.up u2 fun _ _ h=>h.up u2)
theorem xE (hl:Lst k A n 3 (NP K k) l) (hK1:1≤K) (hK:K≤300000000) (h0:0<l.length) (hn:l.length≤1000000) (C:∀k',Up k k'→R k' (.int .i64 (cC (iO l) l.length:Nat))) :
 Cl k 121 #[.slice A n c,.func (.func 55) #[] #[]] R:=by
 intro k0 u0;replace hl:=hl.up u0 fun _ _ h=>h.up u0;have hnl:=hl.1;refine aFf ⟨rfl,fun m k vs=>∃j:Nat,j+m=n∧vs=[.int .i64 (cC (iO l) j:Nat),.int .i64 j],⟨n,fun k1 u1=>⟨0,oq,rfl⟩⟩,?_⟩;rintro m k1 vs u1 ⟨j,hj,rfl⟩;refine⟨_,j,rfl,fun hlt=>?_,fun hge k5 u5=>?_⟩
 ·have hlt:=aH hlt;have hle:=mI (f:=iO l) (n:=j);obtain⟨y,_,gy,ya,yb,yr,_⟩:=(hl.up u1 fun _ _ h=>h.up u1).el (i:=j) oq oz;obtain⟨z,_,gz,za,zb,zr,_⟩:=(hl.up u1 fun _ _ h=>h.up u1).el (i:=cC (iO l) j) oq oz;refine⟨ya,yb,y,gy.seg,yr k1 (Up.refl _),za,zb,z,gz.seg,zr k1 (Up.refl _),dA gy gz hK1 hK hK fun k2 u2=>⟨_,rfl,fun f k3 u3=>⟨m-1,oq,j+1,oq,?_⟩,fun f k4 u4=>⟨m-1,oq,j+1,oq,?_⟩⟩⟩
  ·rw [aC oq,show cC (iO l) (j+1)=j from og f]
  ·rw [aC oq,show cC (iO l) (j+1)=cC (iO l) j from oh (by simpa [iO] using f)]
 ·have hge:=aG hge;have ej:j=l.length:=oq
  subst ej;exact C k5 (u0.trans (u1.trans u5))
theorem aPi {y z:Rat}(hy:RatV k cs y K) (hz:RatV k cs' z K) (hK1:1≤K) (hK:K≤300000000) (C:∀k',Up k k'→R k' (.bool (decide (z<y)))) :
 Cl k 124 #[.agg cs,.agg cs'] R:=by
 intro k0 u0;exact aKb hy.seg hz.seg (dA (hz.up u0) (hy.up u0) hK1 hK hK fun k1 u1=>⟨_,rfl,fun k2 u2=>C k2 (u0.trans (u1.trans u2))⟩)
theorem aKc (hl:Lst k A n 3 (NP K k) l) (hK1:1≤K) (hK:K≤300000000) (h0:0<l.length) (hn:l.length≤1000000) (C:∀k',Up k k'→R k' (.int .i64 (cC (jJ l) l.length:Nat))) :
 Cl k 121 #[.slice A n c,.func (.func 124) #[] #[]] R:=by
 intro k0 u0;replace hl:=hl.up u0 fun _ _ h=>h.up u0;have hnl:=hl.1;refine aFg ⟨rfl,fun m k vs=>∃j:Nat,j+m=n∧vs=[.int .i64 (cC (jJ l) j:Nat),.int .i64 j],⟨n,fun k1 u1=>⟨0,oq,rfl⟩⟩,?_⟩;rintro m k1 vs u1 ⟨j,hj,rfl⟩;refine⟨_,j,rfl,fun hlt=>?_,fun hge k5 u5=>?_⟩
 ·have hlt:=aH hlt;have hle:=mI (f:=jJ l) (n:=j);obtain⟨y,_,gy,ya,yb,yr,_⟩:=(hl.up u1 fun _ _ h=>h.up u1).el (i:=j) oq oz;obtain⟨z,_,gz,za,zb,zr,_⟩:=(hl.up u1 fun _ _ h=>h.up u1).el (i:=cC (jJ l) j) oq oz;refine⟨ya,yb,y,gy.seg,yr k1 (Up.refl _),za,zb,z,gz.seg,zr k1 (Up.refl _),aPi gy gz hK1 hK fun k2 u2=>⟨_,rfl,fun f k3 u3=>⟨m-1,oq,j+1,oq,?_⟩,fun f k4 u4=>⟨m-1,oq,j+1,oq,?_⟩⟩⟩
  ·rw [aC oq,show cC (jJ l) (j+1)=j from og f]
  ·rw [aC oq,show cC (jJ l) (j+1)=cC (jJ l) j from oh (by simpa [jJ] using f)]
 ·have hge:=aG hge;have ej:j=l.length:=oq
  subst ej;exact C k5 (u0.trans (u1.trans u5))
theorem aVf (hs:SecV (NP K) k A0 n0 A1 n1 A2 n2 s) (hl:StateV (NP T) k A3 n3 A4 n4 A5 n5 b.lo) (hE:aF s=0) (hz:sized s b.lo) (hK1:1≤K) (hT1:1≤T) (hK:K≤100000000) (hT:T≤100000000) (C:∀k',Up k k'→R k' (.int .i64 (fU s b.lo:Nat))) :
 Cl k 73 #[S3 A0 n0 d0 A1 n1 d1 A2 n2 d2,S6 A3 n3 d3 A4 n4 d4 A5 n5 d5 A6 n6 d6 A7 n7 d7 A8 n8 d8] R:=by
 intro k0 u0;have hsz:=aQ hE;unfold aY at hsz;refine aPt (aBt (SecV.up (aE K) hs u0) (StateV.up (aE T) hl u0) hE hz hK1 hT1 oq oq fun k1 B m e u1 h1=>⟨_,_,_,rfl,xE h1 oq oq (by simp [bV];omega) (by simp [bV];omega) fun k3 u3=>⟨_,rfl,fun k4 u4=>?_⟩⟩);have:=C k4 (u0.trans (u1.trans (u3.trans u4)))
 rwa [show fU s b.lo=cC (iO (bV s b.lo)) (bV s b.lo).length by unfold fU;rw [show (bV s b.lo).length=s.cells.length by simp [bV]]]at this
theorem aUv (hs:SecV (NP K) k A0 n0 A1 n1 A2 n2 s) (hl:StateV (NP T) k A6 n6 A7 n7 A8 n8 b.hi) (hE:aF s=0) (hz:sized s b.hi) (hK1:1≤K) (hT1:1≤T) (hK:K≤100000000) (hT:T≤100000000) (C:∀k',Up k k'→R k' (.int .i64 (aCn s b.hi:Nat))) :
 Cl k 74 #[S3 A0 n0 d0 A1 n1 d1 A2 n2 d2,S6 A3 n3 d3 A4 n4 d4 A5 n5 d5 A6 n6 d6 A7 n7 d7 A8 n8 d8] R:=by
 intro k0 u0;have hsz:=aQ hE;unfold aY at hsz;refine aPj (xL (SecV.up (aE K) hs u0) (StateV.up (aE T) hl u0) hE hz hK1 hT1 oq oq fun k1 B m e u1 h1=>⟨_,_,_,rfl,aKc h1 oq oq (by simp [dZ];omega) (by simp [dZ];omega) fun k3 u3=>⟨_,rfl,fun k4 u4=>?_⟩⟩);have:=C k4 (u0.trans (u1.trans (u3.trans u4)))
 rwa [show aCn s b.hi=cC (jJ (dZ s b.hi)) (dZ s b.hi).length by unfold aCn;rw [show (dZ s b.hi).length=s.cells.length by simp [dZ]]]at this
theorem aUt (hs:SecV (NP K) k A0 n0 A1 n1 A2 n2 s) (hx:StateV (NP T) k A3 n3 A4 n4 A5 n5 x) (hE:aF s=0) (hz:sized s x) (hK1:1≤K) (hT1:1≤T) (hK:K≤100000000) (hT:T≤100000000) (C:∀k',Up k k'→R k' (.bool (decide (fD s x)))) :
 Cl k 76 #[S3 A0 n0 d0 A1 n1 d1 A2 n2 d2,S3 A3 n3 d3 A4 n4 d4 A5 n5 d5] R:=by
 intro k0 u0;have hsz:=aQ hE;unfold aY at hsz;have hlen:(bV s x).length=s.cells.length:=by simp [bV]
 have hlt:fU s x<s.cells.length:=rC oq;refine aPg (aBt (SecV.up (aE K) hs u0) (StateV.up (aE T) hx u0) hE hz hK1 hT1 oq oq fun k1 B m e u1 h1=>⟨_,_,_,rfl,xE h1 oq oq oq oq fun k3 u3=>?_⟩);obtain⟨y,_,gy,ya,yb,yr,_⟩:=(h1.up u3 fun _ _ h=>h.up u3).el (i:=fU s x) oq oz;have hse:cC (iO (bV s x)) (bV s x).length=fU s x:=by rw [hlen];rfl
 refine⟨_,rfl,ya,by rw [hse];exact yb,y,gy.seg,by rw [hse];exact yr k3 (Up.refl _),?_⟩;refine fV (z:=1) oz oz fun k5 y5 u5 w5=>⟨y5,w5.seg,rfl,?_⟩;refine dA (gy.up u5) w5 oq oq oq fun k7 u7=>⟨_,rfl,fun k8 u8=>?_⟩;have:=C k8 (u0.trans (u1.trans (u3.trans (u5.trans (u7.trans u8)))))
 rwa [show decide (fD s x)=!decide (at_ (bV s x) (fU s x)<((1:Int):Rat)) by rw [←decide_not];exact decide_eq_decide.2 (aCk hE oq).symm]at this
theorem rB (hs:SecV (NP K) k A0 n0 A1 n1 A2 n2 s) (hx:StateV (NP T) k A3 n3 A4 n4 A5 n5 x) (hE:aF s=0) (hz:sized s x) (hK1:1≤K) (hT1:1≤T) (hK:K≤100000000) (hT:T≤100000000) (C:∀k',Up k k'→R k' (.bool (decide (aR s x)))) :
 Cl k 75 #[S3 A0 n0 d0 A1 n1 d1 A2 n2 d2,S3 A3 n3 d3 A4 n4 d4 A5 n5 d5] R:=by
 intro k0 u0;have hsz:=aQ hE;unfold aY at hsz;have hlen:(dZ s x).length=s.cells.length:=by simp [dZ]
 have hsh:∀j,j<s.cells.length→(((1:Int):Rat)<at_ (dZ s x) j↔oC s j<at_ x.spoil j):=fun j hj=>by
  rw [show at_ (dZ s x) j=at_ x.spoil j/oC s j from aN hj];exact aMi (rE hE hj).2
 refine aFo (xL (SecV.up (aE K) hs u0) (StateV.up (aE T) hx u0) hE hz hK1 hT1 oq oq fun k1 B m e u1 h1=>⟨_,_,_,rfl,rfl,?_⟩);have hml:=h1.1;refine⟨fun q k vs=>∃j:Nat,j+q=m∧vs=[.int .i64 j]∧∀i,i<j→¬ oC s i<at_ x.spoil i,⟨m,fun k2 u2=>⟨0,oq,rfl,fun i hi=>oq⟩⟩,?_⟩;rintro q k2 vs u2 ⟨j,hj,rfl,hno⟩;refine⟨j,rfl,fun hlt=>?_,fun hge k9 u9=>?_⟩
 ·have hlt:=aH hlt;obtain⟨y,_,gy,ya,yb,yr,_⟩:=(h1.up u2 fun _ _ h=>h.up u2).el (i:=j) oq oz;refine⟨ya,yb,y,gy.seg,yr k2 (Up.refl _),?_⟩;refine fV (z:=1) oz oz fun k4 y4 u4 w4=>⟨y4,w4.seg,rfl,?_⟩;refine dA w4 (gy.up u4) oz oq oq fun k6 u6=>⟨_,rfl,fun f k7 u7=>?_,fun f k8 u8=>?_⟩
  ·have:=C k7 (u0.trans (u1.trans (u2.trans (u4.trans (u6.trans u7)))))
   rwa [decide_eq_true (show aR s x from fun h=>h j oq ((hsh j oq).1 (ow f)))]at this
  ·exact⟨q-1,oq,j+1,oq,by rw [aC oq],bP hno fun h=>ov f ((hsh j oq).2 h)⟩
 ·have hge:=aG hge;have:=C k9 (u0.trans (u1.trans (u2.trans u9)))
  rwa [decide_eq_false (show ¬ aR s x from fun h=>h fun i hi=>hno i oq)]at this
end
section
variable {k:World}{R:World→Value→Prop}{s:PSec}{b x:PBand}{x':PState}{K T n0 n1 n2 d0 d1 d2 n3 n4 n5 d3 d4 d5 n6 d6 n7 d7 n8 d8:Nat}{A0 A1 A2 A3 A4 A5 A6 A7 A8:Option Addr}
end
