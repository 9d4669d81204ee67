/- Several texts in one. (Printed by prep.py.) -/
import Derived.Test.YtpeakfmjibfkpaaGreatFoFB
import Derived.Test.YtpeakfmjibfkpaaGreatFoVF6
import Derived.Test.YtpeakfmjibfkpaaGreatFoCZ2
namespace Go.Proofs.YtpeakfmjibfkpaaGreat
open Go.RowKit Num W32
open Sy (Up Sees CallsG Seg)
structure PBand where
 (lo hi:PState)
structure PRange where
 (s0 s1 a0 a1:Rat)
def pB (q:Rat):Rat:=mM q 40
def vB (q:Rat):Rat:=-mM (-q) 40
def dC (r:Rat→Rat) (s:PSec) (x:PState) (u v:Rat):PState where
 temp:=(List.range s.cells.length).map fun i=>r (fU s x u v i)
 cure:=(List.range s.cells.length).map (zP s x)
 spoil:=(List.range s.cells.length).map (uA s x)
def dW (s:PSec) (b:PBand) (r:PRange):PBand:=⟨dC pB s b.lo r.s0 r.a0,dC vB s b.hi r.s1 r.a1⟩
theorem iQ {r:Rat→Rat}{s:PSec}{x:PState}{u v:Rat}:sized s (dC r s x u v):=by simp [sized,dC]
def btw (lo x hi:List Rat):Prop:=lo.length=x.length∧hi.length=x.length∧∀i,i<x.length→¬ at_ x i<at_ lo i∧¬ at_ hi i<at_ x i
instance (lo x hi:List Rat):Decidable (btw lo x hi):=by unfold btw;exact inferInstance
def lJ (b:PBand) (x:PState):Prop:=btw b.lo.temp x.temp b.hi.temp∧btw b.lo.cure x.cure b.hi.cure∧btw b.lo.spoil x.spoil b.hi.spoil
instance (b:PBand) (x:PState):Decidable (lJ b x):=by unfold lJ;exact inferInstance
def aZm (x y:List Rat):Prop:=∃i,i<x.length∧at_ y i<at_ x i
def gG (x y:List Rat):Prop:=∀i,i<x.length→¬ at_ y i<at_ x i
instance (x y:List Rat):Decidable (gG x y):=by unfold gG;exact inferInstance
def alike (x y:PState):Prop:=x.temp.length=y.temp.length∧x.cure.length=y.cure.length∧x.spoil.length=y.spoil.length
instance (x y:PState):Decidable (alike x y):=by unfold alike;exact inferInstance
def iE (x y:PState):Prop:=alike x y∧gG x.temp y.temp∧gG x.cure y.cure∧gG x.spoil y.spoil
instance (x y:PState):Decidable (iE x y):=by unfold iE;exact inferInstance
theorem aDh {b:PBand}{x:PState}:lJ b x↔iE b.lo x∧iE x b.hi:=by
 constructor
 ·rintro⟨⟨a1,a2,a3⟩,⟨b1,b2,b3⟩,c1,c2,c3⟩;exact⟨⟨⟨a1,b1,c1⟩,fun i hi=>(a3 i (by omega)).1,fun i hi=>(b3 i (by omega)).1,fun i hi=>(c3 i (by omega)).1⟩,⟨a2.symm,b2.symm,c2.symm⟩,fun i hi=>(a3 i hi).2,fun i hi=>(b3 i hi).2,fun i hi=>(c3 i hi).2⟩
 ·rintro⟨⟨⟨a1,b1,c1⟩,a3,b3,c3⟩,⟨a2,b2,c2⟩,a4,b4,c4⟩;exact⟨⟨a1,a2.symm,fun i hi=>⟨a3 i (by omega),a4 i hi⟩⟩,⟨b1,b2.symm,fun i hi=>⟨b3 i (by omega),b4 i hi⟩⟩,c1,c2.symm,fun i hi=>⟨c3 i (by omega),c4 i hi⟩⟩
theorem aFd {x:PState}:iE x x:=⟨⟨rfl,rfl,rfl⟩,fun _ _=>Rat.lt_irrefl,fun _ _=>Rat.lt_irrefl,fun _ _=>Rat.lt_irrefl⟩
theorem vT {b:PBand}:lJ b b.lo↔iE b.lo b.hi:=by
 rw [aDh];exact⟨fun h=>h.2,fun h=>⟨aFd,h⟩⟩
def fB (s:PSec) (b:PBand):Int:=if fC s b.lo≠0 then fC s b.lo else if ¬ sized s b.hi then 4 else if ¬ iE b.lo b.hi then 7 else 0
def mS (r:PRange):Int:=if r.s1<r.s0∨r.a1<r.a0 then 7 else 0
def aXw (s:PSec) (b:PBand) (r:PRange):Int:=if fB s b≠0 then fB s b else mS r
def aYt (s:PSec) (lo hi:Rat):Int:=if aL s≠0 then aL s else if hi<lo then 7 else 0
def aYu (s:PSec) (lo hi:Rat):PBand:=⟨dP s lo,dP s hi⟩
def rN:PState:=⟨[],[],[]⟩
def yK (e:Int) (b:PBand):PBand:=if e≠0 then ⟨rN,rN⟩ else b
theorem xE {s:PSec}{b:PBand}(h:fB s b=0):aL s=0∧sized s b.lo∧sized s b.hi∧iE b.lo b.hi:=by
 unfold fB at h;split at h
 ·rename_i h1;exact absurd h h1
 ·rename_i h1;obtain⟨h2,h3⟩:=xG (Decidable.not_not.1 h1);split at h
  ·cases h
  ·rename_i h4;split at h
   ·cases h
   ·rename_i h5;exact⟨h2,h3,Decidable.not_not.1 h4,Decidable.not_not.1 h5⟩
structure StateW (N N':World→Array Value→Rat→Prop) (k:World) (A:Option Addr) (n:Nat) (B:Option Addr) (n':Nat) (C:Option Addr) (n'':Nat) (x:PState):Prop where
 temp:Lst k A n 3 (N k) x.temp
 cure:Lst k B n' 3 (N' k) x.cure
 spoil:Lst k C n'' 3 (N' k) x.spoil
theorem StateW.up {N N':World→Array Value→Rat→Prop}(hN:Num3 N) (hN':Num3 N') {k k':World}{A B C:Option Addr}{n n' n'':Nat}{x:PState}(h:StateW N N' k A n B n' C n'' x) (u:Up k k'):StateW N N' k' A n B n' C n'' x:=
 ⟨h.temp.up u fun _ _ h=>hN.up h u,h.cure.up u fun _ _ h=>hN'.up h u,h.spoil.up u fun _ _ h=>hN'.up h u⟩
section
variable {k k':World}{R:World→Value→Prop}{cs cs':Array Value}{u v q:Rat}{s:PSec}{x:PState}{K T d n0 n1 n2 d0 d1 d2 n3 n4 n5 d3 d4 d5 n6 d6 n7 d7 M:Nat}{A0 A1 A2 A3 A4 A5 A6 A7:Option Addr}
theorem aLv (hx:RatV k cs q K) (hK1:1≤K) (hK:K≤100000) (C:∀k' ds,Up k k'→RatV k' ds (pB q) (K+1001)→R k' (.agg ds)) :
 Cl k 115 #[.agg cs] R:=by
 intro k0 u0;refine aHh hx.seg (yX (m:=40) (hx.up u0) hK1 hK fun k1 ds u1 h=>⟨ds,h.seg,rfl,fun k2 u2=>?_⟩);exact C k2 ds ((u0.trans u1).trans u2) (h.up u2)
theorem aQx (hx:RatV k cs q K) (hK1:1≤K) (hK:K≤100000) (C:∀k' ds,Up k k'→RatV k' ds (vB q) (K+1001)→R k' (.agg ds)) :
 Cl k 116 #[.agg cs] R:=by
 intro k0 u0;refine aLr hx.seg (aQs (m:=40) (hx.up u0) hK1 hK fun k1 ds u1 h=>⟨ds,h.seg,rfl,fun k2 u2=>?_⟩);exact C k2 ds ((u0.trans u1).trans u2) (h.up u2)
set_option maxHeartbeats 1000000 in
theorem zO {f:FuncId}{rnd:Rat→Rat}(hvc:aLh f) (hf:∀ {k:World}{cs:Array Value}{q:Rat}{K:Nat}{R:World→Value→Prop},RatV k cs q K→1≤K→K≤100000→(∀k' ds,Up k k'→RatV k' ds (rnd q) (K+1001)→R k' (.agg ds))→∀k0,Up k k0→CallsG Tryz.prog f #[.agg cs] k0 R) (hs:SecV (NP K) k A0 n0 A1 n1 A2 n2 s) (hx:StateV (NP T) k A3 n3 A4 n4 A5 n5 x) (hM:NbV (NP K) k M s.links) (hu:RatV k cs u K) (hv:RatV k cs' v K) (hE:aL s=0) (hz:sized s x)
 (hd:∀i,i<s.cells.length→(nbm s.links (i:Nat)).length≤d) (hK1:1≤K) (hT1:1≤T) (hT:aJ K d T≤90000) (hd2:d≤128)
 (C:∀k' B0 m0 e0 B1 m1 e1 B2 m2 e2,Up k k'→StateW (NP (aJ K d T+1001)) (NP (T+K+1)) k' B0 m0 B1 m1 B2 m2 (dC rnd s x u v)→R k' (S3 B0 m0 e0 B1 m1 e1 B2 m2 e2)) :
 Cl k 92 #[.agg #[.slice A0 n0 d0,.slice A1 n1 d1,.slice A2 n2 d2,.map (some M)],S3 A3 n3 d3 A4 n4 d4 A5 n5 d5,.agg cs,.agg cs',.func (.func f) #[] #[]] R:=by
 intro k0 u0;have hN:=aM K;have hNT:=aM T;replace hs:=SecV.up hN hs u0;replace hx:=StateV.up hNT hx u0;replace hM:=NbV.up hN hM u0;replace hu:=hu.up u0;replace hv:=hv.up u0;replace C:=fun k' B0 m0 e0 B1 m1 e1 B2 m2 e2 u=>C k' B0 m0 e0 B1 m1 e1 B2 m2 e2 (u0.trans u);clear u0;have e1:=hs.cells.1;obtain⟨z3,z4,z5⟩:=hz;have f3:=hx.temp.1;have f4:=hx.cure.1;have f5:=hx.spoil.1;have hn24:n1≤24:=by have:=cF hE;unfold bS at this;omega
 have hW:3*T+5*K+4≤300000000:=by unfold aJ at hT;omega
 have hup:∀ {W:Nat}{k k':World}{xs:Array Value}{j:Nat}{f:Nat→Rat},Up k k'→ArrV j 3 (NP W k) xs f→ArrV j 3 (NP W k') xs f:=fun u h=>h.mono fun _ _ h=>h.up u;have hseg:∀ {W:Nat}{k:World},∀a v,NP W k a v→Seg 3 a:=fun _ _ h=>h.seg
 refine hvc hu.seg hv.seg ⟨rfl,fun m k vs=>∃(j:Nat) (B0 B1 B2:Option Addr) (e0 e1 e2:Nat) (x0 x1 x2:Array Value),j+m=n1∧vs=[.int .i64 j,.tuple #[.slice B0 j e0,.agg x0],.tuple #[.slice B1 j e1,.agg x1],.tuple #[.slice B2 j e2,.agg x2]]∧
  ArrV j 3 (NP (aJ K d T+1001) k) x0 (at_ (dC rnd s x u v).temp)∧ArrV j 3 (NP (T+K+1) k) x1 (at_ (dC rnd s x u v).cure)∧ArrV j 3 (NP (T+K+1) k) x2 (at_ (dC rnd s x u v).spoil),
  ⟨n1,fun k1 u1=>⟨0,_,_,_,_,_,_,_,_,_,by omega,rfl,ArrV.empty,ArrV.empty,ArrV.empty⟩⟩,?_⟩
 rintro m k1 vs u1 ⟨j,B0,B1,B2,g0,g1,g2,x0,x1,x2,hj,rfl,h0,h1,h2⟩;refine⟨j,B0,j,g0,x0,h0.rowC hseg,B1,j,g1,x1,h1.rowC hseg,B2,j,g2,x2,h2.rowC hseg,rfl,fun hlt=>?_,fun hge k2 u2 r0 k3 u3 r1 k4 u4 r2 k5 u5=>?_⟩
 ·have hlt:=aF hlt;have hjn:j<s.cells.length:=by omega
  replace hs:=SecV.up hN hs u1;replace hx:=StateV.up hNT hx u1;replace hM:=NbV.up hN hM u1;replace hu:=hu.up u1;replace hv:=hv.up u1;replace C:=fun k' B0 m0 e0 B1 m1 e1 B2 m2 e2 u=>C k' B0 m0 e0 B1 m1 e1 B2 m2 e2 (u1.trans u);obtain⟨a,_,⟨c0,c1,c2,rfl,q0,q1,q2⟩,ha,hb,hr,_⟩:=hs.cells.el (i:=j) hjn (by decide);obtain⟨t,_,ht,ta,tb,tr,_⟩:=hx.temp.el (i:=j) (by omega) (by decide);obtain⟨hm0,hm1,_⟩:=rP hE hjn;have tT1:1≤K+T+1:=by omega
  refine⟨ha,hb,_,c0,q0.seg,c1,q1.seg,c2,q2.seg,hr k1 (Up.refl _),ta,tb,t,ht.seg,tr k1 (Up.refl _),?_⟩;refine oR hu ht hK1 hT1 (by omega) (by omega) fun k2 y2 u2 w2=>⟨y2,w2.seg,rfl,?_⟩;refine oQ (q1.up u2) w2 hK1 (by omega) (by omega) (by omega) fun k4 y4 u4 w4=>⟨y4,w4.seg,rfl,?_⟩;refine oR ((hv.up u2).up u4) ((ht.up u2).up u4) hK1 hT1 (by omega) (by omega) fun k6 y6 u6 w6=>⟨y6,w6.seg,rfl,?_⟩;refine oQ (((q2.up u2).up u4).up u6) w6 hK1 (by omega) (by omega) (by omega) fun k8 y8 u8 w8=>⟨y8,w8.seg,rfl,?_⟩;refine fW ((w4.up u6).up u8) w8 (by omega) (by omega) (by omega) (by omega) fun k10 y10 u10 w10=>⟨y10,w10.seg,rfl,?_⟩;have v10:=(((u2.trans u4).trans u6).trans u8).trans u10;replace hs:=SecV.up hN hs v10;replace hx:=StateV.up hNT hx v10;replace hM:=NbV.up hN hM v10;replace C:=fun k' B0 m0 e0 B1 m1 e1 B2 m2 e2 u=>C k' B0 m0 e0 B1 m1 e1 B2 m2 e2 (v10.trans u);replace ht:=ht.up v10;replace q0:=q0.up v10;replace h0:=hup v10 h0;replace h1:=hup v10 h1;replace h2:=hup v10 h2;clear v10 u2 u4 u6 u8 u10 w2 w4 w6 w8 q1 q2 hr tr hu hv;obtain⟨B,p,q,hlook,hl⟩:=hM j (by omega);have hp:=hl.1;have hpd:=hd j hjn
  refine⟨B,p,q,hlook,rfl,fun m k vs=>∃(i:Nat) (ds:Array Value),i+m=p∧vs=[.int .i64 i,.agg ds]∧
   RatV k ds (((nbm s.links j).take i).foldl (fun t l=>t+l.v*(at_ x.temp (l.a+l.b-(j:Int)).toNat-at_ x.temp j)) ((at_ s.cells j).steam*(u-at_ x.temp j)+(at_ s.cells j).air*(v-at_ x.temp j))) (4*K+2*T+3+i*(K+2*T+2)),
   ⟨p,fun k1 u1=>⟨0,y10,by omega,rfl,(w10.up u1).mono (by omega)⟩⟩,?_⟩
  rintro m' k11 vs u11 ⟨i,es,hi,rfl,he⟩;have hmul:i*(K+2*T+2)≤d*(K+2*T+2):=Nat.mul_le_mul_right _ (by omega);have hW2:3*T+5*K+4+i*(K+2*T+2)≤300000000:=by unfold aJ at hT;omega
  refine⟨i,es,he.seg,rfl,fun hlt'=>?_,fun hge'=>?_⟩
  ·have hlt':=aF hlt';obtain⟨a,_,hlk,ha,hb,hr,_⟩:=(hl.up u11 fun _ _ h=>LinkV.up hN h u11).el (i:=i) (by omega) (by decide);obtain⟨c3,rfl,g3⟩:=id hlk;have hmem:at_ (nbm s.links j) i∈nbm s.links j:=aCm (by omega);obtain⟨o,eo,ho⟩:=aAv hE hjn hmem;obtain⟨⟨l1,l2⟩,l3,l4⟩:=eO (dJ hE) _ (iL hmem).1;refine⟨ha,hb,_,_,c3,g3.seg,hr k11 (Up.refl _),zL hlk l1 (by omega) l3 (by omega) (by omega) fun k13 u13=>⟨_,rfl,?_⟩⟩;rw [eo];obtain⟨t',_,ht',ta',tb',tr',_⟩:=hx.temp.el (i:=o) (by omega) (by decide);refine⟨ta',tb',t',ht'.seg,tr' k13 (u11.trans u13),?_⟩;refine oR ((ht'.up u11).up u13) ((ht.up u11).up u13) hT1 hT1 (by omega) (by omega) fun k15 y15 u15 w15=>⟨y15,w15.seg,rfl,?_⟩;refine oQ ((g3.up u13).up u15) w15 hK1 (by omega) (by omega) (by omega) fun k17 y17 u17 w17=>⟨y17,w17.seg,rfl,?_⟩;have hW3:4*K+2*T+3+i*(K+2*T+2)≤300000000:=by omega
   refine fW (((he.up u13).up u15).up u17) w17 (by omega) (by omega) hW3 (by omega) fun k19 y19 u19 w19=>⟨y19,w19.seg,rfl,fun k20 u20=>⟨m'-1,by omega,i+1,y19,by omega,by rw [aC (by omega)],?_⟩⟩;rw [pN (by omega),eo,Int.toNat_natCast];exact (w19.up u20).mono (by have:(i+1)*(K+2*T+2)=i*(K+2*T+2)+(K+2*T+2):=Nat.succ_mul _ _;omega)
  ·have hge':=aG hge';rw [List.take_of_length_le (by omega)]at he;have hflow:RatV k11 es (flow s x u v j) (4*K+2*T+3+i*(K+2*T+2)):=he;clear he hlook hl;replace hs:=SecV.up hN hs u11;replace hx:=StateV.up hNT hx u11;replace C:=fun k' B0 m0 e0 B1 m1 e1 B2 m2 e2 u=>C k' B0 m0 e0 B1 m1 e1 B2 m2 e2 (u11.trans u);replace ht:=ht.up u11;replace q0:=q0.up u11;replace h0:=hup u11 h0;replace h1:=hup u11 h1;replace h2:=hup u11 h2;have hmi:(at_ s.cells j).m=(((at_ s.cells j).m.toNat:Nat):Int):=by omega
   obtain⟨a,_,⟨D,p1,r1,F,p2,r2,c4,c5,rfl,l0,l1,s0,s1⟩,ha',hb',hr',_⟩:=hs.mats.el (i:=(at_ s.cells j).m.toNat) (by omega) (by decide);obtain⟨hr1,hr2⟩:=aDw hE (i:=(at_ s.cells j).m.toNat) (by omega);rw [←hmi]at hb' hr';refine⟨ha',hb',D,p1,r1,F,p2,r2,c4,s0.seg,c5,s1.seg,hr' k11 (Up.refl _),?_⟩;refine aMc hflow q0 (by omega) hK1 (by omega) (by omega) fun k22 y22 u22 w22=>⟨y22,w22.seg,rfl,?_⟩;refine fW (ht.up u22) w22 hT1 (by omega) (by omega) (by omega) fun k24 y24 u24 w24=>⟨y24,w24.seg,rfl,?_⟩;refine hf w24 (by omega) (by unfold aJ at hT;omega) fun k26 y26 u26 w26=>⟨y26,w26.seg,rfl,by simp [w26.seg.1],by decide,⟨by simp;omega,by simp;omega⟩,?_⟩;rintro B0' _ g0' _ rfl rfl _;have v26:=(u22.trans u24).trans u26;have w24':=w26;replace ht:=ht.up v26;replace l0:=aO hN l0 v26;replace l1:=aO hN l1 v26;replace hx:=StateV.up hNT hx v26;replace C:=fun k' B0 m0 e0 B1 m1 e1 B2 m2 e2 u=>C k' B0 m0 e0 B1 m1 e1 B2 m2 e2 (v26.trans u);replace h0:=hup v26 h0;replace h1:=hup v26 h1;replace h2:=hup v26 h2;clear v26 u22 u24 u26 w22 w24 w26 hflow;obtain⟨t3,_,ht3,ta3,tb3,tr3,_⟩:=hx.cure.el (i:=j) (by omega) (by decide);obtain⟨t4,_,ht4,ta4,tb4,tr4,_⟩:=hx.spoil.el (i:=j) (by omega) (by decide);refine⟨ta3,tb3,t3,ht3.seg,tr3 k26 (Up.refl _),?_⟩;refine nJ l0 ht hT1 (by omega) (by omega) (by rw [l0.1];have:=rates16 hr1;omega) fun k28 y28 u28 w28=>⟨y28,w28.seg,rfl,?_⟩;refine fW (ht3.up u28) w28 hT1 hK1 (by omega) (by omega) fun k30 y30 u30 w30=>⟨y30,w30.seg,rfl,by simp [w30.seg.1],by decide,⟨by simp;omega,by simp;omega⟩,?_⟩;rintro B1' _ g1' _ rfl rfl _;refine⟨ta4,tb4,t4,ht4.seg,tr4 k30 (u28.trans u30),?_⟩;refine nJ (aO hN (aO hN l1 u28) u30) ((ht.up u28).up u30) hT1 (by omega) (by omega) (by rw [l1.1];have:=rates16 hr2;omega) fun k32 y32 u32 w32=>⟨y32,w32.seg,rfl,?_⟩;refine fW (((ht4.up u28).up u30).up u32) w32 hT1 hK1 (by omega) (by omega) fun k34 y34 u34 w34=>⟨y34,w34.seg,rfl,by simp [w34.seg.1],by decide,⟨by simp;omega,by simp;omega⟩,?_⟩;rintro B2' _ g2' _ rfl rfl _ k35 u35;have v34:=((u28.trans u30).trans u32).trans u34;have hpe:i=d∨i≤d:=Or.inr (by omega);have hi2:i*(K+2*T+2)≤d*(K+2*T+2):=hmul;refine⟨m-1,by omega,j+1,B0',B1',B2',g0',g1',g2',_,_,_,by omega,by rw [aC (by omega)];rfl,?_,?_,?_⟩
   ·rw [List.append_nil];refine ArrV.push (hup (v34.trans u35) h0) w24'.seg.1 ?_;rw [show at_ (dC rnd s x u v).temp j=rnd (fU s x u v j) from cD hjn];exact ((w24'.up v34).up u35).mono (by unfold aJ;omega)
   ·rw [List.append_nil];refine ArrV.push (hup (v34.trans u35) h1) w30.seg.1 ?_;rw [show at_ (dC rnd s x u v).cure j=zP s x j from cD hjn];exact (((w30.up u32).up u34).up u35).mono (by omega)
   ·rw [List.append_nil];refine ArrV.push (hup (v34.trans u35) h2) w34.seg.1 ?_;rw [show at_ (dC rnd s x u v).spoil j=uA s x j from cD hjn];exact (w34.up u35).mono (by omega)
 ·have hge:=aG hge;have ej:j=n1:=by omega
  refine C k5 _ _ _ _ _ _ _ _ _ ((((u1.trans u2).trans u3).trans u4).trans u5) ⟨?_,?_,?_⟩
  ·exact eB (by simp [dC];omega) (hup (((u2.trans u3).trans u4).trans u5) h0) hseg (bN r0 ((u3.trans u4).trans u5))
  ·exact eB (by simp [dC];omega) (hup (((u2.trans u3).trans u4).trans u5) h1) hseg (bN r1 (u4.trans u5))
  ·exact eB (by simp [dC];omega) (hup (((u2.trans u3).trans u4).trans u5) h2) hseg (bN r2 u5)
theorem aMh (hs:SecV (NP K) k A0 n0 A1 n1 A2 n2 s) (hx:StateV (NP T) k A3 n3 A4 n4 A5 n5 x) (hM:NbV (NP K) k M s.links) (hu:RatV k cs u K) (hv:RatV k cs' v K) (hE:aL s=0) (hz:sized s x)
 (hd:∀i,i<s.cells.length→(nbm s.links (i:Nat)).length≤d) (hK1:1≤K) (hT1:1≤T) (hT:aJ K d T≤90000) (hd2:d≤128)
 (C:∀k' B0 m0 e0 B1 m1 e1 B2 m2 e2,Up k k'→StateW (NP (aJ K d T+1001)) (NP (T+K+1)) k' B0 m0 B1 m1 B2 m2 (dC pB s x u v)→R k' (S3 B0 m0 e0 B1 m1 e1 B2 m2 e2)) :
 Cl k 92 #[.agg #[.slice A0 n0 d0,.slice A1 n1 d1,.slice A2 n2 d2,.map (some M)],S3 A3 n3 d3 A4 n4 d4 A5 n5 d5,.agg cs,.agg cs',.func (.func 115) #[] #[]] R:=
 zO aHt aLv hs hx hM hu hv hE hz hd hK1 hT1 hT hd2 C
theorem aMg (hs:SecV (NP K) k A0 n0 A1 n1 A2 n2 s) (hx:StateV (NP T) k A3 n3 A4 n4 A5 n5 x) (hM:NbV (NP K) k M s.links) (hu:RatV k cs u K) (hv:RatV k cs' v K) (hE:aL s=0) (hz:sized s x)
 (hd:∀i,i<s.cells.length→(nbm s.links (i:Nat)).length≤d) (hK1:1≤K) (hT1:1≤T) (hT:aJ K d T≤90000) (hd2:d≤128)
 (C:∀k' B0 m0 e0 B1 m1 e1 B2 m2 e2,Up k k'→StateW (NP (aJ K d T+1001)) (NP (T+K+1)) k' B0 m0 B1 m1 B2 m2 (dC vB s x u v)→R k' (S3 B0 m0 e0 B1 m1 e1 B2 m2 e2)) :
 Cl k 92 #[.agg #[.slice A0 n0 d0,.slice A1 n1 d1,.slice A2 n2 d2,.map (some M)],S3 A3 n3 d3 A4 n4 d4 A5 n5 d5,.agg cs,.agg cs',.func (.func 116) #[] #[]] R:=
 zO aHs aQx hs hx hM hu hv hE hz hd hK1 hT1 hT hd2 C
end
structure RangeV (N:World→Array Value→Rat→Prop) (k:World) (c0 c1 c2 c3:Array Value) (r:PRange):Prop where
 s0:N k c0 r.s0
 s1:N k c1 r.s1
 a0:N k c2 r.a0
 a1:N k c3 r.a1
theorem RangeV.up {N:World→Array Value→Rat→Prop}(hN:Num3 N) {k k':World}{c0 c1 c2 c3:Array Value}{r:PRange}(h:RangeV N k c0 c1 c2 c3 r) (u:Up k k'):RangeV N k' c0 c1 c2 c3 r:=⟨hN.up h.s0 u,hN.up h.s1 u,hN.up h.a0 u,hN.up h.a1 u⟩
def tZ (x:PState):Prop:=x.temp.length≤1000000∧x.cure.length≤1000000∧x.spoil.length≤1000000
section
variable {k k':World}{R:World→Value→Prop}{c0 c1 c2 c3 cs cs':Array Value}{s:PSec}{b b':PBand}{x:PState}{r:PRange}{l0 l1 l2:List Rat}{u v:Rat}{K L T T' d M n0 n1 n2 d0 d1 d2 n3 n4 n5 d3 d4 d5 n6 d6 n7 d7 n8 d8 n9 d9 n10 d10 n11 d11:Nat}{A0 A1 A2 A3 A4 A5 A6 A7 A8 A9 A10 A11:Option Addr}
theorem aCq (h0:Lst k A0 n0 3 (NP K k) l0) (h1:Lst k A1 n1 3 (NP L k) l1) (h2:Lst k A2 n2 3 (NP K k) l2) (hK1:1≤K) (hL1:1≤L) (hK:K≤300000000) (hL:L≤300000000) (hn:l1.length≤1000000)
 (C:∀k',Up k k'→R k' (.bool (decide (btw l0 l1 l2)))) :
 Cl k 64 #[.slice A0 n0 d0,.slice A1 n1 d1,.slice A2 n2 d2] R:=by
 intro k0 u0;replace h0:=h0.up u0 fun _ _ h=>h.up u0;replace h1:=h1.up u0 fun _ _ h=>h.up u0;replace h2:=h2.up u0 fun _ _ h=>h.up u0;replace C:=fun k' u=>C k' (u0.trans u);have e0:=h0.1;have e1:=h1.1;have e2:=h2.1;have no:¬ btw l0 l1 l2→∀k',Up k0 k'→R k' (.bool false):=fun h k' u=>by have:=C k' u;rwa [decide_eq_false h]at this
 refine aQw ⟨rfl,rfl,fun a k1 u1=>no (fun h=>?_) k1 u1,fun a=>⟨rfl,rfl,fun c k1 u1=>no (fun h=>?_) k1 u1,fun c=>⟨rfl,?_⟩⟩⟩
 ·have:=h.1;simp at a;omega
 ·have:=h.2.1;simp at c;omega
 have a:n0=n1:=by simp at a;omega
 have c:n2=n1:=by simp at c;omega
 refine⟨fun m k vs=>∃j:Nat,j+m=n1∧vs=[.int .i64 j]∧∀i,i<j→¬ at_ l1 i<at_ l0 i∧¬ at_ l2 i<at_ l1 i,⟨n1,fun k1 u1=>⟨0,by omega,rfl,fun i hi=>by omega⟩⟩,?_⟩;rintro m k1 vs u1 ⟨j,hj,rfl,hz⟩;refine⟨j,rfl,fun hlt=>?_,fun hge k2 u2=>?_⟩
 ·have hlt:=aF hlt;obtain⟨y,_,gy,ya,yb,yr,_⟩:=(h1.up u1 fun _ _ h=>h.up u1).el (i:=j) (by omega) (by decide);obtain⟨z,_,gz,za,zb,zr,_⟩:=(h0.up u1 fun _ _ h=>h.up u1).el (i:=j) (by omega) (by decide);obtain⟨w,_,gw,wa,wb,wr,_⟩:=(h2.up u1 fun _ _ h=>h.up u1).el (i:=j) (by omega) (by decide);refine⟨ya,yb,y,gy.seg,yr k1 (Up.refl _),za,zb,z,gz.seg,zr k1 (Up.refl _),fN gy gz hL1 hL hK fun k4 u4=>⟨_,rfl,fun f k5 u5=>no (fun h=>?_) k5 (u1.trans (u4.trans u5)),fun f=>⟨wa,wb,w,gw.seg,wr k4 u4,ya,yb,y,gy.seg,yr k4 u4,fN (gw.up u4) (gy.up u4) hK1 hK hL fun k7 u7=>⟨_,rfl,fun g k8 u8=>no (fun h=>?_) k8 (u1.trans (u4.trans (u7.trans u8))),fun g k9 u9=>?_⟩⟩⟩⟩
  ·exact (h.2.2 j (by omega)).1 (of_decide_eq_true f)
  ·exact (h.2.2 j (by omega)).2 (of_decide_eq_true g)
  ·exact⟨m-1,by omega,j+1,by omega,by rw [aC (by omega)],cC hz ⟨of_decide_eq_false f,of_decide_eq_false g⟩⟩
 ·have hge:=aG hge;have:=C k2 (u1.trans u2)
  rwa [decide_eq_true (show btw l0 l1 l2 from⟨by omega,by omega,fun i hi=>hz i (by omega)⟩)]at this
theorem aHj (hl:StateV (NP K) k A0 n0 A1 n1 A2 n2 b.lo) (hh:StateV (NP K) k A3 n3 A4 n4 A5 n5 b.hi) (hx:StateV (NP L) k A6 n6 A7 n7 A8 n8 x) (hK1:1≤K) (hL1:1≤L) (hK:K≤300000000) (hL:L≤300000000) (hn:tZ x)
 (C:∀k',Up k k'→R k' (.bool (decide (lJ b x)))) :
 Cl k 22 #[S6 A0 n0 d0 A1 n1 d1 A2 n2 d2 A3 n3 d3 A4 n4 d4 A5 n5 d5,S3 A6 n6 d6 A7 n7 d7 A8 n8 d8] R:=by
 intro k0 u0;have hN:=aM K;have hM:=aM L;replace hl:=StateV.up hN hl u0;replace hh:=StateV.up hN hh u0;replace hx:=StateV.up hM hx u0;replace C:=fun k' u=>C k' (u0.trans u);refine aCt (aCq hl.temp hx.temp hh.temp hK1 hL1 hK hL hn.1 fun k1 u1=>⟨_,rfl,fun f=>aCq (StateV.up hN hl u1).cure (StateV.up hM hx u1).cure (StateV.up hN hh u1).cure hK1 hL1 hK hL hn.2.1 fun k3 u3=>⟨_,rfl,fun g=>aCq (StateV.up hN hl (u1.trans u3)).spoil (StateV.up hM hx (u1.trans u3)).spoil (StateV.up hN hh (u1.trans u3)).spoil hK1 hL1 hK hL hn.2.2 fun k5 u5=>⟨_,rfl,fun k6 u6=>?_⟩,fun g k7 u7=>?_⟩,fun f k8 u8=>?_⟩)
 ·have:=C k6 ((u1.trans u3).trans (u5.trans u6))
  rwa [show decide (lJ b x)=decide (btw b.lo.spoil x.spoil b.hi.spoil) from decide_eq_decide.2 ⟨fun h=>h.2.2,fun h=>⟨of_decide_eq_true f,of_decide_eq_true g,h⟩⟩]at this
 ·have:=C k7 ((u1.trans u3).trans u7)
  rwa [decide_eq_false fun h=>of_decide_eq_false g h.2.1]at this
 ·have:=C k8 (u1.trans u8)
  rwa [decide_eq_false fun h=>of_decide_eq_false f h.1]at this
theorem aQv (hs:SecV (NP K) k A0 n0 A1 n1 A2 n2 s) (hl:StateV (NP T) k A3 n3 A4 n4 A5 n5 b.lo) (hh:StateV (NP T) k A6 n6 A7 n7 A8 n8 b.hi) (hK1:1≤K) (hK:K≤1000000) (hT1:1≤T) (hT:T≤300000000)
 (C:∀k',Up k k'→R k' (.int .i64 (fB s b))) :
 Cl k 66 #[S3 A0 n0 d0 A1 n1 d1 A2 n2 d2,S6 A3 n3 d3 A4 n4 d4 A5 n5 d5 A6 n6 d6 A7 n7 d7 A8 n8 d8] R:=by
 intro k0 u0;have hN:=aM K;have hM:=aM T;replace hs:=SecV.up hN hs u0;replace hl:=StateV.up hM hl u0;replace hh:=StateV.up hM hh u0;replace C:=fun k' u=>C k' (u0.trans u);have e1:=hs.cells.1;have f3:=hh.temp.1;have f4:=hh.cure.1;have f5:=hh.spoil.1;refine aLp (aFr hs hl.temp.1 hl.cure.1 hl.spoil.1 hK1 hK fun k1 u1=>⟨_,rfl,fun f k2 u2=>?_,fun f=>zN fun k4 u4=>⟨_,rfl,fun g k5 u5=>?_,fun g=>?_⟩⟩)
 ·have:=C k2 (u1.trans u2);unfold fB at this
  rwa [if_pos (dE f)]at this
 ·have hz:¬ (n6=n1∧n7=n1∧n8=n1):=fun h=>by rw [if_pos h]at g;cases g
  have:=C k5 (u1.trans (u4.trans u5));unfold fB at this;rw [if_neg (by simp [bO f]),if_pos (by unfold sized;omega)]at this
  rwa [if_neg hz]
 ·have hz:n6=n1∧n7=n1∧n8=n1:=Classical.byContradiction fun h=>by rw [if_neg h]at g;cases g
  have hsz:sized s b.hi:=by unfold sized;omega
  obtain⟨hE,z1,z2,z3⟩:=xG (bO f);have hc24:s.cells.length≤24:=by have:=cF hE;unfold bS at this;omega
  have v4:=u1.trans u4;refine aHj (b:=b) (StateV.up hM hl v4) (StateV.up hM hh v4) (StateV.up hM hl v4) hT1 hT1 hT hT ⟨by omega,by omega,by omega⟩ fun k7 u7=>⟨_,rfl,fun h k8 u8=>?_,fun h k9 u9=>?_⟩
  ·have:=C k8 (v4.trans (u7.trans u8));unfold fB at this
   rwa [if_neg (by simp [bO f]),if_neg (fun h=>h hsz),if_pos fun h'=>of_decide_eq_false (by simpa using h) (vT.2 h')]at this
  ·have:=C k9 (v4.trans (u7.trans u9));unfold fB at this
   rwa [if_neg (by simp [bO f]),if_neg (fun h=>h hsz),if_neg fun h'=>h' (vT.1 (of_decide_eq_true (by simpa using h)))]at this
theorem aMd (hr:RangeV (NP K) k c0 c1 c2 c3 r) (hK1:1≤K) (hK:K≤300000000) (C:∀k',Up k k'→R k' (.int .i64 (mS r))) :
 Cl k 67 #[.agg (c0.toList++(c1.toList++(c2.toList++(c3.toList++([]))))).toArray] R:=by
 intro k0 u0;replace hr:=RangeV.up (aM K) hr u0;replace C:=fun k' u=>C k' (u0.trans u);unfold mS at C;refine aHn hr.s0.seg hr.s1.seg hr.a0.seg hr.a1.seg (fN hr.s1 hr.s0 hK1 hK hK fun k1 u1=>⟨_,rfl,fun f k2 u2=>?_,fun f=>fN (hr.a1.up u1) (hr.a0.up u1) hK1 hK hK fun k4 u4=>⟨_,rfl,fun g k5 u5=>?_,fun g k6 u6=>?_⟩⟩)
 ·have:=C k2 (u1.trans u2)
  rwa [if_pos (Or.inl (of_decide_eq_true f))]at this
 ·have:=C k5 (u1.trans (u4.trans u5))
  rwa [if_pos (Or.inr (of_decide_eq_true g))]at this
 ·have:=C k6 (u1.trans (u4.trans u6))
  rwa [if_neg (not_or.2 ⟨of_decide_eq_false f,of_decide_eq_false g⟩)]at this
theorem aVo (hs:SecV (NP K) k A0 n0 A1 n1 A2 n2 s) (hl:StateV (NP T) k A3 n3 A4 n4 A5 n5 b.lo) (hh:StateV (NP T) k A6 n6 A7 n7 A8 n8 b.hi) (hM:NbV (NP K) k M s.links) (hr:RangeV (NP K) k c0 c1 c2 c3 r) (hE:aL s=0) (hz:sized s b.lo) (hz':sized s b.hi)
 (hd:∀i,i<s.cells.length→(nbm s.links (i:Nat)).length≤d) (hK1:1≤K) (hT1:1≤T) (hT:aJ K d T≤90000) (hd2:d≤128)
 (C:∀k' B0 m0 e0 B1 m1 e1 B2 m2 e2 B3 m3 e3 B4 m4 e4 B5 m5 e5,Up k k'→StateW (NP (aJ K d T+1001)) (NP (T+K+1)) k' B0 m0 B1 m1 B2 m2 (dW s b r).lo→StateW (NP (aJ K d T+1001)) (NP (T+K+1)) k' B3 m3 B4 m4 B5 m5 (dW s b r).hi→
   R k' (S6 B0 m0 e0 B1 m1 e1 B2 m2 e2 B3 m3 e3 B4 m4 e4 B5 m5 e5)) :
 Cl k 69 #[.agg #[.slice A0 n0 d0,.slice A1 n1 d1,.slice A2 n2 d2,.map (some M)],S6 A3 n3 d3 A4 n4 d4 A5 n5 d5 A6 n6 d6 A7 n7 d7 A8 n8 d8,.agg (c0.toList++(c1.toList++(c2.toList++(c3.toList++([]))))).toArray] R:=by
 intro k0 u0;have hN:=aM K;have hNT:=aM T;replace hr:=RangeV.up hN hr u0;refine aQu hr.s0.seg hr.s1.seg hr.a0.seg hr.a1.seg (aMh (SecV.up hN hs u0) (StateV.up hNT hl u0) (NbV.up hN hM u0) hr.s0 hr.a0 hE hz hd hK1 hT1 hT hd2 fun k1 B0 m0 e0 B1 m1 e1 B2 m2 e2 u1 h1=>⟨_,_,_,_,_,_,_,_,_,rfl,?_⟩);have v1:=u0.trans u1;refine aMg (SecV.up hN hs v1) (StateV.up hNT hh v1) (NbV.up hN hM v1) (hr.s1.up u1) (hr.a1.up u1) hE hz' hd hK1 hT1 hT hd2 fun k3 B3 m3 e3 B4 m4 e4 B5 m5 e5 u3 h3=>⟨_,_,_,_,_,_,_,_,_,rfl,fun k4 u4=>?_⟩;exact C k4 _ _ _ _ _ _ _ _ _ _ _ _ _ _ _ _ _ _ (v1.trans (u3.trans u4)) (StateW.up (aM _) (aM _) h1 (u3.trans u4)) (StateW.up (aM _) (aM _) h3 u4)
end
open Sy (Up Sees CallsG Seg ReadIn)
def NF (W:Nat) (k:World) (a:Array Value) (v:Rat×Bool):Prop:=QV k a v.1 (bif v.2 then W+2003 else W)
theorem NF.seg {W:Nat}{k:World}{a:Array Value}{v:Rat×Bool}(h:NF W k a v):Seg 3 a:=QV.seg h
theorem NF.up {W:Nat}{k k':World}{a:Array Value}{v:Rat×Bool}(h:NF W k a v) (u:Up k k'):NF W k' a v:=QV.up h u
section
variable {k k':World}{R:World→Value→Prop}{c0 c1 c2 c3 cs cs':Array Value}{s:PSec}{b b':PBand}{x y:PState}{r:PRange}{l0 l1 l2:List Rat}{u v:Rat}{K L T T' d M n0 n1 n2 d0 d1 d2 n3 n4 n5 d3 d4 d5 n6 d6 n7 d7 n8 d8 n9 d9 n10 d10 n11 d11:Nat}{A0 A1 A2 A3 A4 A5 A6 A7 A8 A9 A10 A11:Option Addr}
theorem xB (h0:Lst k A0 n0 3 (NR K k) l0) (h1:Lst k A1 n1 3 (NR L k) l1) (he:l0.length=l1.length) (hK:K≤300000000) (hL:L≤300000000) (hn:l1.length≤1000000)
 (C:∀k',Up k k'→R k' (.bool (!decide (gG l0 l1)))) :
 Cl k 113 #[.slice A0 n0 d0,.slice A1 n1 d1] R:=by
 intro k0 u0;replace h0:=h0.up u0 fun _ _ h=>h.up u0;replace h1:=h1.up u0 fun _ _ h=>h.up u0;replace C:=fun k' u=>C k' (u0.trans u);have e0:=h0.1;have e1:=h1.1;refine aJu ⟨fun m k vs=>∃j:Nat,j+m=n0∧vs=[.int .i64 j]∧∀i,i<j→¬ at_ l1 i<at_ l0 i,⟨n0,fun k1 u1=>⟨0,by omega,rfl,fun i hi=>by omega⟩⟩,?_⟩;rintro m k1 vs u1 ⟨j,hj,rfl,hz⟩;refine⟨j,rfl,rfl,fun hlt=>?_,fun hge k2 u2=>?_⟩
 ·have hlt:=aF hlt;obtain⟨y,_,gy,ya,yb,yr,_⟩:=(h0.up u1 fun _ _ h=>h.up u1).el (i:=j) (by omega) (by decide);obtain⟨z,_,gz,za,zb,zr,_⟩:=(h1.up u1 fun _ _ h=>h.up u1).el (i:=j) (by omega) (by decide);refine⟨ya,yb,y,gy.seg,yr k1 (Up.refl _),za,zb,z,gz.seg,zr k1 (Up.refl _),rY gy gz (by omega) fun k3 u3=>⟨_,rfl,fun f k4 u4=>?_,fun f k4 u4=>?_⟩⟩
  ·rw [mK]at f;have:=C k4 (u1.trans (u3.trans u4))
   rwa [decide_eq_false (show ¬ gG l0 l1 from fun h=>h j (by omega) (of_decide_eq_true f))]at this
  ·rw [mK]at f;exact⟨m-1,by omega,j+1,by omega,by rw [aC (by omega)],cC hz (of_decide_eq_false f)⟩
 ·have hge:=aG hge;have:=C k2 (u1.trans u2)
  rwa [decide_eq_true (show gG l0 l1 from fun i hi=>hz i (by omega))]at this
theorem aUd (hx:StateV (NR K) k A0 n0 A1 n1 A2 n2 x) (hy:StateV (NR L) k A3 n3 A4 n4 A5 n5 y) (hK:K≤300000000) (hL:L≤300000000) (hn:tZ x)
 (C:∀k',Up k k'→R k' (.bool (decide (iE x y)))) :
 Cl k 65 #[S3 A0 n0 d0 A1 n1 d1 A2 n2 d2,S3 A3 n3 d3 A4 n4 d4 A5 n5 d5] R:=by
 intro k0 u0;have hN:=bG K;have hM:=bG L;replace hx:=StateV.up hN hx u0;replace hy:=StateV.up hM hy u0;replace C:=fun k' u=>C k' (u0.trans u);have e0:=hx.temp.1;have e1:=hx.cure.1;have e2:=hx.spoil.1;have e3:=hy.temp.1;have e4:=hy.cure.1;have e5:=hy.spoil.1;obtain⟨g0,g1,g2⟩:=hn;have no:¬ iE x y→∀k',Up k0 k'→R k' (.bool false):=fun h k' u=>by have:=C k' u;rwa [decide_eq_false h]at this
 refine aKn ⟨rfl,rfl,fun a k1 u1=>no (fun h=>?_) k1 u1,fun a=>⟨rfl,rfl,fun a' k1 u1=>no (fun h=>?_) k1 u1,fun a'=>⟨rfl,rfl,fun a'' k1 u1=>no (fun h=>?_) k1 u1,fun a''=>?_⟩⟩⟩
 ·have:=h.1.1;simp at a;omega
 ·have:=h.1.2.1;simp at a';omega
 ·have:=h.1.2.2;simp at a'';omega
 have a:n0=n3:=by simp at a;omega
 have a':n1=n4:=by simp at a';omega
 have a'':n2=n5:=by simp at a'';omega
 have dd:∀ {c:Bool},(!(!c))=true→c=true:=fun h=>by simpa using h
 have df:∀ {c:Bool},(!(!c))=false→c=false:=fun h=>by simpa using h
 refine xB hx.temp hy.temp (by omega) hK hL (by omega) fun k4 u4=>⟨_,rfl,fun f=>xB (StateV.up hN hx u4).cure (StateV.up hM hy u4).cure (by omega) hK hL (by omega) fun k6 u6=>⟨_,rfl,fun g=>xB (StateV.up hN hx (u4.trans u6)).spoil (StateV.up hM hy (u4.trans u6)).spoil (by omega) hK hL (by omega) fun k8 u8=>⟨_,rfl,fun k9 u9=>?_⟩,fun g k10 u10=>no (fun h=>of_decide_eq_false (df g) h.2.2.1) k10 ((u4.trans u6).trans u10)⟩,fun f k11 u11=>no (fun h=>of_decide_eq_false (df f) h.2.1) k11 (u4.trans u11)⟩;have:=C k9 ((u4.trans u6).trans (u8.trans u9))
 rwa [show decide (iE x y)=!(!decide (gG x.spoil y.spoil)) by rw [Bool.not_not];exact decide_eq_decide.2 ⟨fun h=>h.2.2.2,fun h=>⟨⟨by omega,by omega,by omega⟩,of_decide_eq_true (dd f),of_decide_eq_true (dd g),h⟩⟩]at this
theorem aLm (hs:SecV (NR K) k A0 n0 A1 n1 A2 n2 s) (hl:StateV (NR T) k A3 n3 A4 n4 A5 n5 b.lo) (hh:StateV (NR T) k A6 n6 A7 n7 A8 n8 b.hi) (hK:K≤1000000) (hT:T≤300000000)
 (C:∀k',Up k k'→R k' (.int .i64 (fB s b))) :
 Cl k 70 #[S3 A0 n0 d0 A1 n1 d1 A2 n2 d2,S6 A3 n3 d3 A4 n4 d4 A5 n5 d5 A6 n6 d6 A7 n7 d7 A8 n8 d8] R:=by
 intro k0 u0;have hN:=bG K;have hM:=bG T;replace hs:=SecV.up hN hs u0;replace hl:=StateV.up hM hl u0;replace hh:=StateV.up hM hh u0;replace C:=fun k' u=>C k' (u0.trans u);have e1:=hs.cells.1;have f0:=hl.temp.1;have f1:=hl.cure.1;have f2:=hl.spoil.1;have f3:=hh.temp.1;have f4:=hh.cure.1;have f5:=hh.spoil.1;refine aEh (aUe hs hK fun k1 u1=>⟨_,rfl,fun f k2 u2=>?_,fun f=>aGs fun k4 u4=>⟨_,rfl,fun g k5 u5=>?_,fun g=>aGs fun k7 u7=>⟨_,rfl,fun g' k8 u8=>?_,fun g'=>?_⟩⟩⟩)
 ·have:=C k2 (u1.trans u2);have hb:fC s b.lo=aL s:=by unfold fC;rw [if_pos (dE f)]
  unfold fB at this
  rwa [hb,if_pos (dE f)]at this
 ·have hz:=of_decide_eq_false (wG g);have:=C k5 (u1.trans (u4.trans u5));have hb:fC s b.lo=4:=by unfold fC;rw [if_neg (by simp [bO f]),if_pos (by unfold sized;omega)]
  unfold fB at this
  rwa [hb,if_pos (by decide)]at this
 ·have hz:=of_decide_eq_true (nZ g);have hz':=of_decide_eq_false (wG g');have:=C k8 (u1.trans (u4.trans (u7.trans u8)));have hb:fC s b.lo=0:=by unfold fC;rw [if_neg (by simp [bO f]),if_neg (fun h=>h (by unfold sized;omega))]
  unfold fB at this
  rwa [hb,if_neg (by simp),if_pos (by unfold sized;omega)]at this
 ·have hz:=of_decide_eq_true (nZ g);have hz':=of_decide_eq_true (nZ g');have hb:fC s b.lo=0:=by unfold fC;rw [if_neg (by simp [bO f]),if_neg (fun h=>h (by unfold sized;omega))]
  have hsz:sized s b.hi:=by unfold sized;omega
  have hc24:s.cells.length≤24:=by have:=cF (bO f);unfold bS at this;omega
  have v7:=u1.trans (u4.trans u7);refine aUd (StateV.up hM hl v7) (StateV.up hM hh v7) hT hT ⟨by omega,by omega,by omega⟩ fun k10 u10=>⟨_,rfl,fun h k11 u11=>?_,fun h k12 u12=>?_⟩
  ·have:=C k11 (v7.trans (u10.trans u11));unfold fB at this
   rwa [hb,if_neg (by simp),if_neg (fun h=>h hsz),if_pos (of_decide_eq_false (wG h))]at this
  ·have:=C k12 (v7.trans (u10.trans u12));unfold fB at this
   rwa [hb,if_neg (by simp),if_neg (fun h=>h hsz),if_neg (fun h'=>h' (of_decide_eq_true (nZ h)))]at this
theorem aPf (hr:RangeV (NR K) k c0 c1 c2 c3 r) (hK:K≤300000000) (C:∀k',Up k k'→R k' (.int .i64 (mS r))) :
 Cl k 71 #[.agg (c0.toList++(c1.toList++(c2.toList++(c3.toList++([]))))).toArray] R:=by
 intro k0 u0;replace hr:=RangeV.up (bG K) hr u0;replace C:=fun k' u=>C k' (u0.trans u);unfold mS at C;refine aEp hr.s0.seg hr.s1.seg hr.a0.seg hr.a1.seg (rY hr.s0 hr.s1 (by omega) fun k1 u1=>⟨_,rfl,fun f k2 u2=>?_,fun f=>rY (hr.a0.up u1) (hr.a1.up u1) (by omega) fun k4 u4=>⟨_,rfl,fun g k5 u5=>?_,fun g k6 u6=>?_⟩⟩)
 ·rw [mK]at f;have:=C k2 (u1.trans u2)
  rwa [if_pos (Or.inl (of_decide_eq_true f))]at this
 ·rw [mK]at g;have:=C k5 (u1.trans (u4.trans u5))
  rwa [if_pos (Or.inr (of_decide_eq_true g))]at this
 ·rw [mK]at f g;have:=C k6 (u1.trans (u4.trans u6))
  rwa [if_neg (not_or.2 ⟨of_decide_eq_false f,of_decide_eq_false g⟩)]at this
theorem aBm (hs:SecV (NR K) k A0 n0 A1 n1 A2 n2 s) (hx:StateV (NR T) k A3 n3 A4 n4 A5 n5 x) (hu:QV k cs u K) (hv:QV k cs' v K) (hE:aL s=0) (hz:sized s x)
 (hd:∀i,i<s.cells.length→(nbm s.links (i:Nat)).length≤d) (hK2:2≤K) (hT1:1≤T) (hK:K≤1000000) (hT:aJ K d T≤300000000)
 (C:∀k' B0 e0 x0 B1 e1 x1 B2 e2 x2,Up k k'→ArrV n1 3 (NR (aJ K d T) k') x0 (at_ (cG s x u v).temp)→ArrV n1 3 (NR (T+K+1) k') x1 (at_ (cG s x u v).cure)→ArrV n1 3 (NR (T+K+1) k') x2 (at_ (cG s x u v).spoil)→
   R k' (.tuple #[.slice B0 n1 e0,.agg x0,.slice B1 n1 e1,.agg x1,.slice B2 n1 e2,.agg x2])) :
 ∀k0,Up k k0→Sy.CallsR3 Tryz.prog 118 #[S3 A0 n0 d0 A1 n1 d1 A2 n2 d2,S3 A3 n3 d3 A4 n4 d4 A5 n5 d5,.agg cs,.agg cs'] k0 81 3 R:=by
 intro k0 u0;have hN:=bG K;have hNT:=bG T;replace hs:=SecV.up hN hs u0;replace hx:=StateV.up hNT hx u0;replace hu:=hu.up u0;replace hv:=hv.up u0;replace C:=fun k' B0 e0 x0 B1 e1 x1 B2 e2 x2 u=>C k' B0 e0 x0 B1 e1 x1 B2 e2 x2 (u0.trans u);clear u0;have e1:=hs.cells.1;obtain⟨z3,z4,z5⟩:=id hz;have f3:=hx.temp.1;have f4:=hx.cure.1;have f5:=hx.spoil.1;have hn24:n1≤24:=by have:=cF hE;unfold bS at this;omega
 have hW:3*T+5*K+4+d*(K+2*T+2)≤300000000:=hT;have hup:∀ {W:Nat}{k k':World}{xs:Array Value}{j:Nat}{f:Nat→Rat},Up k k'→ArrV j 3 (NR W k) xs f→ArrV j 3 (NR W k') xs f:=fun u h=>h.mono fun _ _ h=>h.up u;have hseg:∀ {W:Nat}{k:World},∀a v,NR W k a v→Seg 3 a:=fun _ _ h=>h.seg
 refine aKj hu.seg hv.seg ⟨fun m k vs=>∃(j:Nat) (B0 B1 B2:Option Addr) (e0 e1 e2:Nat) (x0 x1 x2:Array Value),j+m=n1∧vs=[.int .i64 j,.tuple #[.slice B0 j e0,.agg x0],.tuple #[.slice B1 j e1,.agg x1],.tuple #[.slice B2 j e2,.agg x2]]∧
  ArrV j 3 (NR (aJ K d T) k) x0 (at_ (cG s x u v).temp)∧ArrV j 3 (NR (T+K+1) k) x1 (at_ (cG s x u v).cure)∧ArrV j 3 (NR (T+K+1) k) x2 (at_ (cG s x u v).spoil),
  ⟨n1,fun k1 u1=>⟨0,_,_,_,_,_,_,_,_,_,by omega,rfl,ArrV.empty,ArrV.empty,ArrV.empty⟩⟩,?_⟩
 rintro m k1 vs u1 ⟨j,B0,B1,B2,g0,g1,g2,x0,x1,x2,hj,rfl,h0,h1,h2⟩;refine⟨j,B0,j,g0,x0,h0.rowC hseg,B1,j,g1,x1,h1.rowC hseg,B2,j,g2,x2,h2.rowC hseg,rfl,rfl,fun hlt=>?_,fun hge k2 u2=>?_⟩
 ·have hlt:=aF hlt;have hjn:j<s.cells.length:=by omega
  replace hs:=SecV.up hN hs u1;replace hx:=StateV.up hNT hx u1;replace hu:=hu.up u1;replace hv:=hv.up u1;obtain⟨a,_,⟨c0,c1,c2,rfl,q0,q1,q2⟩,ha,hb,_,hr,hr1⟩:=hs.cells.elx (i:=j) hjn (by decide);obtain⟨t,_,ht,ta,tb,tr,_⟩:=hx.temp.elx (i:=j) (by omega) (by decide);obtain⟨hm0,hm1,_⟩:=rP hE hjn;have hmi:(at_ s.cells j).m=(((at_ s.cells j).m.toNat:Nat):Int):=by omega
  obtain⟨a',_,⟨D,p1,r1,F,p2,r2,c4,c5,rfl,l0,l1,s0,s1⟩,ha',hb',hr',_⟩:=hs.mats.elx (i:=(at_ s.cells j).m.toNat) (by omega) (by decide);obtain⟨hR1,hR2⟩:=aDw hE (i:=(at_ s.cells j).m.toNat) (by omega);rw [←hmi]at hb' hr';refine⟨ha,hb,ha,hb,_,hr1 k1 0 _ (Up.refl _) rfl,ha',hb',D,p1,r1,F,p2,r2,c4,s0.seg,c5,s1.seg,hr' k1 (Up.refl _),ta,tb,t,ht.seg,tr k1 (Up.refl _),ha,hb,ha,hb,c0,q0.seg,hr k1 c0 1 3 (Up.refl _) q0.seg.1 (fun q u h=>oZ (d:=0) (by rw [Nat.zero_add];exact gV h)),?_⟩;refine aVw hs hx hu hv hE hz hjn (hd j hjn) hK (by omega) fun k2 y2 u2 w2=>⟨y2,w2.seg,rfl,?_⟩;refine aYw w2 (q0.up u2) (by omega) (by omega) (by omega) fun k4 y4 u4 w4=>⟨y4,w4.seg,rfl,?_⟩;refine lW ((ht.up u2).up u4) w4 (by omega) fun k6 y6 u6 w6=>⟨y6,w6.seg,rfl,by simp [w6.seg.1],by decide,⟨by simp;omega,by simp;omega⟩,?_⟩;rintro B0' _ g0' _ rfl rfl _;have v6:=(u2.trans u4).trans u6;replace hx:=StateV.up hNT hx v6;obtain⟨t3,_,ht3,ta3,tb3,tr3,_⟩:=hx.cure.elx (i:=j) (by omega) (by decide);obtain⟨t4,_,ht4,ta4,tb4,tr4,_⟩:=hx.spoil.elx (i:=j) (by omega) (by decide);obtain⟨t5,_,ht5,ta5,tb5,tr5,_⟩:=hx.temp.elx (i:=j) (by omega) (by decide);refine⟨ta3,tb3,t3,ht3.seg,tr3 k6 (Up.refl _),ta5,tb5,t5,ht5.seg,tr5 k6 (Up.refl _),?_⟩;refine aGt (aO hN l0 v6) ht5 hR1 hK2 (by omega) fun k8 y8 u8 w8=>⟨y8,w8.seg,rfl,?_⟩;refine lW (ht3.up u8) w8 (by omega) fun k10 y10 u10 w10=>⟨y10,w10.seg,rfl,by simp [w10.seg.1],by decide,⟨by simp;omega,by simp;omega⟩,?_⟩;rintro B1' _ g1' _ rfl rfl _;have v10:=u8.trans u10;refine⟨ta4,tb4,t4,ht4.seg,tr4 k10 v10,ta5,tb5,t5,ht5.seg,tr5 k10 v10,?_⟩;refine aGt (aO hN (aO hN l1 v6) v10) (ht5.up v10) hR2 hK2 (by omega) fun k12 y12 u12 w12=>⟨y12,w12.seg,rfl,?_⟩;refine lW ((ht4.up v10).up u12) w12 (by omega) fun k14 y14 u14 w14=>⟨y14,w14.seg,rfl,by simp [w14.seg.1],by decide,⟨by simp;omega,by simp;omega⟩,?_⟩;rintro B2' _ g2' _ rfl rfl _ k15 u15;have v14:=(v10.trans u12).trans u14;refine⟨m-1,by omega,j+1,B0',B1',B2',g0',g1',g2',_,_,_,by omega,by rw [aC (by omega)];rfl,?_,?_,?_⟩
  ·rw [List.append_nil];refine ArrV.push (hup ((v6.trans v14).trans u15) h0) w6.seg.1 ?_;rw [show at_ (cG s x u v).temp j=fU s x u v j from cD hjn];exact ((w6.up v14).up u15).mono (by unfold aJ;omega)
  ·rw [List.append_nil];refine ArrV.push (hup ((v6.trans v14).trans u15) h1) w10.seg.1 ?_;rw [show at_ (cG s x u v).cure j=zP s x j from cD hjn];exact (((w10.up u12).up u14).up u15).mono (by omega)
  ·rw [List.append_nil];refine ArrV.push (hup ((v6.trans v14).trans u15) h2) w14.seg.1 ?_;rw [show at_ (cG s x u v).spoil j=uA s x j from cD hjn];exact (w14.up u15).mono (by omega)
 ·have hge:=aG hge;have ej:j=n1:=by omega
  subst ej;exact C k2 _ _ _ _ _ _ _ _ _ (u1.trans u2) (hup u2 h0) (hup u2 h1) (hup u2 h2)
theorem aWr (hs:SecV (NR K) k A0 n0 A1 n1 A2 n2 s) (hl:StateV (NR T) k A3 n3 A4 n4 A5 n5 b.lo) (hh:StateV (NR T) k A6 n6 A7 n7 A8 n8 b.hi) (hr:RangeV (NR K) k c0 c1 c2 c3 r) (hE:aL s=0) (hz:sized s b.lo) (hz':sized s b.hi)
 (hd:∀i,i<s.cells.length→(nbm s.links (i:Nat)).length≤d) (hK2:2≤K) (hT1:1≤T) (hK:K≤1000000) (hT:aJ K d T≤90000)
 (C:∀k' B0 m0 e0 B1 m1 e1 B2 m2 e2 B3 m3 e3 B4 m4 e4 B5 m5 e5,Up k k'→StateW (NR (aJ K d T+2003)) (NR (T+K+1)) k' B0 m0 B1 m1 B2 m2 (dW s b r).lo→StateW (NR (aJ K d T+2003)) (NR (T+K+1)) k' B3 m3 B4 m4 B5 m5 (dW s b r).hi→
   R k' (S6 B0 m0 e0 B1 m1 e1 B2 m2 e2 B3 m3 e3 B4 m4 e4 B5 m5 e5)) :
 Cl k 72 #[S3 A0 n0 d0 A1 n1 d1 A2 n2 d2,S6 A3 n3 d3 A4 n4 d4 A5 n5 d5 A6 n6 d6 A7 n7 d7 A8 n8 d8,.agg (c0.toList++(c1.toList++(c2.toList++(c3.toList++([]))))).toArray] R:=by
 intro k0 u0;have hN:=bG K;have hNT:=bG T;have e1:=hs.cells.1;have hc24:s.cells.length≤24:=by have:=cF hE;unfold bS at this;omega
 replace hr:=RangeV.up hN hr u0;have hT':aJ K d T≤300000000:=by omega
 have hW:1≤aJ K d T:=by unfold aJ;omega
 have hup:∀ {W:Nat}{k k':World}{xs:Array Value}{j:Nat}{f:Nat→Rat},Up k k'→ArrV j 3 (NR W k) xs f→ArrV j 3 (NR W k') xs f:=fun u h=>h.mono fun _ _ h=>h.up u;have hseg:∀ {W:Nat}{k:World},∀a v,NR W k a v→Seg 3 a:=fun _ _ h=>h.seg;refine aTm hr.s0.seg hr.s1.seg hr.a0.seg hr.a1.seg (aBm (SecV.up hN hs u0) (StateV.up hNT hl u0) hr.s0 hr.a0 hE hz hd hK2 hT1 hK hT' fun k1 B0 e0 x0 B1 e1 x1 B2 e2 x2 u1 h0 h1 h2=>⟨_,_,_,_,_,_,_,_,_,_,_,_,rfl,?_⟩);have v1:=u0.trans u1;refine aBm (SecV.up hN hs v1) (StateV.up hNT hh v1) (hr.s1.up u1) (hr.a1.up u1) hE hz' hd hK2 hT1 hK hT' fun k3 B3 e3 x3 B4 e4 x4 B5 e5 x5 u3 h3 h4 h5=>⟨_,_,_,_,_,_,_,_,_,_,_,_,rfl,?_⟩;have v3:=v1.trans u3;have segF:∀ {k:World},∀a v,NF (aJ K d T) k a v→Seg 3 a:=fun _ _ h=>h.seg;have upF:∀ {k k':World}{xs:Array Value}{j:Nat}{f:Nat→Rat×Bool},Up k k'→ArrV j 3 (NF (aJ K d T) k) xs f→ArrV j 3 (NF (aJ K d T) k') xs f:=fun u h=>h.mono fun _ _ h=>h.up u;have e40:gX 40=40:=by decide
 refine⟨fun m k vs=>∃(j:Nat) (y0 y3:Array Value),j+m=n1∧vs=[.int .i64 j,.tuple #[.slice B0 n1 e0,.agg y0],.tuple #[.slice B3 n1 e3,.agg y3]]∧
  ArrV n1 3 (NF (aJ K d T) k) y0 (cut j (fun i=>(at_ (dW s b r).lo.temp i,true)) (fun i=>(at_ (cG s b.lo r.s0 r.a0).temp i,false)))∧
  ArrV n1 3 (NF (aJ K d T) k) y3 (cut j (fun i=>(at_ (dW s b r).hi.temp i,true)) (fun i=>(at_ (cG s b.hi r.s1 r.a1).temp i,false))),
  ⟨n1,fun k4 u4=>⟨0,_,_,by omega,rfl,ArrV.start (show ArrV n1 3 (NF (aJ K d T) k4) x0 (fun i=>(at_ (cG s b.lo r.s0 r.a0).temp i,false)) from hup (u3.trans u4) h0),ArrV.start (show ArrV n1 3 (NF (aJ K d T) k4) x3 (fun i=>(at_ (cG s b.hi r.s1 r.a1).temp i,false)) from hup u4 h3)⟩⟩,?_⟩
 rintro m k4 vs u4 ⟨j,y0,y3,hj,rfl,g0,g3⟩;refine⟨j,B0,n1,e0,y0,g0.rowC segF,B3,n1,e3,y3,g3.rowC segF,rfl,rfl,fun hlt=>?_,fun hge k10 u10 r0 k11 u11 r1 k12 u12 r2 k13 u13 r3 k14 u14 r4 k15 u15 r5 k16 u16=>?_⟩
 ·have hlt:=aF hlt;have hjn:j<s.cells.length:=by omega
  obtain⟨a,ha,ga,hr0⟩:=g0.read hlt;obtain⟨c,hc,gc,hr3⟩:=g3.read hlt;unfold cut at ga gc;rw [if_neg (Nat.lt_irrefl j)]at ga gc;have ga':QV k4 a (fU s b.lo r.s0 r.a0 j) (aJ K d T):=by
   have:QV k4 a (at_ (cG s b.lo r.s0 r.a0).temp j) (aJ K d T):=ga
   rwa [show at_ (cG s b.lo r.s0 r.a0).temp j=fU s b.lo r.s0 r.a0 j from cD hjn]at this
  have gc':QV k4 c (fU s b.hi r.s1 r.a1 j) (aJ K d T):=by
   have:QV k4 c (at_ (cG s b.hi r.s1 r.a1).temp j) (aJ K d T):=gc
   rwa [show at_ (cG s b.hi r.s1 r.a1).temp j=fU s b.hi r.s1 r.a1 j from cD hjn]at this
  refine⟨decide_eq_true ⟨by omega,by omega⟩,a,ga'.seg,hr0 0 3 (.agg a) ha (fun q u h=>by rw [Nat.zero_add];exact h),decide_eq_true ⟨by omega,by omega⟩,c,gc'.seg,hr3 0 3 (.agg c) hc (fun q u h=>by rw [Nat.zero_add];exact h),?_⟩;refine aBg (m:=40) ga' hW (by omega) fun k6 y6 u6 w6=>⟨y6,w6.seg,rfl,?_⟩;refine aTl (m:=40) (gc'.up u6) hW (by omega) fun k8 y8 u8 w8=>⟨y8,w8.seg,rfl,decide_eq_true ⟨by omega,by omega⟩,⟨by omega,by omega⟩,?_⟩;rw [e40]at w6 w8;rintro _ rfl;refine⟨decide_eq_true ⟨by omega,by omega⟩,⟨by omega,by omega⟩,?_⟩;rintro _ rfl k9 u9;have v9:=u6.trans (u8.trans u9);refine⟨m-1,by omega,j+1,_,_,by omega,by rw [aC (by omega)],?_,?_⟩
  ·rw [List.append_nil];refine (upF v9 g0).step hlt w6.seg.1 ?_;show QV k9 y6 (at_ (dW s b r).lo.temp j) (aJ K d T+2003);rw [show at_ (dW s b r).lo.temp j=pB (fU s b.lo r.s0 r.a0 j) from cD hjn];exact (w6.up u8).up u9
  ·rw [List.append_nil];refine (upF v9 g3).step hlt w8.seg.1 ?_;show QV k9 y8 (at_ (dW s b r).hi.temp j) (aJ K d T+2003);rw [show at_ (dW s b r).hi.temp j=vB (fU s b.hi r.s1 r.a1 j) from cD hjn];exact w8.up u9
 ·have hge:=aG hge;have v16:=((u10.trans u11).trans (u12.trans u13)).trans ((u14.trans u15).trans u16);have q0:ArrV n1 3 (NR (aJ K d T+2003) k4) y0 (at_ (dW s b r).lo.temp):=g0.done hge;have q3:ArrV n1 3 (NR (aJ K d T+2003) k4) y3 (at_ (dW s b r).hi.temp):=g3.done hge;refine C k16 _ _ _ _ _ _ _ _ _ _ _ _ _ _ _ _ _ _ (v3.trans (u4.trans v16)) ⟨?_,?_,?_⟩ ⟨?_,?_,?_⟩
  ·exact eB (by simp [dW,dC];omega) (hup v16 q0) hseg (bN r0 (((u11.trans u12).trans (u13.trans u14)).trans (u15.trans u16)))
  ·exact eB (by simp [dW,dC];omega) (hup ((u3.trans u4).trans v16) h1) hseg (bN r1 ((u12.trans (u13.trans u14)).trans (u15.trans u16)))
  ·exact eB (by simp [dW,dC];omega) (hup ((u3.trans u4).trans v16) h2) hseg (bN r2 ((u13.trans u14).trans (u15.trans u16)))
  ·exact eB (by simp [dW,dC];omega) (hup v16 q3) hseg (bN r3 (u14.trans (u15.trans u16)))
  ·exact eB (by simp [dW,dC];omega) (hup (u4.trans v16) h4) hseg (bN r4 (u15.trans u16))
  ·exact eB (by simp [dW,dC];omega) (hup (u4.trans v16) h5) hseg (bN r5 u16)
end
open Sy (Up Sees CallsG Seg ReadAt)
def few30 (x:PState):Prop:=x.temp.length≤30∧x.cure.length≤30∧x.spoil.length≤30
def small5 (x:PState):Prop:=x.temp.length≤100000∧x.cure.length≤100000∧x.spoil.length≤100000
theorem aGz {x:Int}:¬ (x == x)=false:=by simp
theorem aXd {e:Int}{y:PBand}(h:e=0→small5 y.lo∧small5 y.hi):small5 (yK e y).lo∧small5 (yK e y).hi:=by
 unfold yK;split
 ·exact⟨⟨Nat.zero_le _,Nat.zero_le _,Nat.zero_le _⟩,Nat.zero_le _,Nat.zero_le _,Nat.zero_le _⟩
 ·rename_i h0;exact h (Decidable.not_not.1 h0)
section
variable {k:World}{R:World→Value→Prop}{s:PSec}{b x y:PBand}{z:PState}{K L n0 n1 n2 d0 d1 d2 n3 n4 n5 d3 d4 d5 n6 d6 n7 d7 n8 d8 n9 d9 n10 d10 n11 d11 n12 d12 n13 d13 n14 d14 n15 d15 n16 d16 n17 d17:Nat}{A0 A1 A2 A3 A4 A5 A6 A7 A8 A9 A10 A11 A12 A13 A14 A15 A16 A17:Option Addr}{i0 i1 i2 i3 i4 i5 i6 i7:Int}
theorem aIh (h0:n0=b.lo.temp.length) (h1:n1=b.lo.cure.length) (h2:n2=b.lo.spoil.length) (h3:n3=b.hi.temp.length) (h4:n4=b.hi.cure.length) (h5:n5=b.hi.spoil.length) (C:∀k' f,Up k k'→(f=true→few30 b.lo∧few30 b.hi)→R k' (.bool f)) :
 Cl k 11 #[S6 A0 n0 d0 A1 n1 d1 A2 n2 d2 A3 n3 d3 A4 n4 d4 A5 n5 d5] R:=by
 intro k0 u0;refine aNh (sI h0 h1 h2 fun k1 f u1 hf=>⟨_,rfl,fun e=>sI h3 h4 h5 fun k3 f' u3 hf'=>⟨_,rfl,fun k4 u4=>C k4 _ ((u0.trans u1).trans (u3.trans u4)) fun e'=>⟨hf e,hf' e'⟩⟩,fun _ k5 u5=>C k5 _ ((u0.trans u1).trans u5) (by intro h;cases h)⟩)
theorem aNe (hl:StateA k A0 n0 A1 n1 A2 n2 b.lo) (hh:StateA k A3 n3 A4 n4 A5 n5 b.hi) (fl:few30 b.lo) (fh:few30 b.hi)
 (C:∀k' B0 m0 e0 B1 m1 e1 B2 m2 e2 B3 m3 e3 B4 m4 e4 B5 m5 e5 D0 p0 f0 D1 p1 f1 D2 p2 f2 D3 p3 f3 D4 p4 f4 D5 p5 f5,Up k k'→StateV (NP 1) k' B0 m0 B1 m1 B2 m2 b.lo→StateV (NP 1) k' B3 m3 B4 m4 B5 m5 b.hi→StateV (NR 2) k' D0 p0 D1 p1 D2 p2 b.lo→StateV (NR 2) k' D3 p3 D4 p4 D5 p5 b.hi→
   R k' (.tuple #[S6 B0 m0 e0 B1 m1 e1 B2 m2 e2 B3 m3 e3 B4 m4 e4 B5 m5 e5,S6 D0 p0 f0 D1 p1 f1 D2 p2 f2 D3 p3 f3 D4 p4 f4 D5 p5 f5])) :
 Cl k 15 #[S6 A0 n0 d0 A1 n1 d1 A2 n2 d2 A3 n3 d3 A4 n4 d4 A5 n5 d5] R:=by
 intro k0 u0;refine aIs (vX (hl.up u0) fl fun k1 B0 m0 e0 B1 m1 e1 B2 m2 e2 D0 p0 f0 D1 p1 f1 D2 p2 f2 u1 h1 h1'=>⟨_,_,_,_,_,_,_,_,_,_,_,_,_,_,_,_,_,_,rfl,?_⟩);refine vX ((hh.up u0).up u1) fh fun k3 B3 m3 e3 B4 m4 e4 B5 m5 e5 D3 p3 f3 D4 p4 f4 D5 p5 f5 u3 h3 h3'=>⟨_,_,_,_,_,_,_,_,_,_,_,_,_,_,_,_,_,_,rfl,fun k4 u4=>?_⟩;exact C k4 _ _ _ _ _ _ _ _ _ _ _ _ _ _ _ _ _ _ _ _ _ _ _ _ _ _ _ _ _ _ _ _ _ _ _ _ ((u0.trans u1).trans (u3.trans u4)) (StateV.up (aM 1) h1 (u3.trans u4)) (StateV.up (aM 1) h3 u4) (StateV.up (bG 2) h1' (u3.trans u4)) (StateV.up (bG 2) h3' u4)
theorem aIx (j0:In64 i0) (j1:In64 i1) (j2:In64 i2) (j3:In64 i3) (j4:In64 i4) (j5:In64 i5) (j6:In64 i6) (j7:In64 i7)
 (C:∀k' c0 c1 c2 c3 g0 g1 g2 g3,Up k k'→RangeV (NP 1) k' c0 c1 c2 c3 ⟨ofQ i0 i1,ofQ i2 i3,ofQ i4 i5,ofQ i6 i7⟩→RangeV (NR 2) k' g0 g1 g2 g3 ⟨ofQ i0 i1,ofQ i2 i3,ofQ i4 i5,ofQ i6 i7⟩→
   R k' (.tuple #[.agg (c0.toList++(c1.toList++(c2.toList++(c3.toList++([]))))).toArray,.agg (g0.toList++(g1.toList++(g2.toList++(g3.toList++([]))))).toArray])) :
 Cl k 25 #[.agg #[.int .i64 i0,.int .i64 i1,.int .i64 i2,.int .i64 i3,.int .i64 i4,.int .i64 i5,.int .i64 i6,.int .i64 i7]] R:=by
 intro k0 u0;refine aDl (oP j0 j1 fun k1 c0 u1 w1=>⟨c0,w1.seg,rfl,pE j0 j1 fun k3 g0 u3 w3=>⟨g0,w3.seg,rfl,oP j4 j5 fun k5 c2 u5 w5=>⟨c2,w5.seg,rfl,pE j4 j5 fun k7 g2 u7 w7=>⟨g2,w7.seg,rfl,?_⟩⟩⟩⟩);refine oP j2 j3 fun k9 c1 u9 w9=>⟨c1,w9.seg,rfl,pE j2 j3 fun k11 g1 u11 w11=>⟨g1,w11.seg,rfl,oP j6 j7 fun k13 c3 u13 w13=>⟨c3,w13.seg,rfl,pE j6 j7 fun k15 g3 u15 w15=>⟨g3,w15.seg,rfl,fun k16 u16=>?_⟩⟩⟩⟩;have v9:=u9.trans (u11.trans (u13.trans (u15.trans u16)));have v1:=u3.trans (u5.trans (u7.trans v9));exact C k16 _ _ _ _ _ _ _ _ (u0.trans (u1.trans v1)) ⟨w1.up v1,w9.up (u11.trans (u13.trans (u15.trans u16))),w5.up (u7.trans v9),w13.up (u15.trans u16)⟩ ⟨w3.up (u5.trans (u7.trans v9)),w11.up (u13.trans (u15.trans u16)),w7.up v9,w15.up u16⟩
theorem aMy (hl:StateV (NP K) k A0 n0 A1 n1 A2 n2 b.lo) (hh:StateV (NP K) k A3 n3 A4 n4 A5 n5 b.hi) (hl':StateV (NR L) k A6 n6 A7 n7 A8 n8 b.lo) (hh':StateV (NR L) k A9 n9 A10 n10 A11 n11 b.hi) (hn:small5 b.lo∧small5 b.hi) (hK:K≤8589934592) (hL:L≤34359738368) (C:∀k',Up k k'→R k' (.bool true)) :
 Cl k 21 #[S6 A0 n0 d0 A1 n1 d1 A2 n2 d2 A3 n3 d3 A4 n4 d4 A5 n5 d5,S6 A6 n6 d6 A7 n7 d7 A8 n8 d8 A9 n9 d9 A10 n10 d10 A11 n11 d11] R:=by
 intro k0 u0;refine aSb (vU (StateV.up (aM K) hl u0) (StateV.up (bG L) hl' u0) hn.1 hK hL fun k1 u1=>⟨_,rfl,fun _=>?_,fun h=>absurd h (by decide)⟩);refine vU (StateV.up (aM K) hh (u0.trans u1)) (StateV.up (bG L) hh' (u0.trans u1)) hn.2 hK hL fun k3 u3=>⟨_,rfl,fun k4 u4=>?_⟩;exact C k4 ((u0.trans u1).trans (u3.trans u4))
end
def xQ (f:Nat→Nat→Bool):Nat→Nat
 | 0=>0
 | j+1=>if f j (xQ f j)=true then j else xQ f j
def aUp (s:PSec) (i:Nat):Rat:=(at_ s.mats (at_ s.cells i).m.toNat).done
def aNi (s:PSec) (i:Nat):Rat:=(at_ s.mats (at_ s.cells i).m.toNat).limit
def aTx (s:PSec) (x:PState):List Rat:=(List.range s.cells.length).map fun i=>at_ x.cure i/aUp s i
def aTy (s:PSec) (x:PState):List Rat:=(List.range s.cells.length).map fun i=>at_ x.spoil i/aNi s i
def aVk (l:List Rat) (i b:Nat):Bool:=decide (at_ l i<at_ l b)
def aVl (l:List Rat) (i b:Nat):Bool:=decide (at_ l b<at_ l i)
def aYn (s:PSec) (x:PState):Nat:=xQ (aVk (aTx s x)) s.cells.length
def aYe (s:PSec) (x:PState):Nat:=xQ (aVl (aTy s x)) s.cells.length
def aFv (s:PSec) (x:PState):Prop:=∀i,i<s.cells.length→¬ at_ x.cure i<aUp s i
def jZ (s:PSec) (x:PState):Prop:=¬ ∀i,i<s.cells.length→¬ aNi s i<at_ x.spoil i
instance (s:PSec) (x:PState):Decidable (aFv s x):=by unfold aFv;exact inferInstance
instance (s:PSec) (x:PState):Decidable (jZ s x):=by unfold jZ;exact inferInstance
def aZk (s:PSec) (b:PBand):Int:=if jZ s b.lo then 2 else if jZ s b.hi then 3 else if ¬ aFv s b.lo then 1 else 0
section
variable {k k':World}{R:World→Value→Prop}{cs cs':Array Value}{s:PSec}{b:PBand}{x:PState}{l:List Rat}{K L T d n0 n1 n2 d0 d1 d2 n3 n4 n5 d3 d4 d5 n6 d6 n7 d7 n8 d8 n c:Nat}{A A0 A1 A2 A3 A4 A5 A6 A7 A8:Option Addr}
end
section
variable {k:World}{R:World→Value→Prop}{s:PSec}{b x:PBand}{x':PState}{K T n0 n1 n2 d0 d1 d2 n3 n4 n5 d3 d4 d5 n6 d6 n7 d7 n8 d8:Nat}{A0 A1 A2 A3 A4 A5 A6 A7 A8:Option Addr}
end
