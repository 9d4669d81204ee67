/- Several texts in one. (Printed by prep.py.) -/
import Derived.Test.YtpeakfmjibfkpaaGreatCyFW
import Derived.Test.YtpeakfmjibfkpaaGreatCyLP
import Derived.Test.YtpeakfmjibfkpaaGreatCyVCY
namespace Go.Proofs.YtpeakfmjibfkpaaGreat
set_option maxHeartbeats 8000000
open Go.RowKit Num W32
open Sy (Up Sees CallsG Seg dead)
section
variable {k kk k' w w' W:World}{a c:Nat}
theorem jH (h:Sees k w) (b:Below w.heap.size w W):Up k W:=
 ⟨b.os.trans h.os,b.tape.trans h.tape,b.output.trans h.output,by rw [←h.size];exact b.size,fun g o hg hne=>stay (h.live g o hg hne) b⟩
theorem bAq (hb:Below k.heap.size k kk) (u:Up kk w') (u':Up k k') (hs:k'.heap.size=w'.heap.size) (hn:∀g,k.heap.size≤g→k'.heap[g]?=w'.heap[g]?):Up kk k':=
 ⟨u'.os.trans hb.os.symm,u'.tape.trans hb.tape.symm,u'.output.trans hb.output.symm,by rw [hs];exact u.size,fun g o hg hne=>by
   by_cases h:g<k.heap.size
   ·exact u'.live g o ((hb.block g h).symm.trans hg) hne
   ·rw [hn g oq];exact u.live g o hg hne⟩
def Dk (k:World) (a c g:Nat):Prop:=k.heap[g]?=some dead∨g=a∨g=c
theorem lL {ca cc:Array Value}{t t':TypeId}(hs:Sees k w) (hb:Below w.heap.size w W) (ha:W.heap[a]?=some (.cells ca t (0,0))) (hc:W.heap[c]?=some (.cells cc t' (0,0))) (na:∀u∈ca.toList,u.noWord=true) (nc:∀u∈cc.toList,u.noWord=true) :
 ∀g,Dk k a c g→g<W.heap.size→∃cs t fr,W.heap[g]?=some (.cells cs t fr)∧∀u∈cs.toList,u.noWord=true:=by
 rintro g (h|rfl|rfl) _
 ·obtain⟨cs,t,fr,h1,h2⟩:=hs.dark g h;exact⟨cs,t,fr,stay h1 hb,h2⟩
 ·exact⟨_,_,_,ha,na⟩
 ·exact⟨_,_,_,hc,nc⟩
theorem zE (u:Up kk W) (hb:Below k.heap.size k kk) (ha:∀o,kk.heap[a]?=some o→o=dead) (hc:∀o,kk.heap[c]?=some o→o=dead):Up kk (MK (Dk k a c) W):=
 aYh u fun g o hg hne=>by
  rintro (h|rfl|rfl)
  ·have:=(hb.block g (Sy.heap_lt h)).trans h;rw [hg]at this;exact hne (Option.some.inj this)
  ·exact hne (ha o hg)
  ·exact hne (hc o hg)
theorem oV (u:Up k W) (ha:k.heap.size≤a) (hc:k.heap.size≤c):Below k.heap.size k (MK (Dk k a c) W):=
 ⟨u.os,u.tape,u.output,by rw [mk_size];exact u.size,fun g hg=>by
   have hw:=qx hg u.size
   by_cases h:k.heap[g]?=some dead
   ·rw [nO (.inl h) hw,h]
   ·rw [iU (by rintro (h'|rfl|rfl);exact h h';omega;omega)];rw [ob hg]at h ⊢
    exact u.live g _ (ob hg) fun e=>h (by rw [e])⟩
theorem oY {P:Program}{f:FuncId}{args:Array Value}{D:Nat→Prop}{R:World→Value→Prop}(hD:∀g,D g→g<W.heap.size→∃cs t fr,W.heap[g]?=some (.cells cs t fr)∧∀u∈cs.toList,u.noWord=true) (u:Up kk (MK D W)) (h:∀k0,Up kk k0→CallsG P f args k0 R) :
 Calls P f args W fun e w'=>∃v k',e=.returned v∧Sees k' w'∧Below (MK D W).heap.size (MK D W) k'∧Below W.heap.size W w'∧R k' v:=h _ u W (aWg hD)
end
theorem aWh {D:Nat→Prop}{W:World}:Up (MK D W) W:=
 ⟨rfl,rfl,rfl,by rw [mk_size];exact oy _,fun g o hg hne=>by
   by_cases c:D g
   ·rw [nO c (by have:=Sy.heap_lt hg;rwa [mk_size]at this)]at hg;cases hg;exact absurd rfl hne
   ·rwa [iU c]at hg⟩
theorem bAr {kk W:World}{g:Nat}{t:TypeId}{cs:Array Value}(u:Up kk W) (h:kk.heap[g]?=some dead):Up kk (Sy.World.putBlk W g t cs):=
 ⟨u.os,u.tape,u.output,by rw [vS];exact u.size,fun p o hp hne=>by
   rw [rJ fun e=>by subst e;rw [h]at hp;exact hne (Option.some.inj hp).symm];exact u.live p o hp hne⟩
theorem pK {kk:World}{g:Nat}(h:kk.heap[g]?=some dead):∀o,kk.heap[g]?=some o→o=dead:=fun o ho=>by rw [h]at ho;exact (Option.some.inj ho).symm
def rc (c:RCell):Array Value:=#[.bool c.b,.slice c.A c.n c.c,.slice c.D c.d c.e]
theorem bAg (q:Nat→Nat→RCell) (j:Nat):aDu q j=.agg ((rc (q j 0)).toList++((rc (q j 1)).toList++((rc (q j 2)).toList++((rc (q j 3)).toList++([]))))).toArray:=rfl
theorem aAt {k:World}{cs:Array Value}{x:Rat}{K:Nat}(h:RatV k cs x K):∃c,cs=rc c:=by
 obtain⟨g,A,n,c,D,d,e,e1,_⟩:=h;exact⟨⟨g,A,n,c,D,d,e⟩,e1⟩
theorem aMm {k w:World}{A9:Option Addr}{n9 K:Nat}{l:List PPhase}(hp:Lst k A9 n9 13 (PhV (NP K) k) l) (h0:∀j,j<l.length→0≤(at_ l j).steps) (hw:Sees k w) :
 ∃q:Nat→Nat→RCell,(∀j,j<n9→RangeV (NP K) k (rc (q j 0)) (rc (q j 1)) (rc (q j 2)) (rc (q j 3)) (at_ l j).r)∧PhsAt w A9 n9 (fun j=>(at_ l j).steps.toNat) q w.heap.size:=by
 obtain⟨hn,xs,hin,_,hv⟩:=hp;have hx:∀j,∃f:Nat→RCell,j<n9→RangeV (NP K) k (rc (f 0)) (rc (f 1)) (rc (f 2)) (rc (f 3)) (at_ l j).r∧xs[j*13]?=some (.int .i64 (at_ l j).steps)∧∀i v,((rc (f 0)).toList++((rc (f 1)).toList++((rc (f 2)).toList++((rc (f 3)).toList++([]))))).toArray[i]?=some v→xs[j*13+(i+1)]?=some v:=fun j=>by
  by_cases hj:j<n9
  ·obtain⟨a,_,⟨c0,c1,c2,c3,rfl,hr⟩,hq⟩:=hv.el hj;obtain⟨r0,rfl⟩:=aAt hr.s0;obtain⟨r1,rfl⟩:=aAt hr.s1;obtain⟨r2,rfl⟩:=aAt hr.a0;obtain⟨r3,rfl⟩:=aAt hr.a1;refine⟨fun i=>match i with|0=>r0|1=>r1|2=>r2|_=>r3,fun _=>⟨hr,by have:=hq 0 _ rfl;rwa [jk]at this,fun i v hi=>hq (i+1) v ?_⟩⟩
   rw [jf]at hi ⊢;rw [jc];exact hi
  ·exact⟨fun _=>⟨false,none,0,0,none,0,0⟩,fun h=>absurd h hj⟩
 obtain⟨q,hq⟩:=Classical.skolem.1 hx;refine⟨q,fun j hj=>(hq j hj).1,fun hpos=>?_⟩;obtain⟨b,o,e,hb,_⟩:=hin _ _ (hq 0 hpos).2.1;have cell:∀p v,xs[p]?=some v→w.cell? ⟨b,o+p,none⟩=some v:=fun p v h=>by
  obtain⟨b',o',e',_,hc⟩:=hin p v h;rw [e]at e';injection e' with e';injection e' with e1 e2;subst e1 e2;exact hw.cell hc
 refine⟨b,o,e,by rw [hw.size];exact hb,fun j hj=>?_,fun j i v hj hi=>?_⟩
 ·have:=cell _ _ (hq j hj).2.1
  rwa [show (at_ l j).steps=(((at_ l j).steps.toNat:Nat):Int) from (Int.toNat_of_nonneg (h0 j oq)).symm]at this
 ·have:=cell _ _ ((hq j hj).2.2 i v hi)
  rwa [←xf]at this
theorem kQ {l:List PPhase}:∀ {k:Nat}(hk:k≤l.length),(gL (len:=l.length) (fun j=>(at_ l j).steps.toNat) k hk).map (fun x=>(at_ l x.1).r)=jS (l.take k)
 | 0,_=>rfl
 | k+1,hk=>by
  rw [aJi hk,aLf];show ((gL _ k _++List.replicate _ _).map _)=_;rw [yl,kQ oq,List.map_replicate];simp [jS]
def aXx (N N':World→Array Value→Rat→Prop) (x y:PState) (k:World) (v:Value):Prop:=∃c:BCell,v=.agg #[sl c.a0,sl c.a1,sl c.a2,sl c.a3,sl c.a4,sl c.a5]∧StateW N N' k c.a0.A c.a0.n c.a1.A c.a1.n c.a2.A c.a2.n x∧StateW N N' k c.a3.A c.a3.n c.a4.A c.a4.n c.a5.A c.a5.n y
theorem bBg {N N':World→Array Value→Rat→Prop}{x y:PState}{k:World}{B0 B1 B2 B3 B4 B5:Option Addr}{m0 e0 m1 e1 m2 e2 m3 e3 m4 e4 m5 e5:Nat}(h:StateW N N' k B0 m0 B1 m1 B2 m2 x) (h':StateW N N' k B3 m3 B4 m4 B5 m5 y):aXx N N' x y k (S6 B0 m0 e0 B1 m1 e1 B2 m2 e2 B3 m3 e3 B4 m4 e4 B5 m5 e5):=⟨⟨⟨B0,m0,e0⟩,⟨B1,m1,e1⟩,⟨B2,m2,e2⟩,⟨B3,m3,e3⟩,⟨B4,m4,e4⟩,⟨B5,m5,e5⟩⟩,rfl,h,h'⟩
theorem nw6 {A0 A1 A2 A3 A4 A5:Option Addr}{n0 d0 n1 d1 n2 d2 n3 d3 n4 d4 n5 d5:Nat}:∀u∈(#[Value.slice A0 n0 d0,.slice A1 n1 d1,.slice A2 n2 d2,.slice A3 n3 d3,.slice A4 n4 d4,.slice A5 n5 d5]:Array Value).toList,u.noWord=true:=by simp [Value.noWord]
section
variable {k k':World}{R:World→Value→Prop}{l:List PPhase}{s:PSec}{b:PBand}{K T W d n0 n1 n2 n3 n4 n5 n6 n7 n8 n9 d0 d1 d2 d3 d4 d5 d6 d7 d8 d9:Nat}{A0 A1 A2 A3 A4 A5 A6 A7 A8 A9:Option Addr}
theorem aKe (hs:SecV (NP K) k A0 n0 A1 n1 A2 n2 s) (hl:StateV (NP T) k A3 n3 A4 n4 A5 n5 b.lo) (hh:StateV (NP T) k A6 n6 A7 n7 A8 n8 b.hi) (hp:Lst k A9 n9 13 (PhV (NP K) k) l)
 (hd:aF s=0→∀i,i<s.cells.length→(nbm s.links (i:Nat)).length≤d) (hml:oR b.lo) (hmh:oR b.hi) (hmr:∀j,j<l.length→MagR (at_ l j).r) (hK1:1≤K) (hT1:1≤T) (hK:K≤1000000) (hd2:d≤128) (hTT:T≤100000000)
 (hm:oB s b l=0→aJ K d (T+(eF l).toNat*(K+1))≤90000) (hfin:oB s b l=0→T+(eF l).toNat*(K+1)≤W)
 (C:∀k' B0 m0 e0 B1 m1 e1 B2 m2 e2 B3 m3 e3 B4 m4 e4 B5 m5 e5,Up k k'→StateV (NP W) k' B0 m0 B1 m1 B2 m2 (aLi s b l).lo→StateV (NP W) k' B3 m3 B4 m4 B5 m5 (aLi s b l).hi→
   R k' (.tuple #[S6 B0 m0 e0 B1 m1 e1 B2 m2 e2 B3 m3 e3 B4 m4 e4 B5 m5 e5,.int .i64 (oB s b l)])) :
 Cl k 37 #[S3 A0 n0 d0 A1 n1 d1 A2 n2 d2,S6 A3 n3 d3 A4 n4 d4 A5 n5 d5 A6 n6 d6 A7 n7 d7 A8 n8 d8,.slice A9 n9 d9] R:=by
 intro k0 u0;have hN:=aE K;have hNT:=aE T;replace hs:=SecV.up hN hs u0;replace hl:=StateV.up hNT hl u0;replace hh:=StateV.up hNT hh u0;replace hp:=rF hN hp u0;replace C:=fun k' B0 m0 e0 B1 m1 e1 B2 m2 e2 B3 m3 e3 B4 m4 e4 B5 m5 e5 u=>C k' B0 m0 e0 B1 m1 e1 B2 m2 e2 B3 m3 e3 B4 m4 e4 B5 m5 e5 (u0.trans u);have out:∀ {w:World},Sees k0 w→∀o,k0.heap[w.heap.size+1+1]?=some o→o=dead:=fun hw o ho=>by
  have:=Sy.heap_lt ho;have:=hw.size;omega
 by_cases f:oB s b l=0
 rotate_left
 ·refine aDh (F:=fun _ _ v=>v=.tuple #[S6 none 0 0 none 0 0 none 0 0 none 0 0 none 0 0 none 0 0,.int .i64 (oB s b l)]) ?_ ?_
  ·rintro w w' k' v _ rfl u _ _;refine C k' _ _ _ _ _ _ _ _ _ _ _ _ _ _ _ _ _ _ u ?_ ?_
   all_goals unfold aLi jN;rw [og f];exact⟨.nil,.nil,.nil⟩
  ·intro w hw;refine (aFw (a0:=⟨A0,n0,d0⟩) (a1:=⟨A1,n1,d1⟩) (a2:=⟨A2,n2,d2⟩) (a3:=⟨A3,n3,d3⟩) (a4:=⟨A4,n4,d4⟩) (a5:=⟨A5,n5,d5⟩) (a6:=⟨A6,n6,d6⟩) (a7:=⟨A7,n7,d7⟩) (a8:=⟨A8,n8,d8⟩) (E:=oB s b l) (fun W hb h6=>?_) f).mono ?_
   ·have uW:=jH hw hb;refine (oY (lL hw hb h6 h6 nw6 nw6) (zE uW (Below.refl _ k0) (out hw) (out hw)) (aId hs hl hh hp hK1 hK hT1 oq (R:=fun _ v=>v=.int .i64 (oB s b l)) fun k' u=>rfl)).mono ?_;rintro e w' ⟨v,k',rfl,_,_,hb',rfl⟩;exact⟨rfl,hb'⟩
   ·rintro e w' ⟨rfl,hb⟩;exact⟨⟨_,rfl,rfl⟩,hb⟩
 obtain⟨hB,hPh⟩:=aZh f;obtain⟨hE,hz,hz',_⟩:=mH hB;obtain⟨h16,hph,h2000⟩:=aZx hPh;have hOK:OkB s b:=⟨hz,hz',hml,hmh⟩;have hc24:s.cells.length≤24:=by have:=aQ hE;unfold aY at this;omega
 have hd:=hd hE;have hst:∀j,j<l.length→0≤(at_ l j).steps:=fun j hj=>(aYl (hph j hj)).1;have hm:=hm f;have hfin:=hfin f;obtain rfl:n9=l.length:=hp.1;have hL:(jS l).length=(eF l).toNat:=by have:=aLg hst;omega
 have hLF:(gL (len:=l.length) (fun j=>(at_ l j).steps.toNat) l.length (oy _)).length=(eF l).toNat:=by
  have:=congrArg List.length (kQ (l:=l) (oy _));rw [List.length_map,List.take_length,hL]at this;exact this
 have hW:∀j,j≤(eF l).toNat→aJ K d (T+j*(K+1))≤90000∧T+j*(K+1)≤90000:=fun j hj=>by
  have h1:T+j*(K+1)≤T+(eF l).toNat*(K+1):=Nat.add_le_add_left (od _ hj) _;have h2:=qk (oN h1) hm;exact⟨h2,qk mC h2⟩
 have hsucc:∀j:Nat,T+(j+1)*(K+1)=T+j*(K+1)+K+1:=fun j=>by rw [jt];omega
 refine aDh (F:=fun w w' v=>∃kk,∃c:BCell,Up kk w'∧Below k0.heap.size k0 kk∧v=.tuple #[.agg #[sl c.a0,sl c.a1,sl c.a2,sl c.a3,sl c.a4,sl c.a5],.int .i64 0]∧StateV (NP W) kk c.a0.A c.a0.n c.a1.A c.a1.n c.a2.A c.a2.n (advL s (jS l) b).lo∧StateV (NP W) kk c.a3.A c.a3.n c.a4.A c.a4.n c.a5.A c.a5.n (advL s (jS l) b).hi) ?_ ?_
 ·rintro w w' k' v _ ⟨kk,c,uk,bk,rfl,g1,g2⟩ u hsz hnw;have uu:=bAq bk uk u hsz hnw;unfold aLi jN at C;rw [f,oh (by simp)]at C;exact C k' _ _ _ _ _ _ _ _ _ _ _ _ _ _ _ _ _ _ u (StateV.up (aE _) g1 uu) (StateV.up (aE _) g2 uu)
 intro w hw;have hsz:=hw.size;obtain⟨q,hq,hpa⟩:=aMm hp hst hw
 refine (aCr (a0:=⟨A0,n0,d0⟩) (a1:=⟨A1,n1,d1⟩) (a2:=⟨A2,n2,d2⟩) (a3:=⟨A3,n3,d3⟩) (a4:=⟨A4,n4,d4⟩) (a5:=⟨A5,n5,d5⟩) (a6:=⟨A6,n6,d6⟩) (a7:=⟨A7,n7,d7⟩) (a8:=⟨A8,n8,d8⟩) (q:=q) (ps:=fun j=>(at_ l j).steps.toNat)
  (M:=fun m W=>∃kk,Up kk W∧Below k0.heap.size k0 kk∧kk.heap[w.heap.size+1+1]?=some dead∧NbV (NP K) kk m s.links)
  (X:=fun m W n c=>∃kk,Up kk W∧Below k0.heap.size k0 kk∧kk.heap[w.heap.size+1+1]?=some dead∧NbV (NP K) kk m s.links∧StateV (NP T) kk c.a0.A c.a0.n c.a1.A c.a1.n c.a2.A c.a2.n b.lo∧StateV (NP T) kk c.a3.A c.a3.n c.a4.A c.a4.n c.a5.A c.a5.n b.hi)
  (Inv:=fun m g10 base pre W c=>k0.heap.size≤base∧k0.heap.size≤g10∧∃kk,Up kk W∧KK k0 base (w.heap.size+1+1) g10 kk∧NbV (NP K) kk m s.links∧
    StateV (NP (T+pre.length*(K+1))) kk c.a0.A c.a0.n c.a1.A c.a1.n c.a2.A c.a2.n (advL s (pre.map fun x=>(at_ l x.1).r) b).lo∧StateV (NP (T+pre.length*(K+1))) kk c.a3.A c.a3.n c.a4.A c.a4.n c.a5.A c.a5.n (advL s (pre.map fun x=>(at_ l x.1).r) b).hi)
  ?h1 ?h2 ?h3 ?h4 ?hO ?hS ?hA ?hlen ?hsteps hpa).mono ?fin
 case h1=>
  intro W hb h6;refine (oY (lL hw hb h6 h6 nw6 nw6) (zE (jH hw hb) (Below.refl _ k0) (out hw) (out hw)) (aId hs hl hh hp hK1 hK hT1 oq (R:=fun _ v=>v=.int .i64 (oB s b l)) fun k' u=>rfl)).mono ?_;rintro e w' ⟨v,k',rfl,_,_,hb',rfl⟩;exact⟨by rw [f],hb'⟩
 case h2=>
  intro W hb h6;have bd:=oV (a:=w.heap.size+1+1) (c:=w.heap.size+1+1) (jH hw hb) oq oq
  refine (oY (lL hw hb h6 h6 nw6 nw6) (zE (jH hw hb) (Below.refl _ k0) (out hw) (out hw)) (uC hs.links (by have:=aQ hE;unfold aY at this;have:=hs.links.1;omega) (fun z hz=>by
   obtain⟨h1,h2⟩:=dH (cQ hE) z hz
   omega) (R:=fun k' v=>∃m,v=.agg #[.slice A0 n0 d0,.slice A1 n1 d1,.slice A2 n2 d2,.map (some m)]∧NbV (NP K) k' m s.links) fun k' M u h=>⟨M,rfl,h⟩)).mono ?_
  rintro e w' ⟨v,k',rfl,hk,hbk,hb',m,rfl,hM⟩;refine⟨m,rfl,hb',k',jH hk (Below.refl _ _),bd.trans (hbk.mono bd.size),?_,hM⟩;have hlt:=Sy.heap_lt h6;exact (hbk.block _ (by rw [mk_size];exact hlt)).trans (nO (.inr (.inl rfl)) hlt)
 case h3=>
  rintro m W0 W ⟨kk,uk,bk,d6,hM⟩ hb0 hb h6;have bd:=oV (a:=w.heap.size+1+1) (c:=w.heap.size+1+1) (jH hw hb) oq oq;have ud:=zE (uk.trans (Up.of_below hb0)) bk (pK d6) (pK d6);have ukk:=Up.of_below bk;refine (oY (lL hw hb h6 h6 nw6 nw6) ud (aBs (StateV.up hNT hl ukk) (StateV.up hNT hh ukk) (fP hz hc24) (fP hz' hc24) (R:=fun k' v=>∃c:BCell,v=.agg #[sl c.a0,sl c.a1,sl c.a2,sl c.a3,sl c.a4,sl c.a5]∧StateV (NP T) k' c.a0.A c.a0.n c.a1.A c.a1.n c.a2.A c.a2.n b.lo∧StateV (NP T) k' c.a3.A c.a3.n c.a4.A c.a4.n c.a5.A c.a5.n b.hi) fun k' B0 m0 e0 B1 m1 e1 B2 m2 e2 B3 m3 e3 B4 m4 e4 B5 m5 e5 u g1 g2=>⟨⟨⟨B0,m0,e0⟩,⟨B1,m1,e1⟩,⟨B2,m2,e2⟩,⟨B3,m3,e3⟩,⟨B4,m4,e4⟩,⟨B5,m5,e5⟩⟩,rfl,g1,g2⟩)).mono ?_;rintro e w' ⟨v,k',rfl,hk,hbk,hb',c,rfl,g1,g2⟩;refine⟨c,rfl,hb',k',jH hk (Below.refl _ _),bd.trans (hbk.mono bd.size),?_,NbV.up hN hM (ud.trans (Up.of_below hbk)),g1,g2⟩;have hlt:=Sy.heap_lt h6;exact (hbk.block _ (by rw [mk_size];exact hlt)).trans (nO (.inr (.inl rfl)) hlt)
 case h4=>
  rintro m w3 n c W ⟨kk,uk,bk,d6,hM,g1,g2⟩ hb hlt;have uW:=uk.trans (Up.of_below hb);have h3:=qk bk.size uk.size;have h6:=qx (Sy.heap_lt d6) uW.size;have ud:=zE (c:=w3.heap.size) uW bk (pK d6) (fun o ho=>by have:=Sy.heap_lt ho;have:=uk.size;omega);have g1:=StateV.up hNT g1 ud;have g2:=StateV.up hNT g2 ud;refine⟨qk h3 hb.size,h3,_,aWh,⟨oV ((Up.of_below bk).trans uW) oq h3,nO (.inr (.inl rfl)) h6,nO (.inr (.inr rfl)) hlt,fun g o hg ho=>?_⟩,NbV.up hN hM ud,g1.mono fun _ _ h=>h.mono (by simp),g2.mono fun _ _ h=>h.mono (by simp)⟩;have:=Sy.heap_lt ho;rw [mk_size]at this;omega
 case hO=>
  rintro m g10 base c pre W W' row ⟨i1,i2,kk,uk,hk,r⟩ hg hr;exact⟨i1,i2,kk,aZl hk uk hg hr,hk,r⟩
 case hS=>
  rintro m g10 base pre W c g cs ⟨i1,i2,kk,uk,hk,r⟩ hg e;exact⟨i1,i2,kk,bAr uk (by rcases e with rfl|rfl;exact hk.d10;exact hk.d6),hk,r⟩
 case hA=>
  rintro m g10 base pre x W c hlt ⟨i1,i2,kk,uk,hk,hM,g1,g2⟩ hb h6 h10;rw [hLF]at hlt;have bd:=oV (a:=w.heap.size+1+1) (c:=g10) (jH hw hb) oq i2;have ud:=zE uk hk.bel (pK hk.d6) (pK hk.d10);have ukk:=Up.of_below hk.bel;have hj:=OkB.advL hE (rs:=pre.map fun x=>(at_ l x.1).r) (fun r hr=>by obtain⟨y,_,rfl⟩:=vd.1 hr;exact hmr y.1 y.2) hOK;have hWj:=hW _ (Nat.le_of_lt hlt);rw [bAg];refine (oY (lL hw hb h6 h10 nw6 nw6) ud (aEz (b:=advL s (pre.map fun x=>(at_ l x.1).r) b) (r:=(at_ l x.1).r) (SecV.up hN hs ukk) g1 g2 hM (RangeV.up hN (hq x.1 x.2) ukk) hE hj.lo hj.hi hd hK1 oq hWj.1 hd2 (R:=aXx (NP (aJ K d (T+pre.length*(K+1))+1001)) (NP (T+pre.length*(K+1)+K+1)) (dL s (advL s (pre.map fun x=>(at_ l x.1).r) b) (at_ l x.1).r).lo (dL s (advL s (pre.map fun x=>(at_ l x.1).r) b) (at_ l x.1).r).hi) fun k' B0 m0 e0 B1 m1 e1 B2 m2 e2 B3 m3 e3 B4 m4 e4 B5 m5 e5 u t1 t2=>(by exact bBg t1 t2))).mono ?_;rintro e w' ⟨v,k',rfl,hsk,hbk,hb',c',rfl,t1,t2⟩;have k6:k'.heap[w.heap.size+1+1]?=some dead:=(hbk.block _ (by rw [mk_size];exact Sy.heap_lt h6)).trans (nO (.inr (.inl rfl)) (Sy.heap_lt h6));have k10:k'.heap[g10]?=some dead:=(hbk.block _ (by rw [mk_size];exact Sy.heap_lt h10)).trans (nO (.inr (.inr rfl)) (Sy.heap_lt h10));have hKK:=aQu (bd.trans (hbk.mono bd.size)) i1 k6 k10;have uS:=aUe hk (ud.trans (Up.of_below hbk));obtain⟨q1,q2⟩:=zM hE hj.lo hj.hi hj.magl hj.magh (hmr x.1 x.2);refine⟨c',rfl,hb',i1,i2,_,aTw hsk,hKK,NbV.up hN hM uS,?_,?_⟩
  all_goals rw [qo,yl,show [x].length=1 from rfl,hsucc,List.map_singleton,wY]
  ·exact wI (t1.tightP q1 oq) mk_size fun a v h=>wK h
  ·exact wI (t2.tightP q2 oq) mk_size fun a v h=>wK h
 case hlen=>omega
 case hsteps=>
  intro j hj;have h1:=zB hj;have h2:=tV hst (j+1);have h3:=tV hst j;show (at_ l j).steps.toNat≤1000000;omega
 case fin=>
  rintro e w' ⟨m,g10,base,c,rfl,hb,_,_,kk,uk,hk,_,g1,g2⟩;rw [kQ,List.take_length,hLF]at g1 g2;exact⟨⟨_,rfl,kk,c,uk,hk.bel,rfl,g1.mono fun _ _ h=>h.mono hfin,g2.mono fun _ _ h=>h.mono hfin⟩,hb⟩
end
open Sy (Up Sees CallsG Seg ReadAt)
def Btl (a l b:List Rat):Prop:=∀i,i<l.length→at_ a i≤at_ l i∧at_ l i≤at_ b i
theorem aJp {s:PSec}{u v:Rat}(h:¬ v<u):Und s.cells.length (eP s u v).lo (eP s u v).hi:=by
 refine⟨fun i hi=>?_,fun i hi=>?_,fun i hi=>?_⟩
 ·show at_ (List.replicate _ u) i≤at_ (List.replicate _ v) i;rw [cF hi,cF hi];exact yy.1 h
 ·exact xg
 ·exact xg
theorem xB {s:PSec}{u:Rat}(h:Mag u):oR (cK s u):=fun i hi=>by
 have hi:i<s.cells.length:=by simpa [cK] using hi
 show Mag (at_ (List.replicate _ u) i);rw [cF hi];exact h
section
variable {k:World}{R:World→Value→Prop}{s:PSec}{la lb:List Int}{n0 n1 n2 d0 d1 d2 n9 d9 n10 d10:Nat}{A0 A1 A2 A9 A10:Option Addr}{gg0 gg1 gg2 gg3 rr0 rr1 rr2 rr3 rr4 rr5 rr6 rr7 ll0 ll1 ll2 ll3 ll4 ll5 ll6 ll7 w0 w1:Int}
end
section
variable {s:PSec}{x:PState}{b b' c t:PBand}{r:PRange}{us vs:List Rat}{u v:Rat}
theorem aBi:∀ {n:Nat}{b:PBand},advL s (List.replicate n r) b=advN s r n b
 | 0,_=>rfl
 | n+1,b=>by
  rw [List.replicate_succ',wY,aBi];rfl
theorem aSx (hr:gV r=0):r.s0≤r.s1∧r.a0≤r.a1:=by
 unfold gV at hr;split at hr
 ·cases hr
 ·rename_i hn;exact⟨yy.1 fun c=>hn (.inl c),yy.1 fun c=>hn (.inr c)⟩
structure Held (s:PSec) (x:PState) (c t:PBand):Prop where
 enc:Enc s c x
 ord:Und s.cells.length t.lo t.hi
 wit:Wit s t c
theorem aIi {n:Nat}(hA:gR s b r=0) (hn:n≤2000):oB s b [⟨(n:Int),r⟩]=0:=by
 have hB:=zL hA;have hR:gV r=0:=by unfold gR at hA;rwa [oh (by rw [hB];simp)]at hA
 have p0:phE (at_ [(⟨(n:Int),r⟩:PPhase)] 0)=0:=by
  show phE ⟨(n:Int),r⟩=0;unfold phE;rw [oh (show ¬ (n:Int)<0 by omega)];exact hR
 have hf:iA (fun i=>phE (at_ [(⟨(n:Int),r⟩:PPhase)] i)) [(⟨(n:Int),r⟩:PPhase)].length=0:=by
  show iA _ 1=_;unfold iA;unfold iA;rw [p0];simp
 unfold oB aAn;rw [oh (by rw [hB];simp),oh (by simp),hf];have hs:¬ 2000<eF [(⟨(n:Int),r⟩:PPhase)]:=by simp only [eF];omega
 rw [oh hs];rfl
theorem aQi {n:Nat}(hA:gR s b r=0) (hn:n≤2000):aLi s b [⟨(n:Int),r⟩]=advN s r n b:=by
 unfold aLi jN;rw [aIi hA hn,oh (by simp)];show advL s (List.replicate (n:Int).toNat r++[]) b=_;rw [qw,oc,aBi]
theorem aMh {k:World}{p:Nat}{ty:TypeId}{t0:Int}{c0 c1 c2 c3:Array Value}{K:Nat}(hb:Sy.Blk k p ty ((Value.int .i64 t0) :: (c0.toList++(c1.toList++(c2.toList++(c3.toList++([])))))).toArray) (h:RangeV (NP K) k c0 c1 c2 c3 r) :
 Lst k (some ⟨p,0,none⟩) 1 13 (PhV (NP K) k) [⟨t0,r⟩]:=by
 have hN:=aE K;have hseg:∀a (v:PPhase),PhV (NP K) k a v→Sy.Seg 13 a:=fun _ _ h=>PhV.seg hN h;have a0:PhV (NP K) k ((Value.int .i64 t0) :: (c0.toList++(c1.toList++(c2.toList++(c3.toList++([])))))).toArray (at_ [(⟨t0,r⟩:PPhase)] 0):=⟨c0,c1,c2,c3,rfl,h⟩;have hA:=ArrV.push (ArrV.empty (s:=13) (P:=PhV (NP K) k) (f:=at_ [(⟨t0,r⟩:PPhase)])) (hseg _ _ a0).1 a0;refine⟨rfl,((Value.int .i64 t0) :: (c0.toList++(c1.toList++(c2.toList++(c3.toList++([])))))).toArray,fun q u hq=>⟨p,0,rfl,Sy.heap_lt hb,by rw [qb];exact cel hb hq⟩,?_,?_⟩
 ·have:=hA.rowC hseg;simpa using this
 ·simpa using hA
end
section
variable {N N':World→Array Value→Rat→Prop}{k:World}{A B C:Option Addr}{n n' n'':Nat}{s:PSec}
theorem RateV.mono {cs:Array Value}{r:PRate}(h:RateV N k cs r) (hN:∀cs q,N k cs q→N' k cs q):RateV N' k cs r:=by
 obtain⟨c0,c1,e,h0,h1⟩:=h;exact⟨c0,c1,e,hN _ _ h0,hN _ _ h1⟩
theorem SecV.mono (h:SecV N k A n B n' C n'' s) (hN:∀cs q,N k cs q→N' k cs q):SecV N' k A n B n' C n'' s:=
 ⟨h.mats.mono fun _ _ ⟨A,n,c,B,n',c',c0,c1,e,l0,l1,h0,h1⟩=>⟨A,n,c,B,n',c',c0,c1,e,l0.mono fun _ _ h=>RateV.mono h hN,l1.mono fun _ _ h=>RateV.mono h hN,hN _ _ h0,hN _ _ h1⟩,
   h.cells.mono fun _ _ ⟨c0,c1,c2,e,h0,h1,h2⟩=>⟨c0,c1,c2,e,hN _ _ h0,hN _ _ h1,hN _ _ h2⟩,h.links.mono fun _ _ ⟨c0,e,h0⟩=>⟨c0,e,hN _ _ h0⟩⟩
end
def U8P (a:Array Value) (v:Int×Int):Prop:=(0≤v.1∧v.1≤255)∧(0≤v.2∧v.2≤255)∧a=#[.int .u8 v.1,.int .u8 v.2]
theorem aNd {e:Int}{x:PState}(h:e=0):tG e x=x:=oh (by simp [h])
theorem aEy {s:PSec}{x:PState}(hE:aF s=0) (hz:sized s x):eA s x=0:=by unfold eA;rw [oh (by simp [hE]),if_neg (by simpa using hz)]
theorem kP {p:Nat→Bool}:∀n:Nat,(eQ p n=n∧∀i,i<n→p i=false)∨(eQ p n<n∧p (eQ p n)=true∧∀i,i<eQ p n→p i=false)
 | 0=>.inl ⟨rfl,fun _ hi=>absurd hi (Nat.not_lt_zero _)⟩
 | n+1=>by
  rcases kP (p:=p) n with ⟨h1,h2⟩|⟨h1,h2,h3⟩
  ·cases hp:p n with
   | true=>
    have e:eQ p (n+1)=n:=gK h2 hp (kz _);rw [e];exact .inr ⟨kz _,hp,h2⟩
   | false=>
    have h:∀i,i<n+1→p i=false:=fun i hi=>by
     by_cases e:i=n
     ·rw [e];exact hp
     ·exact h2 i oq
    exact .inl ⟨gJ h,h⟩
  ·have e:eQ p (n+1)=eQ p n:=gK h3 h2 oq;rw [e];exact .inr ⟨oq,h2,h3⟩
section
variable {s:PSec}{x:PState}{b:PBand}{r:PRange}{u v:Rat}{f:Rat→Rat}
theorem aEf (hE:aF s=0) (h:aR s x):aR s (cM f s x u v):=fun g=>h fun i hi hc=>g i hi (by
 have:at_ (cM f s x u v).spoil i=gW s x i:=by
  show at_ ((List.range _).map (gW s x)) i=_;rw [aN hi]
 have:=(aVg (x:=x) hE hi).2
 grind)
theorem oL (hE:aF s=0) {j:Nat}:∀ {k:Nat},j≤k→aR s (advN s r j b).hi→aR s (advN s r k b).hi
 | 0,hjk,h=>by
  obtain rfl:j=0:=oq
  exact h
 | k+1,hjk,h=>by
  by_cases e:j=k+1
  ·rw [←e];exact h
  ·exact aEf hE (oL hE (k:=k) oq h)
theorem aRc (hE:aF s=0) (hb:¬ aR s b.hi) {N:Nat}(hN:N≤12):N≤lD s b r 12↔¬ aR s (advN s r N b).hi:=by
 rcases kP (p:=fun k=>decide (aR s (advN s r (k+1) b).hi)) 12 with ⟨h1,h2⟩|⟨h1,h2,h3⟩
 ·have e:lD s b r 12=12:=h1;rw [e];refine⟨fun _ h=>?_,fun _=>hN⟩;cases N with
  | zero=>exact hb h
  | succ k=>exact ov (h2 k oq) h
 ·have e:lD s b r 12<12:=h1;have h2:aR s (advN s r (lD s b r 12+1) b).hi:=ow h2;refine⟨fun hl h=>?_,fun h=>?_⟩
  ·cases N with
   | zero=>exact hb h
   | succ k=>exact ov (h3 k (show k<lD s b r 12 by omega)) h
  ·by_cases hl:N≤lD s b r 12
   ·exact hl
   ·exact absurd (oL hE (show lD s b r 12+1≤N by omega) h2) h
theorem aVz (hE:aF s=0) (hc:kM s b r 12=0) {N:Nat}(hN:N≤12) {e:Int}(he:e=if aR s (advN s r N b).hi then 61 else 0) :
 ((sI s b r 12).2=0→decide ((sI s b r 12).1 ≥ (N:Int))=(e == 0))∧((sI s b r 12).2≠0→(e == 0)=false):=by
 unfold sI;rw [oh (by simp [hc])]
 by_cases hb:aR s b.hi
 ·rw [og hb];have h:aR s (advN s r N b).hi:=oL hE (j:=0) (jh _) hb;rw [og h]at he;subst he;exact⟨fun h=>absurd h oz,fun _=>rfl⟩
 ·rw [oh hb];refine⟨fun _=>?_,fun h=>absurd rfl h⟩;have hi:=aRc hE hb (r:=r) hN;show decide (((lD s b r 12:Nat):Int) ≥ (N:Int))=_
  by_cases h:aR s (advN s r N b).hi
  ·rw [og h]at he;subst he;have:¬ N≤lD s b r 12:=fun g=>hi.1 g h;exact decide_eq_false oq
  ·rw [oh h]at he;subst he;have:=hi.2 h;exact decide_eq_true oq
theorem aKt (hc:kM s b r 12=0):(lK s b r 12=aIs 5∧¬ fD s (advN s r 12 b).lo)∨
 ∃N:Nat,N≤12∧lK s b r 12=⟨N,aTu s b r N,aCn s (advN s r N b).hi,advN s r N b,if aR s (advN s r N b).hi then 61 else 0⟩∧fD s (advN s r N b).lo∧∀k,k<N→¬ fD s (advN s r k b).lo:=by
 unfold lK;rw [oh (by simp [hc])];rcases kP (p:=fun k=>decide (fD s (advN s r k b).lo)) 13 with ⟨h1,h2⟩|⟨h1,h2,h3⟩
 ·have e:tD s b r (12:Int).toNat=13:=h1;rw [e,og oz];exact .inl ⟨rfl,ov (h2 12 oz)⟩
 ·have e:tD s b r (12:Int).toNat<13:=h1;rw [oh oq];exact .inr ⟨tD s b r (12:Int).toNat,oq,rfl,ow h2,fun k hk=>ov (h3 k hk)⟩
theorem aNy (hE:aF s=0) (h:¬ fD s x):fU s x<s.cells.length∧at_ x.cure (fU s x)<xQ s (fU s x):=by
 have hn:0<s.cells.length:=by have:=aQ hE;unfold aY at this;omega
 have hl:fU s x<s.cells.length:=rC hn;have h1:at_ (bV s x) (fU s x)<1:=zd.1 fun g=>h ((aCk hE hn).1 g);refine⟨hl,?_⟩;unfold bV at h1;rw [aN hl]at h1;exact (yX (rE hE hl).1).1 h1
end
theorem aSh {cs:Array Value}{j:Nat}{a c:Value}(h0:cs[j*2]?=some a) (h1:cs[j*2+1]?=some c):Sy.pickL cs (Int.toNat (j:Int)*2+0) 2=[a,c]:=by
 show [(cs[j*2+0+0]?).getD (.bool false),(cs[j*2+0+1]?).getD (.bool false)]=_;rw [show j*2+0+0=j*2 from rfl,show j*2+0+1=j*2+1 from rfl,h0,h1];rfl
open IntKind (wrap)
theorem aPy {s:PSec}{b:PBand}{r:PRange}(h:gR s b r=0):kM s b r 12=0:=by
 unfold kM;rw [oh (by simp [h]),if_neg oz]
theorem bBz {x y:Int}(h:x=y):¬ (x == y)=false:=by simp [h]
section
variable {k:World}{R:World→Value→Prop}{s:PSec}{cs:Array Value}{n0 n1 n2 d0 d1 d2:Nat}{A0 A1 A2:Option Addr}{gg0 gg1 gg2 gg3 rr0 rr1 rr2 rr3 rr4 rr5 rr6 rr7:Int}
theorem zW (hs:SecA k A0 n0 A1 n1 A2 n2 s) (g0:In64 gg0) (g1:In64 gg1) (g2:In64 gg2) (g3:In64 gg3) (r0:In64 rr0) (r1:In64 rr1) (r2:In64 rr2) (r3:In64 rr3) (r4:In64 rr4) (r5:In64 rr5) (r6:In64 rr6) (r7:In64 rr7) (hcs:Seg 24 cs) (hu8:∀i,i<24→∃n:Int,(0≤n∧n≤255)∧cs[i]?=some (.int .u8 n)) (C:∀k',Up k k'→R k' (.bool true)) :
 Cl k 9 #[S3 A0 n0 d0 A1 n1 d1 A2 n2 d2,.agg #[.int .i64 gg0,.int .i64 gg1],.agg #[.int .i64 gg2,.int .i64 gg3],.agg #[.int .i64 rr0,.int .i64 rr1,.int .i64 rr2,.int .i64 rr3,.int .i64 rr4,.int .i64 rr5,.int .i64 rr6,.int .i64 rr7],.agg cs] R:=by
 intro k0 u0;replace hs:=hs.up u0;replace C:=fun k' u=>C k' (u0.trans u);have aw:∀k1,Up k0 k1→Cl k1 13 #[] fun k8 r7=>∃b10,some (Value.bool b10)=some r7∧∀k9,Up k8 k9→R k9 (Value.bool b10):=
  fun k1 u1=>aOz fun k3 u3=>⟨_,rfl,fun k4 u4=>C k4 ((u1.trans u3).trans u4)⟩
 have P1:=aE 1;have P15:=aE 15;have P25:=aE 25;refine aVw hcs (aGe (most:=4) (d:=3) hs g0 g1 g2 g3 r0 r1 r2 r3 r4 r5 r6 r7 oz oz fun k1 B0 m0 e0 B1 m1 e1 B2 m2 e2 B3 m3 e3 B4 m4 e4 B5 m5 e5 B6 m6 e6 B7 m7 e7 B8 m8 e8 c0 c1 c2 c3 f u1 s0 s1 s2 s3 hf=>⟨_,_,_,_,_,_,_,_,_,_,_,_,_,_,_,_,_,_,_,_,_,_,_,_,_,_,_,c0,s0,c1,s1,c2,s2,c3,s3,f,rfl,fun _=>aw k1 u1,fun f1=>?_⟩);obtain⟨hfew,hadv,hlh,pS,pL,pH,pR⟩:=hf (nP f1);have hb0:eG s (eP s (ofQ gg0 gg1) (ofQ gg2 gg3))=0:=zL hadv;have hE:aF s=0:=(mH hb0).1;have hc24:s.cells.length≤24:=by have:=aQ hE;unfold aY at this;omega
 have mr:MagR ⟨ofQ rr0 rr1,ofQ rr2 rr3,ofQ rr4 rr5,ofQ rr6 rr7⟩:=⟨mP r0 r1,mP r2 r3,mP r4 r5,mP r6 r7⟩;have hrr:gV ⟨ofQ rr0 rr1,ofQ rr2 rr3,ofQ rr4 rr5,ofQ rr6 rr7⟩=0:=by
  have:=hadv;unfold gR at this
  rwa [oh (by rw [hb0];simp)]at this
 have bmag:oR (eP s (ofQ gg0 gg1) (ofQ gg2 gg3)).lo∧oR (eP s (ofQ gg0 gg1) (ofQ gg2 gg3)).hi:=⟨xB (mP g0 g1),xB (mP g2 g3)⟩;have hbr:=aSx hrr;have bund:=aJp (s:=s) hlh;obtain⟨_,zl0,zh0,_⟩:=mH hb0;generalize hbb:eP s (ofQ gg0 gg1) (ofQ gg2 gg3)=b at *
 generalize hr:(⟨ofQ rr0 rr1,ofQ rr2 rr3,ofQ rr4 rr5,ofQ rr6 rr7⟩:PRange)=r at *
 have hcE:=aPy hadv;have hd:aF s=0→∀i,i<s.cells.length→(nbm s.links (i:Nat)).length≤3:=fun hE i hi=>by have:=aIq hE hi;have:=hfew.cells;omega
 have ok0:OkB s b:=⟨zl0,zh0,bmag.1,bmag.2⟩;have okN:=fun j=>OkB.advN hE mr ok0 j;refine aPs (K:=1) (T:=1) (W:=25) (d:=3) (b:=b) (r:=r) (most:=12) pS pL pH pR hd bmag.1 bmag.2 mr oz oz oz oz (fun _=>by unfold aJ;decide) oz (fun _=>by decide) fun k6 E0 q0 h0 E1 q1 h1 E2 q2 h2 E3 q3 h3 E4 q4 h4 E5 q5 h5 u6 el eh=>⟨_,_,_,_,_,_,_,_,_,_,_,_,_,_,_,_,_,_,_,_,_,_,rfl,?_⟩;have v6:=u1.trans u6
 -- a phase of j steps
 have hfol:∀(j:Nat) (t0:Int),j≤12→t0=(j:Int)→∀ {p:Nat}{k7 k8:World},Up k6 k7→Up k7 k8→Sy.Blk k7 p 141 ((Value.int .i64 t0) :: (c0.toList++(c1.toList++(c2.toList++(c3.toList++([])))))).toArray→∀ {R':World→Value→Prop},
  (∀k' X0 x0 y0 X1 x1 y1 X2 x2 y2 X3 x3 y3 X4 x4 y4 X5 x5 y5,Up k8 k'→StateV (NP 25) k' X0 x0 X1 x1 X2 x2 (advN s r j b).lo→StateV (NP 25) k' X3 x3 X4 x4 X5 x5 (advN s r j b).hi→R' k' (.tuple #[S6 X0 x0 y0 X1 x1 y1 X2 x2 y2 X3 x3 y3 X4 x4 y4 X5 x5 y5,.int .i64 0]))→
  CallsG Tryz.prog 37 #[S3 B0 m0 e0 B1 m1 e1 B2 m2 e2,S6 B3 m3 e3 B4 m4 e4 B5 m5 e5 B6 m6 e6 B7 m7 e7 B8 m8 e8,.slice (some ⟨p,0,none⟩) 1 1] k8 R':=by
  intro j t0 hj ht p k7 k8 u7 u8 hblk R' C';subst ht;have w8:=u6.trans (u7.trans u8);have hph:=rF P1 (aMh hblk (RangeV.up P1 pR (u6.trans u7))) u8;have hsum:(eF [(⟨(j:Int),r⟩:PPhase)]).toNat=j:=by simp [eF]
  refine aKe (K:=1) (T:=1) (W:=25) (d:=3) (b:=b) (l:=[⟨(j:Int),r⟩]) (SecV.up P1 pS w8) (StateV.up P1 pL w8) (StateV.up P1 pH w8) hph hd bmag.1 bmag.2 (fun q hq=>?_) oz oz oz oz oz (fun _=>by rw [hsum];unfold aJ;omega) (fun _=>by rw [hsum];omega) (fun k66 Q0 r0 ee0 Q1 r1 ee1 Q2 r2 ee2 Q3 r3 ee3 Q4 r4 ee4 Q5 r5 ee5 u66 fl fh=>?_) k8 (Up.refl _)
  ·have:q=0:=by simp at hq;omega
   subst this;exact mr
  rw [aIi hadv oq];rw [aQi hadv oq]at fl fh;exact C' _ _ _ _ _ _ _ _ _ _ _ _ _ _ _ _ _ _ _ u66 fl fh
 have en:=pS.cells.1;have wd:∀ {k:World}{T:Nat}{Y0 Y1 Y2 Y3 Y4 Y5:Option Addr}{y0 y1 y2 y3 y4 y5:Nat}{c:PBand},StateV (NP T) k Y0 y0 Y1 y1 Y2 y2 c.lo→StateV (NP T) k Y3 y3 Y4 y4 Y5 y5 c.hi→OkB s c→(y0=m1∧y1=m1∧y2=m1)∧(y3=m1∧y4=m1∧y5=m1):=fun hl hh ok=>by
  obtain⟨a1,a2,a3⟩:=ok.lo;obtain⟨a4,a5,a6⟩:=ok.hi;have t1:=hl.temp.1;have t2:=hl.cure.1;have t3:=hl.spoil.1;have t4:=hh.temp.1;have t5:=hh.cure.1;have t6:=hh.spoil.1;exact⟨⟨oq,oq,oq⟩,⟨oq,oq,oq⟩⟩
 rcases aKt hcE with ⟨hc,hnd⟩|⟨N,hN,hc,hdn,hbef⟩
 ·rw [hc];refine⟨fun _ p k7 u7 hblk k8 u8=>hfol 12 12 oz oz u7 u8 hblk fun k9 X0 x0 y0 X1 x1 y1 X2 x2 y2 X3 x3 y3 X4 x4 y4 X5 x5 y5 u9 fl fh=>⟨_,_,_,_,_,_,_,_,_,_,_,_,_,_,_,_,_,_,_,rfl,fun _=>?_,fun h=>absurd h oz⟩,fun h=>absurd h oz⟩;obtain⟨⟨a1,a2,a3⟩,⟨a4,a5,a6⟩⟩:=wd fl fh (okN 12);refine tN a1 a2 a3 a4 a5 a6 fun k11 u11=>⟨_,rfl,fun _=>?_,fun h=>absurd h oz⟩;have w11:=u7.trans (u8.trans (u9.trans u11));exact aAf (SecV.up P1 pS (u6.trans w11)) (StateV.up P25 fl u11) hE (okN 12).lo oz oz oz oz fun k13 u13=>⟨_,rfl,fun _=>aw k13 (v6.trans (w11.trans u13)),fun h=>absurd (ow (nP h)) hnd⟩
 rw [hc]at el eh;generalize h30:(lK s b r 12).steps=n30;generalize h31:(lK s b r 12).slow=n31;generalize (lK s b r 12).fast=n32;generalize h39:(lK s b r 12).e=n39;rw [hc]at h30 h31 h39;simp only at h30 h31 h39 el eh;have hspl:(if aR s (advN s r N b).hi then (61:Int) else 0)=61∧aR s (advN s r N b).hi∨(if aR s (advN s r N b).hi then (61:Int) else 0)=0∧¬ aR s (advN s r N b).hi:=by
  by_cases h:aR s (advN s r N b).hi
  ·exact .inl ⟨og h,h⟩
  ·exact .inr ⟨oh h,h⟩
 have hsb:decide (aR s (advN s r N b).hi)=(n39 == 61):=by
  rcases hspl with ⟨h,h'⟩|⟨h,h'⟩
  ·rw [←h39,h,decide_eq_true h'];rfl
  ·rw [←h39,h,decide_eq_false h'];rfl
 have hlong:=aVz hE hcE hN h39.symm;rw [h30]at hlong;have h39c:n39=61∨n39=0:=by rcases hspl with ⟨h,_⟩|⟨h,_⟩ <;> rw [←h39,h] <;> simp
 clear hspl h39;have hmin:(if (decide ((6:Int)<n30))=true then 6 else n30)=((min N 6:Nat):Int):=by
  subst h30
  by_cases h:(6:Int)<(N:Int)
  ·rw [og (decide_eq_true h)];omega
  ·rw [oh (by simpa using h)];omega
 replace hlong:=fun _:True=>hlong;replace h39c:=fun _:True=>h39c;have up15:∀ {k:World},∀cs q,NP 1 k cs q→NP 15 k cs q:=fun _ _ h=>h.mono oz;have pS15:=SecV.mono (N':=NP 15) pS up15;have pH15:=pH.mono (N':=NP 15) up15;have rw6:tH 15 3 15 6≤100000000:=oz
 obtain⟨⟨a1,a2,a3⟩,⟨a4,a5,a6⟩⟩:=wd el eh (okN N);obtain⟨⟨b1,b2,b3⟩,⟨b4,b5,b6⟩⟩:=wd pL pH ok0;refine⟨fun h=>absurd (eT h) (by rcases h39c trivial with h|h <;> rw [h] <;> decide),fun _=>⟨fun k vs=>vs=[.bool false],⟨fun hn0=>⟨fun h=>?_,fun _=>⟨fun h=>?_,fun _=>⟨fun h=>?_,fun _=>?_⟩⟩⟩,fun _=>⟨fun h=>?_,fun _=>⟨fun h=>?_,fun _=>?_⟩⟩⟩,?_⟩⟩
 ·rcases h39c trivial with e|e
  ·rw [e]at h;cases h
  ·rw [e]at hn0;cases hn0
 ·have:=ow h;omega
 ·have:=ow h;omega
 rotate_left
 ·have:=ow h;omega
 ·have:=ow h;omega
 rotate_right
 iterate 2
  ·refine tN a1 a2 a3 a4 a5 a6 fun k24 u24=>⟨_,rfl,fun h=>absurd h oz,fun _=>?_⟩;exact tN b1 b2 b3 b4 b5 b6 fun k27 u27=>⟨_,rfl,fun k28 u28=>rfl⟩
 rintro k27 vs27 v27 rfl;refine⟨false,rfl,fun h=>(by cases h),fun _=>?_⟩;rw [hmin];clear hmin
 refine⟨decide_eq_true oq,decide_eq_true oq,decide_eq_true oq,fun m k vs=>∃(j:Nat) (X0:Option Addr) (f0 i0:Nat) (X1:Option Addr) (f1 i1:Nat) (X2:Option Addr) (f2 i2:Nat) (x:PState),j+m=min N 6∧vs=[.int .i64 j,S3 X0 f0 i0 X1 f1 i1 X2 f2 i2]∧
  StateV (NP (tH 15 3 15 j)) k X0 f0 X1 f1 X2 f2 x∧sized s x∧Enc s (advN s r j b) x,
  ⟨min N 6,fun k29 u29=>⟨0,_,_,_,_,_,_,_,_,_,b.hi,oq,rfl,StateV.up P15 pH15 (u6.trans (v27.trans u29)),zh0,⟨bund,Und.refl⟩⟩⟩,?_⟩
 rintro m k29 vs u29 ⟨j,X0,f0,i0,X1,f1,i1,X2,f2,i2,x,hm,rfl,pX,zX,hX⟩;have v29:=v27.trans u29;refine⟨j,_,_,_,_,_,_,_,_,_,rfl,fun hlt=>?_,fun hge=>?_⟩
 ·have hlt:=aH hlt;have hj6:j+1≤6:=oq
  obtain⟨N0,⟨q0',q1'⟩,hN0⟩:=hu8 (j*2) oq;obtain⟨N1,⟨q2',q3'⟩,hN1⟩:=hu8 (j*2+1) oq;refine⟨decide_eq_true oq,decide_eq_true oq,N0,N1,by rw [aSh hN0 hN1],?_⟩;have pR29:=RangeV.up P1 pR (u6.trans v29);refine aCw (K:=1) pR29.s0 pR29.s1 oz oz q0' q1' fun k31 du u31 hdu=>⟨du,hdu.seg,rfl,?_⟩;refine aCw (K:=1) (pR29.a0.up u31) (pR29.a1.up u31) oz oz q2' q3' fun k33 dv u33 hdv=>⟨dv,hdv.seg,rfl,?_⟩;have bu:=aRj hbr.1 q0' q1';have bv:=aRj hbr.2 q2' q3';have hbX:=aEy hE zX;have rwi:=kW (K:=15) (d:=3) (T:=15) (i:=j+1) (j:=6) hj6;have rw0:=kW (K:=15) (d:=3) (T:=15) (i:=0) (j:=j) (jh _);have y33:=u31.trans u33;refine aJy (K:=15) (T:=tH 15 3 15 j) (d:=3) (SecV.up P15 pS15 (u6.trans (v29.trans y33))) (StateV.up (aE _) pX y33) (hdu.up u33) hdv hd oz (qk oz rw0) oz (qk rwi (qk rw6 oz)) oz fun k35 G0 a0' j0 G1 a1' j1 G2 a2' j2 u35 hst=>⟨_,_,_,_,_,_,_,_,_,_,rfl,fun f=>absurd hbX (cE f),fun _=>?_⟩;rw [aNd hbX]at hst;have zX':sized s (bH s x (aLz r.s0 r.s1 N0) (aLz r.a0 r.a1 N1)):=wF;obtain⟨z1,z2,z3⟩:=id zX';have t1:=hst.temp.1;have t2:=hst.cure.1;have t3:=hst.spoil.1;refine aBd (t1.trans (z1.trans en.symm)) (t2.trans (z2.trans en.symm)) (t3.trans (z3.trans en.symm)) fun k38 u38=>⟨_,rfl,fun h=>absurd h oz,fun _ k40 u40=>?_⟩;exact⟨m-1,oq,j+1,_,_,_,_,_,_,_,_,_,_,oq,by rw [aC oq],StateV.up (aE _) hst (u38.trans u40),zX',aQf hE hX bu bv⟩
 have hge:=aG hge;have hjm:j=min N 6:=oq
 have rwj:tH 15 3 15 j≤100000000:=qk (kW oq) rw6;refine⟨fun k vs=>vs=[.bool false],⟨fun h6=>aAf (K:=15) (T:=tH 15 3 15 j) (SecV.up P15 pS15 (u6.trans v29)) pX hE zX oz (qk oz (kW (i:=0) (jh _))) oz rwj fun k42 u42=>⟨_,rfl,fun h=>?_,fun _ k44 u44=>?_⟩,fun h6 k44 u44=>?_⟩,?_⟩
 ·have h6:=ow h6;have hjN:j=N:=oq
  have hdx:fD s x:=aLc hX.1 (by rw [hjN];exact hdn);exact absurd hdx (ov (sL h))
 iterate 2
  ·have v44:Up k6 k44:=by first|exact v29.trans (u42.trans u44)|exact v29.trans u44
   refine aAf (K:=1) (T:=25) (SecV.up P1 pS (u6.trans v44)) (StateV.up P25 el v44) hE (okN N).lo oz oz oz oz (fun k45 u45=>⟨_,rfl,fun h=>absurd hdn (ov (sL h)),fun _=>?_⟩) k44 (Up.refl _);exact aLv (K:=1) (T:=25) (SecV.up P1 pS (u6.trans (v44.trans u45))) (StateV.up P25 eh (v44.trans u45)) hE (okN N).hi oz oz oz oz fun k48 u48=>⟨_,rfl,fun k49 u49=>by rw [hsb];simp⟩
 rintro k48 vs48 u48' rfl;refine⟨false,rfl,fun h=>(by cases h),fun _=>?_⟩;have v48:=v29.trans u48';have w48:=u6.trans v48;refine aUw (K:=1) (T:=1) (d:=3) (b:=b) (r:=r) (most:=12) (SecV.up P1 pS w48) (StateV.up P1 pL w48) (StateV.up P1 pH w48) (RangeV.up P1 pR w48) hd bmag.1 bmag.2 mr oz oz oz oz (fun _=>by unfold aJ;decide) oz fun k50 u50=>⟨_,_,rfl,fun k vs=>vs=[.bool false],⟨fun hf k51 u51=>by rw [(hlong trivial).1 (eT hf)];simp,fun hf k51 u51=>by rw [(hlong trivial).2 fun e=>bBz e hf];rfl⟩,?_⟩;rintro k51 vs51 u51 rfl;refine⟨false,rfl,fun h=>(by cases h),fun _=>?_⟩;have v51:=v48.trans (u50.trans u51);refine⟨fun hz=>⟨fun _=>aw k51 (v6.trans v51),fun h=>?_⟩,fun hz p k57 u57 hblk k58 u58=>?_⟩
 ·have hz:=eT hz;have:N=0:=oq
  subst this;rw [←h31]at h;cases h
 have hz:N≠0:=fun e=>by subst e;rw [←h30]at hz;cases hz
 obtain⟨M,rfl⟩:∃M,N=M+1:=⟨N-1,oq⟩;have h31:((fU s (advN s r M b).lo:Nat):Int)=n31:=h31;have hwr:wrap .i64 (n30-1)=((M:Nat):Int):=by rw [vr];omega
 obtain⟨hsl,hlt⟩:=aNy hE (hbef M (kz _));refine hfol M _ oq hwr (v51.trans u57) u58 hblk fun k59 V0 g0 j0 V1 g1 j1 V2 g2 j2 V3 g3 j3 V4 g4 j4 V5 g5 j5 u59 fl fh=>⟨_,_,_,_,_,_,_,_,_,_,_,_,_,_,_,_,_,_,_,rfl,fun _=>?_,fun h=>absurd h oz⟩;obtain⟨⟨d1',d2',d3'⟩,⟨d4',d5',d6'⟩⟩:=wd fl fh (okN M);refine tN d1' d2' d3' d4' d5' d6' fun k61 u61=>⟨_,rfl,fun _=>⟨fun _=>⟨rfl,fun _=>?_,fun h=>?_⟩,fun h=>?_⟩,fun h=>absurd h oz⟩
 rotate_left
 ·exact absurd (by rw [←h31,en];exact Int.ofNat_lt.2 hsl) (ov h)
 ·exact absurd (by rw [←h31];exact Int.natCast_nonneg _) (ov h)
 have w61:=v51.trans (u57.trans (u58.trans (u59.trans u61)));generalize fU s (advN s r M b).lo=q at h31 hsl hlt;subst h31;have zc:=(okN M).lo.2.1;obtain⟨t,_,ht,ta,tb,tr,_⟩:=(StateV.up P25 fl u61).cure.el (i:=q) (by rw [zc];exact hsl) oz;obtain⟨a,_,⟨c0',c1',c2',rfl,q0,q1,q2⟩,ha,hb,_,hrd⟩:=(SecV.up P1 pS (u6.trans w61)).cells.el hsl oz;obtain⟨hm0,hm1,_⟩:=eM hE hsl;have hmi:(at_ s.cells q).m=(((at_ s.cells q).m.toNat:Nat):Int):=(Int.toNat_of_nonneg hm0).symm;obtain⟨a',_,⟨D,p1,r1,F,p2,r2,c4,c5,rfl,l0,l1,s0,s1⟩,ha',hb',_,hr'⟩:=(SecV.up P1 pS (u6.trans w61)).mats.el (i:=(at_ s.cells q).m.toNat) ((Int.toNat_lt hm0).2 hm1) oz;rw [←hmi]at hb' hr'
 refine⟨ta,tb,t,ht.seg,tr k61 (Up.refl _),ha,hb,ha,hb,_,?_,ha',hb',ha',hb',c4,s0.seg,hr' k61 c4 2 3 (Up.refl _) s0.seg.1 (fun q u h=>by
  rw [jf,xq 2 q,jc,jc,←jf]
  exact fS h),?_⟩
 ·exact hrd k61 #[.int .i64 (at_ s.cells q).m] 0 1 (Up.refl _) rfl fun q u h=>by
   cases q with
   | zero=>simpa using h
   | succ q=>simp at h
 exact zH (K:=26) (ht.mono oz) (s0.mono oz) oz oz fun k63 u63=>⟨_,rfl,fun _=>aw k63 (v6.trans (w61.trans u63)),fun h=>absurd hlt (by rw [kG]at h;exact ov h)⟩
end
