/- Several texts in one. (Printed by prep.py.) -/
import Derived.Test.YtpeakfmjibfkpaaGreatLoFW
import Derived.Test.YtpeakfmjibfkpaaGreatLoLP
namespace Go.Proofs.YtpeakfmjibfkpaaGreat
open Go.RowKit Num W32
open Sy (Up Sees CallsG Seg dead)
section
variable {k kk k' w w' W:World}{a c:Nat}
theorem jA (h:Sees k w) (b:Below w.heap.size w W):Up k W:=
 ⟨b.os.trans h.os,b.tape.trans h.tape,b.output.trans h.output,by rw [←h.size];exact b.size,fun g o hg hne=>stay (h.live g o hg hne) b⟩
theorem aZr (hb:Below k.heap.size k kk) (u:Up kk w') (u':Up k k') (hs:k'.heap.size=w'.heap.size) (hn:∀g,k.heap.size≤g→k'.heap[g]?=w'.heap[g]?):Up kk k':=
 ⟨u'.os.trans hb.os.symm,u'.tape.trans hb.tape.symm,u'.output.trans hb.output.symm,by rw [hs];exact u.size,fun g o hg hne=>by
   by_cases h:g<k.heap.size
   ·exact u'.live g o ((hb.block g h).symm.trans hg) hne
   ·rw [hn g oq];exact u.live g o hg hne⟩
def Dk (k:World) (a c g:Nat):Prop:=k.heap[g]?=some dead∨g=a∨g=c
theorem lC {ca cc:Array Value}{t t':TypeId}(hs:Sees k w) (hb:Below w.heap.size w W) (ha:W.heap[a]?=some (.cells ca t (0,0))) (hc:W.heap[c]?=some (.cells cc t' (0,0))) (na:∀u∈ca.toList,u.noWord=true) (nc:∀u∈cc.toList,u.noWord=true) :
 ∀g,Dk k a c g→g<W.heap.size→∃cs t fr,W.heap[g]?=some (.cells cs t fr)∧∀u∈cs.toList,u.noWord=true:=by
 rintro g (h|rfl|rfl) _
 ·obtain⟨cs,t,fr,h1,h2⟩:=hs.dark g h;exact⟨cs,t,fr,stay h1 hb,h2⟩
 ·exact⟨_,_,_,ha,na⟩
 ·exact⟨_,_,_,hc,nc⟩
theorem yJ (u:Up kk W) (hb:Below k.heap.size k kk) (ha:∀o,kk.heap[a]?=some o→o=dead) (hc:∀o,kk.heap[c]?=some o→o=dead):Up kk (MK (Dk k a c) W):=
 aXg u fun g o hg hne=>by
  rintro (h|rfl|rfl)
  ·have:=(hb.block g (Sy.heap_lt h)).trans h;rw [hg]at this;exact hne (Option.some.inj this)
  ·exact hne (ha o hg)
  ·exact hne (hc o hg)
theorem oD (u:Up k W) (ha:k.heap.size≤a) (hc:k.heap.size≤c):Below k.heap.size k (MK (Dk k a c) W):=
 ⟨u.os,u.tape,u.output,by rw [mk_size];exact u.size,fun g hg=>by
   have hw:=Nat.lt_of_lt_of_le hg u.size
   by_cases h:k.heap[g]?=some dead
   ·rw [mX (.inl h) hw,h]
   ·rw [iP (by rintro (h'|rfl|rfl);exact h h';omega;omega)];rw [Array.getElem?_eq_getElem hg]at h ⊢
    exact u.live g _ (Array.getElem?_eq_getElem hg) fun e=>h (by rw [e])⟩
theorem oG {P:Program}{f:FuncId}{args:Array Value}{D:Nat→Prop}{R:World→Value→Prop}(hD:∀g,D g→g<W.heap.size→∃cs t fr,W.heap[g]?=some (.cells cs t fr)∧∀u∈cs.toList,u.noWord=true) (u:Up kk (MK D W)) (h:∀k0,Up kk k0→CallsG P f args k0 R) :
 Calls P f args W fun e w'=>∃v k',e=.returned v∧Sees k' w'∧Below (MK D W).heap.size (MK D W) k'∧Below W.heap.size W w'∧R k' v:=h _ u W (aVf hD)
end
theorem aVg {D:Nat→Prop}{W:World}:Up (MK D W) W:=
 ⟨rfl,rfl,rfl,by rw [mk_size];exact oy _,fun g o hg hne=>by
   by_cases c:D g
   ·rw [mX c (by have:=Sy.heap_lt hg;rwa [mk_size]at this)]at hg;cases hg;exact absurd rfl hne
   ·rwa [iP c]at hg⟩
theorem aZs {kk W:World}{g:Nat}{t:TypeId}{cs:Array Value}(u:Up kk W) (h:kk.heap[g]?=some dead):Up kk (Sy.World.putBlk W g t cs):=
 ⟨u.os,u.tape,u.output,by rw [uP];exact u.size,fun p o hp hne=>by
   rw [qH fun e=>by subst e;rw [h]at hp;exact hne (Option.some.inj hp).symm];exact u.live p o hp hne⟩
theorem oR {kk:World}{g:Nat}(h:kk.heap[g]?=some dead):∀o,kk.heap[g]?=some o→o=dead:=fun o ho=>by rw [h]at ho;exact (Option.some.inj ho).symm
def rc (c:RCell):Array Value:=#[.bool c.b,.slice c.A c.n c.c,.slice c.D c.d c.e]
theorem aZh (q:Nat→Nat→RCell) (j:Nat):aCw q j=.agg ((rc (q j 0)).toList++((rc (q j 1)).toList++((rc (q j 2)).toList++((rc (q j 3)).toList++([]))))).toArray:=rfl
theorem zX {k:World}{cs:Array Value}{x:Rat}{K:Nat}(h:RatV k cs x K):∃c,cs=rc c:=by
 obtain⟨g,A,n,c,D,d,e,e1,_⟩:=h;exact⟨⟨g,A,n,c,D,d,e⟩,e1⟩
theorem aLp {k w:World}{A9:Option Addr}{n9 K:Nat}{l:List PPhase}(hp:Lst k A9 n9 13 (PhV (NP K) k) l) (h0:∀j,j<l.length→0≤(at_ l j).steps) (hw:Sees k w) :
 ∃q:Nat→Nat→RCell,(∀j,j<n9→RangeV (NP K) k (rc (q j 0)) (rc (q j 1)) (rc (q j 2)) (rc (q j 3)) (at_ l j).r)∧PhsAt w A9 n9 (fun j=>(at_ l j).steps.toNat) q w.heap.size:=by
 obtain⟨hn,xs,hin,_,hv⟩:=hp;have hx:∀j,∃f:Nat→RCell,j<n9→RangeV (NP K) k (rc (f 0)) (rc (f 1)) (rc (f 2)) (rc (f 3)) (at_ l j).r∧xs[j*13]?=some (.int .i64 (at_ l j).steps)∧∀i v,((rc (f 0)).toList++((rc (f 1)).toList++((rc (f 2)).toList++((rc (f 3)).toList++([]))))).toArray[i]?=some v→xs[j*13+(i+1)]?=some v:=fun j=>by
  by_cases hj:j<n9
  ·obtain⟨a,_,⟨c0,c1,c2,c3,rfl,hr⟩,hq⟩:=hv.el hj;obtain⟨r0,rfl⟩:=zX hr.s0;obtain⟨r1,rfl⟩:=zX hr.s1;obtain⟨r2,rfl⟩:=zX hr.a0;obtain⟨r3,rfl⟩:=zX hr.a1;refine⟨fun i=>match i with|0=>r0|1=>r1|2=>r2|_=>r3,fun _=>⟨hr,by have:=hq 0 _ rfl;rwa [Nat.add_zero]at this,fun i v hi=>hq (i+1) v ?_⟩⟩
   rw [List.getElem?_toArray]at hi ⊢;rw [List.getElem?_cons_succ];exact hi
  ·exact⟨fun _=>⟨false,none,0,0,none,0,0⟩,fun h=>absurd h hj⟩
 obtain⟨q,hq⟩:=Classical.skolem.1 hx;refine⟨q,fun j hj=>(hq j hj).1,fun hpos=>?_⟩;obtain⟨b,o,e,hb,_⟩:=hin _ _ (hq 0 hpos).2.1;have cell:∀p v,xs[p]?=some v→w.cell? ⟨b,o+p,none⟩=some v:=fun p v h=>by
  obtain⟨b',o',e',_,hc⟩:=hin p v h;rw [e]at e';injection e' with e';injection e' with e1 e2;subst e1 e2;exact hw.cell hc
 refine⟨b,o,e,by rw [hw.size];exact hb,fun j hj=>?_,fun j i v hj hi=>?_⟩
 ·have:=cell _ _ (hq j hj).2.1
  rwa [show (at_ l j).steps=(((at_ l j).steps.toNat:Nat):Int) from (Int.toNat_of_nonneg (h0 j oq)).symm]at this
 ·have:=cell _ _ ((hq j hj).2.2 i v hi)
  rwa [←Nat.add_assoc]at this
theorem kH {l:List PPhase}:∀ {k:Nat}(hk:k≤l.length),(gF (len:=l.length) (fun j=>(at_ l j).steps.toNat) k hk).map (fun x=>(at_ l x.1).r)=fK (l.take k)
 | 0,_=>rfl
 | k+1,hk=>by
  rw [aIn hk,aKl];show ((gF _ k _++List.replicate _ _).map _)=_;rw [List.map_append,kH oq,List.map_replicate];simp [fK]
def aWy (N N':World→Array Value→Rat→Prop) (x y:PState) (k:World) (v:Value):Prop:=∃c:BCell,v=.agg #[sl c.a0,sl c.a1,sl c.a2,sl c.a3,sl c.a4,sl c.a5]∧StateW N N' k c.a0.A c.a0.n c.a1.A c.a1.n c.a2.A c.a2.n x∧StateW N N' k c.a3.A c.a3.n c.a4.A c.a4.n c.a5.A c.a5.n y
theorem bAf {N N':World→Array Value→Rat→Prop}{x y:PState}{k:World}{B0 B1 B2 B3 B4 B5:Option Addr}{m0 e0 m1 e1 m2 e2 m3 e3 m4 e4 m5 e5:Nat}(h:StateW N N' k B0 m0 B1 m1 B2 m2 x) (h':StateW N N' k B3 m3 B4 m4 B5 m5 y):aWy N N' x y k (S6 B0 m0 e0 B1 m1 e1 B2 m2 e2 B3 m3 e3 B4 m4 e4 B5 m5 e5):=⟨⟨⟨B0,m0,e0⟩,⟨B1,m1,e1⟩,⟨B2,m2,e2⟩,⟨B3,m3,e3⟩,⟨B4,m4,e4⟩,⟨B5,m5,e5⟩⟩,rfl,h,h'⟩
theorem nw6 {A0 A1 A2 A3 A4 A5:Option Addr}{n0 d0 n1 d1 n2 d2 n3 d3 n4 d4 n5 d5:Nat}:∀u∈(#[Value.slice A0 n0 d0,.slice A1 n1 d1,.slice A2 n2 d2,.slice A3 n3 d3,.slice A4 n4 d4,.slice A5 n5 d5]:Array Value).toList,u.noWord=true:=by simp [Value.noWord]
section
variable {k k':World}{R:World→Value→Prop}{l:List PPhase}{s:PSec}{b:PBand}{K T W d n0 n1 n2 n3 n4 n5 n6 n7 n8 n9 d0 d1 d2 d3 d4 d5 d6 d7 d8 d9:Nat}{A0 A1 A2 A3 A4 A5 A6 A7 A8 A9:Option Addr}
set_option maxHeartbeats 1000000 in
theorem aJl (hs:SecV (NP K) k A0 n0 A1 n1 A2 n2 s) (hl:StateV (NP T) k A3 n3 A4 n4 A5 n5 b.lo) (hh:StateV (NP T) k A6 n6 A7 n7 A8 n8 b.hi) (hp:Lst k A9 n9 13 (PhV (NP K) k) l)
 (hd:aH s=0→∀i,i<s.cells.length→(nbm s.links (i:Nat)).length≤d) (hml:vR b.lo) (hmh:vR b.hi) (hmr:∀j,j<l.length→MagR (at_ l j).r) (hK1:1≤K) (hT1:1≤T) (hK:K≤1000000) (hd2:d≤128) (hTT:T≤100000000)
 (hm:nL s b l=0→aL K d (T+(eG l).toNat*(K+1))≤90000) (hfin:nL s b l=0→T+(eG l).toNat*(K+1)≤W)
 (C:∀k' B0 m0 e0 B1 m1 e1 B2 m2 e2 B3 m3 e3 B4 m4 e4 B5 m5 e5,Up k k'→StateV (NP W) k' B0 m0 B1 m1 B2 m2 (aKp s b l).lo→StateV (NP W) k' B3 m3 B4 m4 B5 m5 (aKp s b l).hi→
   R k' (.tuple #[S6 B0 m0 e0 B1 m1 e1 B2 m2 e2 B3 m3 e3 B4 m4 e4 B5 m5 e5,.int .i64 (nL s b l)])) :
 Cl k 37 #[S3 A0 n0 d0 A1 n1 d1 A2 n2 d2,S6 A3 n3 d3 A4 n4 d4 A5 n5 d5 A6 n6 d6 A7 n7 d7 A8 n8 d8,.slice A9 n9 d9] R:=by
 intro k0 u0;have hN:=aI K;have hNT:=aI T;replace hs:=SecV.up hN hs u0;replace hl:=StateV.up hNT hl u0;replace hh:=StateV.up hNT hh u0;replace hp:=qD hN hp u0;replace C:=fun k' B0 m0 e0 B1 m1 e1 B2 m2 e2 B3 m3 e3 B4 m4 e4 B5 m5 e5 u=>C k' B0 m0 e0 B1 m1 e1 B2 m2 e2 B3 m3 e3 B4 m4 e4 B5 m5 e5 (u0.trans u);have out:∀ {w:World},Sees k0 w→∀o,k0.heap[w.heap.size+1+1]?=some o→o=dead:=fun hw o ho=>by
  have:=Sy.heap_lt ho;have:=hw.size;omega
 by_cases f:nL s b l=0
 rotate_left
 ·refine aCi (F:=fun _ _ v=>v=.tuple #[S6 none 0 0 none 0 0 none 0 0 none 0 0 none 0 0 none 0 0,.int .i64 (nL s b l)]) ?_ ?_
  ·rintro w w' k' v _ rfl u _ _;refine C k' _ _ _ _ _ _ _ _ _ _ _ _ _ _ _ _ _ _ u ?_ ?_
   all_goals unfold aKp jI;rw [if_pos f];exact⟨.nil,.nil,.nil⟩
  ·intro w hw;refine (aEy (a0:=⟨A0,n0,d0⟩) (a1:=⟨A1,n1,d1⟩) (a2:=⟨A2,n2,d2⟩) (a3:=⟨A3,n3,d3⟩) (a4:=⟨A4,n4,d4⟩) (a5:=⟨A5,n5,d5⟩) (a6:=⟨A6,n6,d6⟩) (a7:=⟨A7,n7,d7⟩) (a8:=⟨A8,n8,d8⟩) (E:=nL s b l) (fun W hb h6=>?_) f).mono ?_
   ·have uW:=jA hw hb;refine (oG (lC hw hb h6 h6 nw6 nw6) (yJ uW (Below.refl _ k0) (out hw) (out hw)) (aHl hs hl hh hp hK1 hK hT1 oq (R:=fun _ v=>v=.int .i64 (nL s b l)) fun k' u=>rfl)).mono ?_;rintro e w' ⟨v,k',rfl,_,_,hb',rfl⟩;exact⟨rfl,hb'⟩
   ·rintro e w' ⟨rfl,hb⟩;exact⟨⟨_,rfl,rfl⟩,hb⟩
 obtain⟨hB,hPh⟩:=aYi f;obtain⟨hE,hz,hz',_⟩:=oC hB;obtain⟨h16,hph,h2000⟩:=aYy hPh;have hOK:OkB s b:=⟨hz,hz',hml,hmh⟩;have hc24:s.cells.length≤24:=by have:=bA hE;unfold bE at this;omega
 have hd:=hd hE;have hst:∀j,j<l.length→0≤(at_ l j).steps:=fun j hj=>(aXl (hph j hj)).1;have hm:=hm f;have hfin:=hfin f;obtain rfl:n9=l.length:=hp.1;have hL:(fK l).length=(eG l).toNat:=by have:=aKm hst;omega
 have hLF:(gF (len:=l.length) (fun j=>(at_ l j).steps.toNat) l.length (oy _)).length=(eG l).toNat:=by
  have:=congrArg List.length (kH (l:=l) (oy _));rw [List.length_map,List.take_length,hL]at this;exact this
 have hW:∀j,j≤(eG l).toNat→aL K d (T+j*(K+1))≤90000∧T+j*(K+1)≤90000:=fun j hj=>by
  have h1:T+j*(K+1)≤T+(eG l).toNat*(K+1):=Nat.add_le_add_left (Nat.mul_le_mul_right _ hj) _;have h2:=Nat.le_trans (aGs h1) hm;exact⟨h2,Nat.le_trans vI h2⟩
 have hsucc:∀j:Nat,T+(j+1)*(K+1)=T+j*(K+1)+K+1:=fun j=>by rw [Nat.succ_mul];omega
 refine aCi (F:=fun w w' v=>∃kk,∃c:BCell,Up kk w'∧Below k0.heap.size k0 kk∧v=.tuple #[.agg #[sl c.a0,sl c.a1,sl c.a2,sl c.a3,sl c.a4,sl c.a5],.int .i64 0]∧StateV (NP W) kk c.a0.A c.a0.n c.a1.A c.a1.n c.a2.A c.a2.n (advL s (fK l) b).lo∧StateV (NP W) kk c.a3.A c.a3.n c.a4.A c.a4.n c.a5.A c.a5.n (advL s (fK l) b).hi) ?_ ?_
 ·rintro w w' k' v _ ⟨kk,c,uk,bk,rfl,g1,g2⟩ u hsz hnw;have uu:=aZr bk uk u hsz hnw;unfold aKp jI at C;rw [f,if_neg (by simp)]at C;exact C k' _ _ _ _ _ _ _ _ _ _ _ _ _ _ _ _ _ _ u (StateV.up (aI _) g1 uu) (StateV.up (aI _) g2 uu)
 intro w hw;have hsz:=hw.size;obtain⟨q,hq,hpa⟩:=aLp hp hst hw
 refine (aBs (a0:=⟨A0,n0,d0⟩) (a1:=⟨A1,n1,d1⟩) (a2:=⟨A2,n2,d2⟩) (a3:=⟨A3,n3,d3⟩) (a4:=⟨A4,n4,d4⟩) (a5:=⟨A5,n5,d5⟩) (a6:=⟨A6,n6,d6⟩) (a7:=⟨A7,n7,d7⟩) (a8:=⟨A8,n8,d8⟩) (q:=q) (ps:=fun j=>(at_ l j).steps.toNat)
  (M:=fun m W=>∃kk,Up kk W∧Below k0.heap.size k0 kk∧kk.heap[w.heap.size+1+1]?=some dead∧NbV (NP K) kk m s.links)
  (X:=fun m W n c=>∃kk,Up kk W∧Below k0.heap.size k0 kk∧kk.heap[w.heap.size+1+1]?=some dead∧NbV (NP K) kk m s.links∧StateV (NP T) kk c.a0.A c.a0.n c.a1.A c.a1.n c.a2.A c.a2.n b.lo∧StateV (NP T) kk c.a3.A c.a3.n c.a4.A c.a4.n c.a5.A c.a5.n b.hi)
  (Inv:=fun m g10 base pre W c=>k0.heap.size≤base∧k0.heap.size≤g10∧∃kk,Up kk W∧KK k0 base (w.heap.size+1+1) g10 kk∧NbV (NP K) kk m s.links∧
    StateV (NP (T+pre.length*(K+1))) kk c.a0.A c.a0.n c.a1.A c.a1.n c.a2.A c.a2.n (advL s (pre.map fun x=>(at_ l x.1).r) b).lo∧StateV (NP (T+pre.length*(K+1))) kk c.a3.A c.a3.n c.a4.A c.a4.n c.a5.A c.a5.n (advL s (pre.map fun x=>(at_ l x.1).r) b).hi)
  ?h1 ?h2 ?h3 ?h4 ?hO ?hS ?hA ?hlen ?hsteps hpa).mono ?fin
 case h1=>
  intro W hb h6;refine (oG (lC hw hb h6 h6 nw6 nw6) (yJ (jA hw hb) (Below.refl _ k0) (out hw) (out hw)) (aHl hs hl hh hp hK1 hK hT1 oq (R:=fun _ v=>v=.int .i64 (nL s b l)) fun k' u=>rfl)).mono ?_;rintro e w' ⟨v,k',rfl,_,_,hb',rfl⟩;exact⟨by rw [f],hb'⟩
 case h2=>
  intro W hb h6;have bd:=oD (a:=w.heap.size+1+1) (c:=w.heap.size+1+1) (jA hw hb) oq oq
  refine (oG (lC hw hb h6 h6 nw6 nw6) (yJ (jA hw hb) (Below.refl _ k0) (out hw) (out hw)) (aOv hs.links (by have:=bA hE;unfold bE at this;have:=hs.links.1;omega) (fun z hz=>by
   obtain⟨h1,h2⟩:=fC (dS hE) z hz
   omega) (R:=fun k' v=>∃m,v=.agg #[.slice A0 n0 d0,.slice A1 n1 d1,.slice A2 n2 d2,.map (some m)]∧NbV (NP K) k' m s.links) fun k' M u h=>⟨M,rfl,h⟩)).mono ?_
  rintro e w' ⟨v,k',rfl,hk,hbk,hb',m,rfl,hM⟩;refine⟨m,rfl,hb',k',jA hk (Below.refl _ _),bd.trans (hbk.mono bd.size),?_,hM⟩;have hlt:=Sy.heap_lt h6;exact (hbk.block _ (by rw [mk_size];exact hlt)).trans (mX (.inr (.inl rfl)) hlt)
 case h3=>
  rintro m W0 W ⟨kk,uk,bk,d6,hM⟩ hb0 hb h6;have bd:=oD (a:=w.heap.size+1+1) (c:=w.heap.size+1+1) (jA hw hb) oq oq;have ud:=yJ (uk.trans (Up.of_below hb0)) bk (oR d6) (oR d6);have ukk:=Up.of_below bk;refine (oG (lC hw hb h6 h6 nw6 nw6) ud (aOl (StateV.up hNT hl ukk) (StateV.up hNT hh ukk) (lT hz hc24) (lT hz' hc24) (R:=fun k' v=>∃c:BCell,v=.agg #[sl c.a0,sl c.a1,sl c.a2,sl c.a3,sl c.a4,sl c.a5]∧StateV (NP T) k' c.a0.A c.a0.n c.a1.A c.a1.n c.a2.A c.a2.n b.lo∧StateV (NP T) k' c.a3.A c.a3.n c.a4.A c.a4.n c.a5.A c.a5.n b.hi) fun k' B0 m0 e0 B1 m1 e1 B2 m2 e2 B3 m3 e3 B4 m4 e4 B5 m5 e5 u g1 g2=>⟨⟨⟨B0,m0,e0⟩,⟨B1,m1,e1⟩,⟨B2,m2,e2⟩,⟨B3,m3,e3⟩,⟨B4,m4,e4⟩,⟨B5,m5,e5⟩⟩,rfl,g1,g2⟩)).mono ?_;rintro e w' ⟨v,k',rfl,hk,hbk,hb',c,rfl,g1,g2⟩;refine⟨c,rfl,hb',k',jA hk (Below.refl _ _),bd.trans (hbk.mono bd.size),?_,NbV.up hN hM (ud.trans (Up.of_below hbk)),g1,g2⟩;have hlt:=Sy.heap_lt h6;exact (hbk.block _ (by rw [mk_size];exact hlt)).trans (mX (.inr (.inl rfl)) hlt)
 case h4=>
  rintro m w3 n c W ⟨kk,uk,bk,d6,hM,g1,g2⟩ hb hlt;have uW:=uk.trans (Up.of_below hb);have h3:=Nat.le_trans bk.size uk.size;have h6:=Nat.lt_of_lt_of_le (Sy.heap_lt d6) uW.size;have ud:=yJ (c:=w3.heap.size) uW bk (oR d6) (fun o ho=>by have:=Sy.heap_lt ho;have:=uk.size;omega);have g1:=StateV.up hNT g1 ud;have g2:=StateV.up hNT g2 ud;refine⟨Nat.le_trans h3 hb.size,h3,_,aVg,⟨oD ((Up.of_below bk).trans uW) oq h3,mX (.inr (.inl rfl)) h6,mX (.inr (.inr rfl)) hlt,fun g o hg ho=>?_⟩,NbV.up hN hM ud,g1.mono fun _ _ h=>h.mono (by simp),g2.mono fun _ _ h=>h.mono (by simp)⟩;have:=Sy.heap_lt ho;rw [mk_size]at this;omega
 case hO=>
  rintro m g10 base c pre W W' row ⟨i1,i2,kk,uk,hk,r⟩ hg hr;exact⟨i1,i2,kk,aYl hk uk hg hr,hk,r⟩
 case hS=>
  rintro m g10 base pre W c g cs ⟨i1,i2,kk,uk,hk,r⟩ hg e;exact⟨i1,i2,kk,aZs uk (by rcases e with rfl|rfl;exact hk.d10;exact hk.d6),hk,r⟩
 case hA=>
  rintro m g10 base pre x W c hlt ⟨i1,i2,kk,uk,hk,hM,g1,g2⟩ hb h6 h10;rw [hLF]at hlt;have bd:=oD (a:=w.heap.size+1+1) (c:=g10) (jA hw hb) oq i2;have ud:=yJ uk hk.bel (oR hk.d6) (oR hk.d10);have ukk:=Up.of_below hk.bel;have hj:=OkB.advL hE (rs:=pre.map fun x=>(at_ l x.1).r) (fun r hr=>by obtain⟨y,_,rfl⟩:=List.mem_map.1 hr;exact hmr y.1 y.2) hOK;have hWj:=hW _ (Nat.le_of_lt hlt);rw [aZh];refine (oG (lC hw hb h6 h10 nw6 nw6) ud (aXy (b:=advL s (pre.map fun x=>(at_ l x.1).r) b) (r:=(at_ l x.1).r) (SecV.up hN hs ukk) g1 g2 hM (RangeV.up hN (hq x.1 x.2) ukk) hE hj.lo hj.hi hd hK1 oq hWj.1 hd2 (R:=aWy (NP (aL K d (T+pre.length*(K+1))+1001)) (NP (T+pre.length*(K+1)+K+1)) (dM s (advL s (pre.map fun x=>(at_ l x.1).r) b) (at_ l x.1).r).lo (dM s (advL s (pre.map fun x=>(at_ l x.1).r) b) (at_ l x.1).r).hi) fun k' B0 m0 e0 B1 m1 e1 B2 m2 e2 B3 m3 e3 B4 m4 e4 B5 m5 e5 u t1 t2=>(by exact bAf t1 t2))).mono ?_;rintro e w' ⟨v,k',rfl,hsk,hbk,hb',c',rfl,t1,t2⟩;have k6:k'.heap[w.heap.size+1+1]?=some dead:=(hbk.block _ (by rw [mk_size];exact Sy.heap_lt h6)).trans (mX (.inr (.inl rfl)) (Sy.heap_lt h6));have k10:k'.heap[g10]?=some dead:=(hbk.block _ (by rw [mk_size];exact Sy.heap_lt h10)).trans (mX (.inr (.inr rfl)) (Sy.heap_lt h10));have hKK:=aPx (bd.trans (hbk.mono bd.size)) i1 k6 k10;have uS:=aTc hk (ud.trans (Up.of_below hbk));obtain⟨q1,q2⟩:=aNw hE hj.lo hj.hi hj.magl hj.magh (hmr x.1 x.2);refine⟨c',rfl,hb',i1,i2,_,aSu hsk,hKK,NbV.up hN hM uS,?_,?_⟩
  all_goals rw [List.length_append,List.map_append,show [x].length=1 from rfl,hsucc,List.map_singleton,aIv]
  ·exact vG (t1.tightP q1 oq) mk_size fun a v h=>vJ h
  ·exact vG (t2.tightP q2 oq) mk_size fun a v h=>vJ h
 case hlen=>omega
 case hsteps=>
  intro j hj;have h1:=yG hj;have h2:=sQ hst (j+1);have h3:=sQ hst j;show (at_ l j).steps.toNat≤1000000;omega
 case fin=>
  rintro e w' ⟨m,g10,base,c,rfl,hb,_,_,kk,uk,hk,_,g1,g2⟩;rw [kH,List.take_length,hLF]at g1 g2;exact⟨⟨_,rfl,kk,c,uk,hk.bel,rfl,g1.mono fun _ _ h=>h.mono hfin,g2.mono fun _ _ h=>h.mono hfin⟩,hb⟩
end
open IntKind (wrap)
open Sy (Up Sees CallsG Seg ReadAt)
theorem aGv {k:World}{p:Nat}{ty:TypeId}{t0 t1:Int}{c0 c1 c2 c3 z0 z1 z2 z3:Array Value}{r r':PRange}{K:Nat}(hb:Sy.Blk k p ty ((Value.int .i64 t0) :: (c0.toList++(c1.toList++(c2.toList++(c3.toList++((Value.int .i64 t1) :: (z0.toList++(z1.toList++(z2.toList++(z3.toList++([]))))))))))).toArray) (h:RangeV (NP K) k c0 c1 c2 c3 r) (h':RangeV (NP K) k z0 z1 z2 z3 r') :
 Lst k (some ⟨p,0,none⟩) 2 13 (PhV (NP K) k) [⟨t0,r⟩,⟨t1,r'⟩]:=by
 have hN:=aI K;have hseg:∀a (v:PPhase),PhV (NP K) k a v→Seg 13 a:=fun _ _ h=>PhV.seg hN h;have a0:PhV (NP K) k ((Value.int .i64 t0) :: (c0.toList++(c1.toList++(c2.toList++(c3.toList++([])))))).toArray (at_ [(⟨t0,r⟩:PPhase),⟨t1,r'⟩] 0):=⟨c0,c1,c2,c3,rfl,h⟩;have a1:PhV (NP K) k ((Value.int .i64 t1) :: (z0.toList++(z1.toList++(z2.toList++(z3.toList++([])))))).toArray (at_ [(⟨t0,r⟩:PPhase),⟨t1,r'⟩] 1):=⟨z0,z1,z2,z3,rfl,h'⟩;have hA:=ArrV.push (ArrV.push (ArrV.empty (s:=13) (P:=PhV (NP K) k) (f:=at_ [(⟨t0,r⟩:PPhase),⟨t1,r'⟩])) (hseg _ _ a0).1 a0) (hseg _ _ a1).1 a1;refine⟨rfl,((Value.int .i64 t0) :: (c0.toList++(c1.toList++(c2.toList++(c3.toList++((Value.int .i64 t1) :: (z0.toList++(z1.toList++(z2.toList++(z3.toList++([]))))))))))).toArray,fun q u hq=>⟨p,0,rfl,Sy.heap_lt hb,by rw [Nat.zero_add];exact cel hb hq⟩,?_,?_⟩
 ·have:=hA.rowC hseg;simpa using this
 ·simpa using hA
theorem aNz {l:List Rat}{v:Rat}{i:Nat}(h:i<l.length):at_ (l++[v]) i=at_ l i:=by
 unfold at_;rw [List.getD_eq_getElem?_getD,List.getD_eq_getElem?_getD,List.getElem?_append_left h]
theorem aNy {l:List Rat}{v:Rat}:at_ (l++[v]) l.length=v:=by
 unfold at_;rw [List.getD_eq_getElem?_getD,List.getElem?_append_right (oy _),Nat.sub_self];rfl
theorem sU {P:Array Value→Rat→Prop}{l:List Rat}{xs a:Array Value}{v:Rat}(h:ArrV l.length 3 P xs (at_ l)) (ha:a.size=3) (hv:P a v):ArrV (l++[v]).length 3 P (xs++a.toList.toArray) (at_ (l++[v])):=by
 rw [List.length_append];exact ArrV.push (h.congr fun i hi=>(aNz hi).symm) ha (by rw [aNy];exact hv)
def Btl (a l b:List Rat):Prop:=∀i,i<l.length→at_ a i≤at_ l i∧at_ l i≤at_ b i
theorem sV {a l b:List Rat}{v:Rat}(h:Btl a l b) (hv:at_ a l.length≤v∧v≤at_ b l.length):Btl a (l++[v]) b:=fun i hi=>by
 by_cases e:i=l.length
 ·rw [e,aNy];exact hv
 ·have:i<l.length:=by rw [List.length_append,List.length_singleton]at hi;omega
  rw [aNz this];exact h i this
theorem wC {s:PSec}{b:PBand}(hE:aH s=0) (zl:sized s b.lo) (zh:sized s b.hi) (hu:fT b.lo b.hi):cL s b=0:=by
 have h:eO s b.lo=0:=by unfold eO;rw [if_neg (by simp [hE]),if_neg (fun h=>h zl)]
 unfold cL;rw [if_neg (by simp [h]),if_neg (fun h=>h zh),if_neg (fun h=>h hu)]
theorem vM {n m:Int}(h0:0≤n) (hm:0<m) (hm1:m≤1000):0≤wrap .i64 (Int.tmod n m)∧wrap .i64 (Int.tmod n m)<m:=by
 rw [Int.tmod_eq_emod_of_nonneg h0,IntKind.wrap_i64];have h1:=Int.emod_nonneg n (show m≠0 by omega);have h2:=Int.emod_lt_of_pos n hm;omega
theorem aFc {s:PSec}{b:PBand}:(dK s b=0∧gQ s b.lo∧¬ bF s b.hi)∨(dK s b=1∧¬ gQ s b.lo∧¬ bF s b.hi)∨(dK s b=2∧bF s b.lo)∨(dK s b=3∧bF s b.hi∧¬ bF s b.lo):=by
 unfold dK
 by_cases h1:bF s b.lo
 ·exact .inr (.inr (.inl ⟨if_pos h1,h1⟩))
 ·rw [if_neg h1]
  by_cases h2:bF s b.hi
  ·exact .inr (.inr (.inr ⟨if_pos h2,h2,h1⟩))
  ·rw [if_neg h2]
   by_cases h3:gQ s b.lo
   ·exact .inl ⟨if_neg (fun h=>h h3),h3,h2⟩
   ·exact .inr (.inl ⟨if_pos h3,h3,h2⟩)
theorem aWg {r:PRange}:dA r=0∨dA r=7:=by
 unfold dA;split
 ·exact .inr rfl
 ·exact .inl rfl
theorem aIy {s:PSec}{u v:Rat}(h:¬ v<u):Und s.cells.length (fN s u v).lo (fN s u v).hi:=by
 refine⟨fun i hi=>?_,fun i hi=>?_,fun i hi=>?_⟩
 ·show at_ (List.replicate _ u) i≤at_ (List.replicate _ v) i;rw [cE hi,cE hi];exact Rat.not_lt.1 h
 ·exact Rat.le_refl
 ·exact Rat.le_refl
theorem wD {s:PSec}{u:Rat}(h:Mag u):vR (cK s u):=fun i hi=>by
 have hi:i<s.cells.length:=by simpa [cK] using hi
 show Mag (at_ (List.replicate _ u) i);rw [cE hi];exact h
theorem aUp {s:PSec}{b:PBand}{t0 t1:Int}{r r':PRange}(hA:mO s b r=0) (h0:0≤t0) (h1:0≤t1) (h2:t0+t1≤2000):nL s b [⟨t0,r⟩,⟨t1,r'⟩]=dA r':=by
 have hB:=aDy hA;have hR:dA r=0:=by unfold mO at hA;rwa [if_neg (by rw [hB];simp)]at hA
 have p0:phE (at_ [(⟨t0,r⟩:PPhase),⟨t1,r'⟩] 0)=0:=by
  show phE ⟨t0,r⟩=0;unfold phE;rw [if_neg (show ¬ t0<0 by omega)];exact hR
 have p1:phE (at_ [(⟨t0,r⟩:PPhase),⟨t1,r'⟩] 1)=dA r':=by
  show phE ⟨t1,r'⟩=_;unfold phE;rw [if_neg (show ¬ t1<0 by omega)]
 have hf:gL (fun i=>phE (at_ [(⟨t0,r⟩:PPhase),⟨t1,r'⟩] i)) [(⟨t0,r⟩:PPhase),⟨t1,r'⟩].length=dA r':=by
  show gL _ 2=_;unfold gL;unfold gL;unfold gL;rw [p0,p1];simp
 unfold nL zP;rw [if_neg (by rw [hB];simp),if_neg (by simp),hf];have hs:¬ 2000<eG [(⟨t0,r⟩:PPhase),⟨t1,r'⟩]:=by simp only [eG];omega
 rw [if_neg hs];split
 ·rfl
 ·rename_i h;exact (Decidable.not_not.1 h).symm
section
variable {k:World}{R:World→Value→Prop}{s:PSec}{la lb:List Int}{n0 n1 n2 d0 d1 d2 n9 d9 n10 d10:Nat}{A0 A1 A2 A9 A10:Option Addr}{gg0 gg1 gg2 gg3 rr0 rr1 rr2 rr3 rr4 rr5 rr6 rr7 ll0 ll1 ll2 ll3 ll4 ll5 ll6 ll7 w0 w1:Int}
set_option maxHeartbeats 4000000 in
theorem yX (hs:SecA k A0 n0 A1 n1 A2 n2 s) (g0:In64 gg0) (g1:In64 gg1) (g2:In64 gg2) (g3:In64 gg3) (r0:In64 rr0) (r1:In64 rr1) (r2:In64 rr2) (r3:In64 rr3) (r4:In64 rr4) (r5:In64 rr5) (r6:In64 rr6) (r7:In64 rr7) (l0:In64 ll0) (l1:In64 ll1) (l2:In64 ll2) (l3:In64 ll3) (l4:In64 ll4) (l5:In64 ll5) (l6:In64 ll6) (l7:In64 ll7) (hw0:0≤w0) (hw1:0≤w1) (hla:Lst k A9 n9 1 U8A la) (hlb:Lst k A10 n10 1 U8A lb) (C:∀k',Up k k'→R k' (.bool true)) :
 Cl k 8 #[S3 A0 n0 d0 A1 n1 d1 A2 n2 d2,.agg #[.int .i64 gg0,.int .i64 gg1],.agg #[.int .i64 gg2,.int .i64 gg3],.agg #[.int .i64 rr0,.int .i64 rr1,.int .i64 rr2,.int .i64 rr3,.int .i64 rr4,.int .i64 rr5,.int .i64 rr6,.int .i64 rr7],.agg #[.int .i64 ll0,.int .i64 ll1,.int .i64 ll2,.int .i64 ll3,.int .i64 ll4,.int .i64 ll5,.int .i64 ll6,.int .i64 ll7],.agg #[.int .u8 w0,.int .u8 w1],.slice A9 n9 d9,.slice A10 n10 d10] R:=by
 intro k0 u0;replace hs:=hs.up u0;replace hla:=hla.kept u0;replace hlb:=hlb.kept u0;replace C:=fun k' u=>C k' (u0.trans u);have aw:∀k1,Up k0 k1→Cl k1 13 #[] fun k8 r7=>∃b10,some (Value.bool b10)=some r7∧∀k9,Up k8 k9→R k9 (Value.bool b10):=
  fun k1 u1=>aOe fun k3 u3=>⟨_,rfl,fun k4 u4=>C k4 ((u1.trans u3).trans u4)⟩
 have P1:=aI 1;have aw':∀k1,Up k0 k1→Cl k1 13 #[] fun k8 r7=>∃b10,some (Value.bool b10)=some r7∧∀k9,Up k8 k9→R k9 (Value.bool b10):=aw;refine aFe (aFh (most:=4) (d:=3) hs g0 g1 g2 g3 r0 r1 r2 r3 r4 r5 r6 r7 oz oz fun k1 B0 m0 e0 B1 m1 e1 B2 m2 e2 B3 m3 e3 B4 m4 e4 B5 m5 e5 B6 m6 e6 B7 m7 e7 B8 m8 e8 c0 c1 c2 c3 f u1 s0 s1 s2 s3 hf=>⟨_,_,_,_,_,_,_,_,_,_,_,_,_,_,_,_,_,_,_,_,_,_,_,_,_,_,_,c0,s0,c1,s1,c2,s2,c3,s3,f,rfl,?_⟩);refine xF l0 l1 l2 l3 l4 l5 l6 l7 fun k3 z0 z1 z2 z3 o0 o1 o2 o3 u3 pl rl=>⟨_,pl.s0.seg,_,pl.s1.seg,_,pl.a0.seg,_,pl.a1.seg,_,rl.s0.seg,_,rl.s1.seg,_,rl.a0.seg,_,rl.a1.seg,rfl,fun _=>aw k3 (u1.trans u3),fun f1=>⟨rfl,fun _=>aw k3 (u1.trans u3),fun _=>⟨rfl,fun _=>aw k3 (u1.trans u3),fun _=>?_⟩⟩⟩;obtain⟨hfew,hadv,hlh,pS,pL,pH,pR⟩:=hf (jU f1);intro p k13 u13 hblk k14 u14;have v3:=u1.trans u3;have v14:=v3.trans (u13.trans u14);have w14:=u3.trans (u13.trans u14);obtain⟨x0,x1⟩:=vM hw0 (m:=7) oz oz;obtain⟨y0,y1⟩:=vM hw1 (m:=6) oz oz;generalize hT0:wrap .i64 (Int.tmod w0 7)=T0 at hblk x0 x1;generalize hT1:wrap .i64 (Int.tmod w1 6)=T1 at hblk y0 y1;have hPh:=qD P1 (aGv hblk (RangeV.up P1 pR (u3.trans u13)) (RangeV.up P1 pl u13)) u14;have hE:aH s=0:=(oC (aDy hadv)).1;have hc24:s.cells.length≤24:=by have:=bA hE;unfold bE at this;omega
 have hfol:=aUp (r':=⟨ofQ ll0 ll1,ofQ ll2 ll3,ofQ ll4 ll5,ofQ ll6 ll7⟩) hadv x0 y0 oq;have hsum:(eG [(⟨T0,⟨ofQ rr0 rr1,ofQ rr2 rr3,ofQ rr4 rr5,ofQ rr6 rr7⟩⟩:PPhase),⟨T1,⟨ofQ ll0 ll1,ofQ ll2 ll3,ofQ ll4 ll5,ofQ ll6 ll7⟩⟩]).toNat≤11:=by simp only [eG];omega
 have hd:aH s=0→∀i,i<s.cells.length→(nbm s.links (i:Nat)).length≤3:=fun hE i hi=>by have:=aHx hE hi;have:=hfew.cells;omega
 have mr:MagR ⟨ofQ rr0 rr1,ofQ rr2 rr3,ofQ rr4 rr5,ofQ rr6 rr7⟩:=⟨fY r0 r1,fY r2 r3,fY r4 r5,fY r6 r7⟩;have ml:MagR ⟨ofQ ll0 ll1,ofQ ll2 ll3,ofQ ll4 ll5,ofQ ll6 ll7⟩:=⟨fY l0 l1,fY l2 l3,fY l4 l5,fY l6 l7⟩;generalize hL:[(⟨T0,⟨ofQ rr0 rr1,ofQ rr2 rr3,ofQ rr4 rr5,ofQ rr6 rr7⟩⟩:PPhase),⟨T1,⟨ofQ ll0 ll1,ofQ ll2 ll3,ofQ ll4 ll5,ofQ ll6 ll7⟩⟩]=L at hPh hfol hsum;have gmr:∀j,j<L.length→MagR (at_ L j).r:=fun j hj=>by
  subst hL
  match j,hj with
  | 0,_=>exact mr
  | 1,_=>exact ml
 have hb:cL s (fN s (ofQ gg0 gg1) (ofQ gg2 gg3))=0:=aDy hadv;generalize hbb:fN s (ofQ gg0 gg1) (ofQ gg2 gg3)=b at pL pH hb hfol;have bmag:vR b.lo∧vR b.hi:=by subst hbb;exact⟨wD (fY g0 g1),wD (fY g2 g3)⟩
 have bund:Und s.cells.length b.lo b.hi:=by subst hbb;exact aIy hlh
 refine aJl (K:=1) (T:=1) (W:=23) (d:=3) (b:=b) (SecV.up P1 pS w14) (StateV.up P1 pL w14) (StateV.up P1 pH w14) hPh hd bmag.1 bmag.2 gmr oz oz oz oz oz (fun _=>by unfold aL;omega) (fun _=>by omega) (fun k15 G0 t0 a0 G1 t1 a1 G2 t2 a2 G3 t3 a3 G4 t4 a4 G5 t5 a5 u15 el eh=>⟨_,_,_,_,_,_,_,_,_,_,_,_,_,_,_,_,_,_,_,rfl,fun f=>⟨fun _=>aw k15 (v14.trans u15),fun g=>absurd g ?_⟩,fun f=>?_⟩) k14 (Up.refl _)
 ·rcases aWg (r:=⟨ofQ ll0 ll1,ofQ ll2 ll3,ofQ ll4 ll5,ofQ ll6 ll7⟩) with h|h
  ·exact absurd (hfol.trans h) (cG f)
  ·rw [hfol,h];decide
 have hF:=bG f;have hrl:dA ⟨ofQ ll0 ll1,ofQ ll2 ll3,ofQ ll4 ll5,ofQ ll6 ll7⟩=0:=hfol.symm.trans hF;obtain⟨_,hz,hz',_⟩:=oC hb;have hrr:dA ⟨ofQ rr0 rr1,ofQ rr2 rr3,ofQ rr4 rr5,ofQ rr6 rr7⟩=0:=by
  have:=hadv;unfold mO at this
  rwa [if_neg (by rw [hbb,hb];simp)]at this
 have hcE:aKp s b L=advL s (fK L) b:=by unfold aKp jI;rw [hF,if_neg (by simp)]
 rw [hcE]at el eh;have hrs:∀r∈fK L,dA r=0:=fun r hr=>by
  obtain⟨p,hp,rfl⟩:=aKn hr;subst hL;rcases List.mem_cons.1 hp with rfl|hp
  ·exact hrr
  ·rw [List.mem_singleton.1 hp];exact hrl
 have cund:=sS hE hrs bund;have hszs:=vE (rs:=fK L) hz hz';generalize advL s (fK L) b=c at el eh cund hszs;obtain⟨zl,zh⟩:=hszs;have hJ:cL s c=0:=wC hE zl zh ((qR zl zh).2 cund);have v15:=v14.trans u15;have w15:=w14.trans u15;have P23:=aI 23;refine aAx (K:=1) (T:=23) (b:=c) (SecV.up P1 pS w15) el eh oz oz oz oz fun k21 u21=>⟨_,_,_,_,rfl,fun f=>absurd hJ (cG f),fun _=>?_⟩;rw [show (if cL s c≠0 then 0 else dK s c)=dK s c from if_neg (by rw [hJ];simp)];have en:=pS.cells.1;have t1:=el.temp.1;have t2:=el.cure.1;have t3:=el.spoil.1;have t4:=eh.temp.1;have t5:=eh.cure.1;have t6:=eh.spoil.1;obtain⟨q1,q2,q3⟩:=id zl;obtain⟨q4,q5,q6⟩:=id zh;refine aVa oq oq oq oq oq oq fun k24 u24=>⟨_,rfl,fun h=>absurd h oz,fun _=>⟨rfl,?_⟩⟩;have v24:=v15.trans (u21.trans u24);have sg:∀ {k:World},∀a (v:Rat),NP 191 k a v→Seg 3 a:=fun _ _ h=>h.seg
 refine⟨fun m k vs=>∃(j:Nat) (D0 D1 D2:Option Addr) (e0 e1 e2:Nat) (x0 x1 x2:Array Value) (l0 l1 l2:List Rat),j+m=m1∧vs=[.int .i64 j,.tuple #[.slice D0 j e0,.agg x0],.tuple #[.slice D1 j e1,.agg x1],.tuple #[.slice D2 j e2,.agg x2]]∧
  l0.length=j∧l1.length=j∧l2.length=j∧ArrV l0.length 3 (NP 191 k) x0 (at_ l0)∧ArrV l1.length 3 (NP 191 k) x1 (at_ l1)∧ArrV l2.length 3 (NP 191 k) x2 (at_ l2)∧Btl c.lo.temp l0 c.hi.temp∧Btl c.lo.cure l1 c.hi.cure∧Btl c.lo.spoil l2 c.hi.spoil,
  ⟨m1,fun k1 u1=>⟨0,_,_,_,_,_,_,_,_,_,[],[],[],oq,rfl,rfl,rfl,rfl,ArrV.empty,ArrV.empty,ArrV.empty,fun i hi=>absurd hi (Nat.not_lt_zero _),fun i hi=>absurd hi (Nat.not_lt_zero _),fun i hi=>absurd hi (Nat.not_lt_zero _)⟩⟩,?_⟩
 rintro m k26 vs u26 ⟨j,D0,D1,D2,e0',e1',e2',x0',x1',x2',l0',l1',l2',hj,rfl,z0',z1',z2',h0,h1,h2,b0,b1,b2⟩;have v26:=v24.trans u26;have y26:=u21.trans (u24.trans u26);refine⟨j,D0,j,e0',x0',h0.rowC sg,D1,j,e1',x1',h1.rowC sg,D2,j,e2',x2',h2.rowC sg,rfl,fun hlt=>?_,fun hge k40 u40 ra k41 u41 rb k42 u42 rc'=>?_⟩
 ·have hlt:=aF hlt;have lst3:∀ {k:World}{A:Option Addr}{n:Nat}{l:List Rat},Lst k26 A n 3 (NP 23 k26) l→j<l.length→∃a:Array Value,a.size=3∧NP 23 k26 a (at_ l j):=fun h hj=>by obtain⟨a,ha,hv,_⟩:=h.el hj oz;exact⟨a,ha,hv⟩
  have L0:=(StateV.up P23 el y26).temp;have L1:=(StateV.up P23 el y26).cure;have L2:=(StateV.up P23 el y26).spoil;have M0:=(StateV.up P23 eh y26).temp;have M1:=(StateV.up P23 eh y26).cure;have M2:=(StateV.up P23 eh y26).spoil;obtain⟨f0,_,hf0,fa0,fb0,fr0,_⟩:=L0.el (i:=j) oq oz;obtain⟨g0',_,hg0,ga0,gb0,gr0,_⟩:=M0.el (i:=j) oq oz;refine⟨fa0,fb0,f0,hf0.seg,fr0 k26 (Up.refl _),ga0,gb0,g0',hg0.seg,gr0 k26 (Up.refl _),zJ (hla.kept v26) fun k28 p0 u28 a0 a1=>⟨_,rfl,?_⟩⟩;refine tU (hf0.up u28) (hg0.up u28) oz oz a0 a1 fun k30 ds0 u30 hds0=>⟨ds0,hds0.seg,rfl,by simp [hds0.seg.1],oz,⟨by simp;omega,by simp;omega⟩,?_⟩;rintro D0' _ e0'' _ rfl rfl _;have y30:=u28.trans u30;obtain⟨f1,_,hf1,fa1,fb1,fr1,_⟩:=L1.el (i:=j) oq oz;obtain⟨g1',_,hg1,ga1,gb1,gr1,_⟩:=M1.el (i:=j) oq oz;refine⟨fa1,fb1,f1,hf1.seg,fr1 k30 y30,ga1,gb1,g1',hg1.seg,gr1 k30 y30,?_⟩;rw [show wrap .i64 (2*(j:Int))=((2*j:Nat):Int) by rw [IntKind.wrap_i64];omega];refine zJ (hlb.kept (v26.trans y30)) fun k32 p1 u32 a2 a3=>⟨_,rfl,?_⟩;refine tU (hf1.up (y30.trans u32)) (hg1.up (y30.trans u32)) oz oz a2 a3 fun k34 ds1 u34 hds1=>⟨ds1,hds1.seg,rfl,by simp [hds1.seg.1],oz,⟨by simp;omega,by simp;omega⟩,?_⟩;rintro D1' _ e1'' _ rfl rfl _;have y34:=y30.trans (u32.trans u34);obtain⟨f2,_,hf2,fa2,fb2,fr2,_⟩:=L2.el (i:=j) oq oz;obtain⟨g2',_,hg2,ga2,gb2,gr2,_⟩:=M2.el (i:=j) oq oz;refine⟨fa2,fb2,f2,hf2.seg,fr2 k34 y34,ga2,gb2,g2',hg2.seg,gr2 k34 y34,?_⟩;rw [show wrap .i64 (((2*j:Nat):Int)+1)=((2*j+1:Nat):Int) by rw [IntKind.wrap_i64];omega];refine zJ (hlb.kept (v26.trans y34)) fun k36 p2 u36 a4 a5=>⟨_,rfl,?_⟩;refine tU (hf2.up (y34.trans u36)) (hg2.up (y34.trans u36)) oz oz a4 a5 fun k38 ds2 u38 hds2=>⟨ds2,hds2.seg,rfl,by simp [hds2.seg.1],oz,⟨by simp;omega,by simp;omega⟩,?_⟩;rintro D2' _ e2'' _ rfl rfl _ k39 u39;have y38:=y34.trans (u36.trans u38);have m0':=aFj (cund.temp j oq) a0 a1;have m1':=aFj (cund.cure j oq) a2 a3;have m2':=aFj (cund.spoil j oq) a4 a5;have up3:∀ {l:List Rat}{xs:Array Value},ArrV l.length 3 (NP 191 k26) xs (at_ l)→ArrV l.length 3 (NP 191 k39) xs (at_ l):=fun h=>h.mono fun _ _ h=>h.up (y38.trans u39);refine⟨m-1,oq,j+1,D0',D1',D2',e0'',e1'',e2'',_,_,_,_,_,_,oq,by rw [aC oq,List.append_nil,List.append_nil,List.append_nil];rfl,by simp [z0'],by simp [z1'],by simp [z2'],sU (up3 h0) hds0.seg.1 (hds0.up ((u32.trans u34).trans ((u36.trans u38).trans u39))),sU (up3 h1) hds1.seg.1 (hds1.up ((u36.trans u38).trans u39)),sU (up3 h2) hds2.seg.1 (hds2.up u39),sV b0 (by rw [z0'];exact m0'),sV b1 (by rw [z1'];exact m1'),sV b2 (by rw [z2'];exact m2')⟩
 ·have hge:=aE hge;have hjn:j=s.cells.length:=oq
  have v42:=(u40.trans u41).trans u42;have zx:sized s ⟨l0',l1',l2'⟩:=⟨by simp only;omega,by simp only;omega,by simp only;omega⟩;have ux1:Und s.cells.length c.lo ⟨l0',l1',l2'⟩:=⟨fun i hi=>(b0 i oq).1,fun i hi=>(b1 i oq).1,fun i hi=>(b2 i oq).1⟩;have ux2:Und s.cells.length ⟨l0',l1',l2'⟩ c.hi:=⟨fun i hi=>(b0 i oq).2,fun i hi=>(b1 i oq).2,fun i hi=>(b2 i oq).2⟩;have P191:=aI 191;intro k43 u43;have v43:=v42.trans u43;have up3:∀ {l:List Rat}{xs:Array Value},l.length=j→ArrV l.length 3 (NP 191 k26) xs (at_ l)→ArrV j 3 (NP 191 k43) xs (at_ l):=fun e h=>by rw [←e];exact h.mono fun _ _ h=>h.up v43
  have px:StateV (NP 191) k43 D0 j D1 j D2 j ⟨l0',l1',l2'⟩:=⟨dE z0'.symm (up3 z0' h0) sg (bN ra (u41.trans (u42.trans u43))),dE z1'.symm (up3 z1' h1) sg (bN rb (u42.trans u43)),dE z2'.symm (up3 z2' h2) sg (bN rc' u43)⟩;generalize hx:(⟨l0',l1',l2'⟩:PState)=x at px zx ux1 ux2;have y43:=y26.trans v43;have hin:kI c x:=tQ.2 ⟨(qR zl zx).2 ux1,(qR zx zh).2 ux2⟩;have hJx:cL s ⟨x,x⟩=0:=wC hE zx zx vN;have sx:qM x:=by obtain⟨a1,a2,a3⟩:=zx;exact⟨oq,oq,oq⟩
  refine wH (K:=23) (L:=191) (b:=c) (x:=x) (StateV.up P23 el y43) (StateV.up P23 eh y43) px oz oz oz oz sx (fun k44 u44=>⟨_,rfl,fun h=>absurd hin (ov (uE h)),fun _=>?_⟩) k43 (Up.refl _);have w44:=w15.trans (y43.trans u44);refine aAx (K:=1) (T:=191) (b:=⟨x,x⟩) (SecV.up P1 pS w44) (StateV.up P191 px u44) (StateV.up P191 px u44) oz oz oz oz fun k47 u47=>⟨_,_,_,_,rfl,fun f=>absurd hJx (cG f),fun _=>?_⟩;rw [show (if cL s ⟨x,x⟩≠0 then 0 else dK s ⟨x,x⟩)=dK s ⟨x,x⟩ from if_neg (by rw [hJx];simp)];have w47:=w44.trans u47;have v47:=(v26.trans v43).trans (u44.trans u47);have pS':=SecV.up P1 pS w47;have px':=StateV.up P191 px (u44.trans u47);have el':=StateV.up P23 el (y43.trans (u44.trans u47));have eh':=StateV.up P23 eh (y43.trans (u44.trans u47));rcases aFc (s:=s) (b:=c) with ⟨hk,a1,a2⟩|⟨hk,a1,a2⟩|⟨hk,a1⟩|⟨hk,a1,a2⟩
  all_goals rw [hk]
  ·have dx:gQ s x:=aKi ux1 a1;have nx:¬ bF s x:=fun h=>a2 (lV ux2 h);have hw:dK s ⟨x,x⟩=0:=by unfold dK;rw [if_neg nx,if_neg nx,if_neg (fun h=>h dx)]
   rw [hw];refine⟨fun _=>?_,fun h=>absurd h oz⟩;refine aHt pS' px' hE zx oz oz oz oz fun k50 u50=>⟨_,rfl,fun _=>?_,fun h=>absurd dx (ov h)⟩;refine jR (SecV.up P1 pS' u50) (StateV.up P191 px' u50) hE zx oz oz oz oz fun k52 u52=>⟨_,rfl,fun _=>⟨fun _=>aw k52 (v47.trans (u50.trans u52)),fun h=>absurd h oz⟩,fun h=>absurd (ow (jU h)) nx⟩
  ·have nx:¬ bF s x:=fun h=>a2 (lV ux2 h);have hw:dK s ⟨x,x⟩=0∨dK s ⟨x,x⟩=1:=by
    unfold dK;rw [if_neg nx,if_neg nx];split
    ·exact .inr rfl
    ·exact .inl rfl
   refine⟨fun h=>absurd h oz,fun _=>⟨fun _=>?_,fun h=>absurd h oz⟩⟩;refine jR pS' px' hE zx oz oz oz oz fun k60 u60=>⟨_,rfl,fun _=>?_,fun h=>absurd (ow (jU h)) nx⟩;refine aHt (SecV.up P1 pS' u60) (StateV.up P23 el' u60) hE zl oz oz oz oz fun k62 u62=>⟨_,rfl,fun _=>?_,fun h=>absurd (ow (jU h)) a1⟩;rcases hw with hw|hw
   all_goals rw [hw]
   ·exact⟨fun _=>aw k62 (v47.trans (u60.trans u62)),fun h=>absurd h oz⟩
   ·exact⟨fun h=>absurd h oz,fun _=>⟨fun _=>aw k62 (v47.trans (u60.trans u62)),fun h=>absurd h oz⟩⟩
  ·have hx':bF s x:=lV ux1 a1;have hw:dK s ⟨x,x⟩=2:=by unfold dK;rw [if_pos hx']
   rw [hw];refine⟨fun h=>absurd h oz,fun _=>⟨fun h=>absurd h oz,fun _=>⟨fun _=>?_,fun h=>absurd h oz⟩⟩⟩;exact jR pS' px' hE zx oz oz oz oz fun k73 u73=>⟨_,rfl,fun _=>⟨fun _=>aw k73 (v47.trans u73),fun h=>absurd h oz⟩,fun h=>absurd hx' (ov h)⟩
  ·refine⟨fun h=>absurd h oz,fun _=>⟨fun h=>absurd h oz,fun _=>⟨fun h=>absurd h oz,fun _=>⟨fun _=>?_,fun h=>absurd h oz⟩⟩⟩⟩;refine jR pS' eh' hE zh oz oz oz oz fun k80 u80=>⟨_,rfl,fun _=>?_,fun h=>absurd a1 (ov h)⟩;exact jR (SecV.up P1 pS' u80) (StateV.up P23 el' u80) hE zl oz oz oz oz fun k82 u82=>⟨_,rfl,fun _=>aw k82 (v47.trans (u80.trans u82)),fun h=>absurd (ow (jU h)) a2⟩
end
