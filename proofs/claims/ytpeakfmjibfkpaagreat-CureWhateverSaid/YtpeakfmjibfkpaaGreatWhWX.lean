/- Several texts in one. (Printed by prep.py.) -/
import Derived.Test.YtpeakfmjibfkpaaGreatWhFW
import Derived.Test.YtpeakfmjibfkpaaGreatWhLP
namespace Go.Proofs.YtpeakfmjibfkpaaGreat
open Go.RowKit Num W32
open Sy (Up Sees CallsG Seg dead)
section
variable {k kk k' w w' W:World}{a c:Nat}
theorem jA (h:Sees k w) (b:Below w.heap.size w W):Up k W:=
 ⟨b.os.trans h.os,b.tape.trans h.tape,b.output.trans h.output,by rw [←h.size];exact b.size,fun g o hg hne=>stay (h.live g o hg hne) b⟩
theorem aZf (hb:Below k.heap.size k kk) (u:Up kk w') (u':Up k k') (hs:k'.heap.size=w'.heap.size) (hn:∀g,k.heap.size≤g→k'.heap[g]?=w'.heap[g]?):Up kk k':=
 ⟨u'.os.trans hb.os.symm,u'.tape.trans hb.tape.symm,u'.output.trans hb.output.symm,by rw [hs];exact u.size,fun g o hg hne=>by
   by_cases h:g<k.heap.size
   ·exact u'.live g o ((hb.block g h).symm.trans hg) hne
   ·rw [hn g oq];exact u.live g o hg hne⟩
def Dk (k:World) (a c g:Nat):Prop:=k.heap[g]?=some dead∨g=a∨g=c
theorem kZ {ca cc:Array Value}{t t':TypeId}(hs:Sees k w) (hb:Below w.heap.size w W) (ha:W.heap[a]?=some (.cells ca t (0,0))) (hc:W.heap[c]?=some (.cells cc t' (0,0))) (na:∀u∈ca.toList,u.noWord=true) (nc:∀u∈cc.toList,u.noWord=true) :
 ∀g,Dk k a c g→g<W.heap.size→∃cs t fr,W.heap[g]?=some (.cells cs t fr)∧∀u∈cs.toList,u.noWord=true:=by
 rintro g (h|rfl|rfl) _
 ·obtain⟨cs,t,fr,h1,h2⟩:=hs.dark g h;exact⟨cs,t,fr,stay h1 hb,h2⟩
 ·exact⟨_,_,_,ha,na⟩
 ·exact⟨_,_,_,hc,nc⟩
theorem yS (u:Up kk W) (hb:Below k.heap.size k kk) (ha:∀o,kk.heap[a]?=some o→o=dead) (hc:∀o,kk.heap[c]?=some o→o=dead):Up kk (MK (Dk k a c) W):=
 aWs u fun g o hg hne=>by
  rintro (h|rfl|rfl)
  ·have:=(hb.block g (Sy.heap_lt h)).trans h;rw [hg]at this;exact hne (Option.some.inj this)
  ·exact hne (ha o hg)
  ·exact hne (hc o hg)
theorem oB (u:Up k W) (ha:k.heap.size≤a) (hc:k.heap.size≤c):Below k.heap.size k (MK (Dk k a c) W):=
 ⟨u.os,u.tape,u.output,by rw [mk_size];exact u.size,fun g hg=>by
   have hw:=Nat.lt_of_lt_of_le hg u.size
   by_cases h:k.heap[g]?=some dead
   ·rw [mW (.inl h) hw,h]
   ·rw [iO (by rintro (h'|rfl|rfl);exact h h';omega;omega)];rw [Array.getElem?_eq_getElem hg]at h ⊢
    exact u.live g _ (Array.getElem?_eq_getElem hg) fun e=>h (by rw [e])⟩
theorem oE {P:Program}{f:FuncId}{args:Array Value}{D:Nat→Prop}{R:World→Value→Prop}(hD:∀g,D g→g<W.heap.size→∃cs t fr,W.heap[g]?=some (.cells cs t fr)∧∀u∈cs.toList,u.noWord=true) (u:Up kk (MK D W)) (h:∀k0,Up kk k0→CallsG P f args k0 R) :
 Calls P f args W fun e w'=>∃v k',e=.returned v∧Sees k' w'∧Below (MK D W).heap.size (MK D W) k'∧Below W.heap.size W w'∧R k' v:=h _ u W (aUo hD)
end
theorem aUp {D:Nat→Prop}{W:World}:Up (MK D W) W:=
 ⟨rfl,rfl,rfl,by rw [mk_size];exact oy _,fun g o hg hne=>by
   by_cases c:D g
   ·rw [mW c (by have:=Sy.heap_lt hg;rwa [mk_size]at this)]at hg;cases hg;exact absurd rfl hne
   ·rwa [iO c]at hg⟩
theorem aZg {kk W:World}{g:Nat}{t:TypeId}{cs:Array Value}(u:Up kk W) (h:kk.heap[g]?=some dead):Up kk (Sy.World.putBlk W g t cs):=
 ⟨u.os,u.tape,u.output,by rw [vF];exact u.size,fun p o hp hne=>by
   rw [qP fun e=>by subst e;rw [h]at hp;exact hne (Option.some.inj hp).symm];exact u.live p o hp hne⟩
theorem oP {kk:World}{g:Nat}(h:kk.heap[g]?=some dead):∀o,kk.heap[g]?=some o→o=dead:=fun o ho=>by rw [h]at ho;exact (Option.some.inj ho).symm
def rc (c:RCell):Array Value:=#[.bool c.b,.slice c.A c.n c.c,.slice c.D c.d c.e]
theorem aYv (q:Nat→Nat→RCell) (j:Nat):aDb q j=.agg ((rc (q j 0)).toList++((rc (q j 1)).toList++((rc (q j 2)).toList++((rc (q j 3)).toList++([]))))).toArray:=rfl
theorem aAh {k:World}{cs:Array Value}{x:Rat}{K:Nat}(h:RatV k cs x K):∃c,cs=rc c:=by
 obtain⟨g,A,n,c,D,d,e,e1,_⟩:=h;exact⟨⟨g,A,n,c,D,d,e⟩,e1⟩
theorem aLl {k w:World}{A9:Option Addr}{n9 K:Nat}{l:List PPhase}(hp:Lst k A9 n9 13 (PhV (NP K) k) l) (h0:∀j,j<l.length→0≤(at_ l j).steps) (hw:Sees k w) :
 ∃q:Nat→Nat→RCell,(∀j,j<n9→RangeV (NP K) k (rc (q j 0)) (rc (q j 1)) (rc (q j 2)) (rc (q j 3)) (at_ l j).r)∧PhsAt w A9 n9 (fun j=>(at_ l j).steps.toNat) q w.heap.size:=by
 obtain⟨hn,xs,hin,_,hv⟩:=hp;have hx:∀j,∃f:Nat→RCell,j<n9→RangeV (NP K) k (rc (f 0)) (rc (f 1)) (rc (f 2)) (rc (f 3)) (at_ l j).r∧xs[j*13]?=some (.int .i64 (at_ l j).steps)∧∀i v,((rc (f 0)).toList++((rc (f 1)).toList++((rc (f 2)).toList++((rc (f 3)).toList++([]))))).toArray[i]?=some v→xs[j*13+(i+1)]?=some v:=fun j=>by
  by_cases hj:j<n9
  ·obtain⟨a,_,⟨c0,c1,c2,c3,rfl,hr⟩,hq⟩:=hv.el hj;obtain⟨r0,rfl⟩:=aAh hr.s0;obtain⟨r1,rfl⟩:=aAh hr.s1;obtain⟨r2,rfl⟩:=aAh hr.a0;obtain⟨r3,rfl⟩:=aAh hr.a1;refine⟨fun i=>match i with|0=>r0|1=>r1|2=>r2|_=>r3,fun _=>⟨hr,by have:=hq 0 _ rfl;rwa [Nat.add_zero]at this,fun i v hi=>hq (i+1) v ?_⟩⟩
   rw [List.getElem?_toArray]at hi ⊢;rw [List.getElem?_cons_succ];exact hi
  ·exact⟨fun _=>⟨false,none,0,0,none,0,0⟩,fun h=>absurd h hj⟩
 obtain⟨q,hq⟩:=Classical.skolem.1 hx;refine⟨q,fun j hj=>(hq j hj).1,fun hpos=>?_⟩;obtain⟨b,o,e,hb,_⟩:=hin _ _ (hq 0 hpos).2.1;have cell:∀p v,xs[p]?=some v→w.cell? ⟨b,o+p,none⟩=some v:=fun p v h=>by
  obtain⟨b',o',e',_,hc⟩:=hin p v h;rw [e]at e';injection e' with e';injection e' with e1 e2;subst e1 e2;exact hw.cell hc
 refine⟨b,o,e,by rw [hw.size];exact hb,fun j hj=>?_,fun j i v hj hi=>?_⟩
 ·have:=cell _ _ (hq j hj).2.1
  rwa [show (at_ l j).steps=(((at_ l j).steps.toNat:Nat):Int) from (Int.toNat_of_nonneg (h0 j oq)).symm]at this
 ·have:=cell _ _ ((hq j hj).2.2 i v hi)
  rwa [←Nat.add_assoc]at this
theorem kD {l:List PPhase}:∀ {k:Nat}(hk:k≤l.length),(gD (len:=l.length) (fun j=>(at_ l j).steps.toNat) k hk).map (fun x=>(at_ l x.1).r)=jJ (l.take k)
 | 0,_=>rfl
 | k+1,hk=>by
  rw [aIn hk,aKg];show ((gD _ k _++List.replicate _ _).map _)=_;rw [List.map_append,kD oq,List.map_replicate];simp [jJ]
def aWi (N N':World→Array Value→Rat→Prop) (x y:PState) (k:World) (v:Value):Prop:=∃c:BCell,v=.agg #[sl c.a0,sl c.a1,sl c.a2,sl c.a3,sl c.a4,sl c.a5]∧StateW N N' k c.a0.A c.a0.n c.a1.A c.a1.n c.a2.A c.a2.n x∧StateW N N' k c.a3.A c.a3.n c.a4.A c.a4.n c.a5.A c.a5.n y
theorem aZu {N N':World→Array Value→Rat→Prop}{x y:PState}{k:World}{B0 B1 B2 B3 B4 B5:Option Addr}{m0 e0 m1 e1 m2 e2 m3 e3 m4 e4 m5 e5:Nat}(h:StateW N N' k B0 m0 B1 m1 B2 m2 x) (h':StateW N N' k B3 m3 B4 m4 B5 m5 y):aWi N N' x y k (S6 B0 m0 e0 B1 m1 e1 B2 m2 e2 B3 m3 e3 B4 m4 e4 B5 m5 e5):=⟨⟨⟨B0,m0,e0⟩,⟨B1,m1,e1⟩,⟨B2,m2,e2⟩,⟨B3,m3,e3⟩,⟨B4,m4,e4⟩,⟨B5,m5,e5⟩⟩,rfl,h,h'⟩
theorem nw6 {A0 A1 A2 A3 A4 A5:Option Addr}{n0 d0 n1 d1 n2 d2 n3 d3 n4 d4 n5 d5:Nat}:∀u∈(#[Value.slice A0 n0 d0,.slice A1 n1 d1,.slice A2 n2 d2,.slice A3 n3 d3,.slice A4 n4 d4,.slice A5 n5 d5]:Array Value).toList,u.noWord=true:=by simp [Value.noWord]
section
variable {k k':World}{R:World→Value→Prop}{l:List PPhase}{s:PSec}{b:PBand}{K T W d n0 n1 n2 n3 n4 n5 n6 n7 n8 n9 d0 d1 d2 d3 d4 d5 d6 d7 d8 d9:Nat}{A0 A1 A2 A3 A4 A5 A6 A7 A8 A9:Option Addr}
set_option maxHeartbeats 1000000 in
theorem aJh (hs:SecV (NP K) k A0 n0 A1 n1 A2 n2 s) (hl:StateV (NP T) k A3 n3 A4 n4 A5 n5 b.lo) (hh:StateV (NP T) k A6 n6 A7 n7 A8 n8 b.hi) (hp:Lst k A9 n9 13 (PhV (NP K) k) l)
 (hd:aI s=0→∀i,i<s.cells.length→(nbm s.links (i:Nat)).length≤d) (hml:tI b.lo) (hmh:tI b.hi) (hmr:∀j,j<l.length→MagR (at_ l j).r) (hK1:1≤K) (hT1:1≤T) (hK:K≤1000000) (hd2:d≤128) (hTT:T≤100000000)
 (hm:nH s b l=0→aK K d (T+(eF l).toNat*(K+1))≤90000) (hfin:nH s b l=0→T+(eF l).toNat*(K+1)≤W)
 (C:∀k' B0 m0 e0 B1 m1 e1 B2 m2 e2 B3 m3 e3 B4 m4 e4 B5 m5 e5,Up k k'→StateV (NP W) k' B0 m0 B1 m1 B2 m2 (aKj s b l).lo→StateV (NP W) k' B3 m3 B4 m4 B5 m5 (aKj s b l).hi→
   R k' (.tuple #[S6 B0 m0 e0 B1 m1 e1 B2 m2 e2 B3 m3 e3 B4 m4 e4 B5 m5 e5,.int .i64 (nH s b l)])) :
 Cl k 37 #[S3 A0 n0 d0 A1 n1 d1 A2 n2 d2,S6 A3 n3 d3 A4 n4 d4 A5 n5 d5 A6 n6 d6 A7 n7 d7 A8 n8 d8,.slice A9 n9 d9] R:=by
 intro k0 u0;have hN:=aF K;have hNT:=aF T;replace hs:=SecV.up hN hs u0;replace hl:=StateV.up hNT hl u0;replace hh:=StateV.up hNT hh u0;replace hp:=qL hN hp u0;replace C:=fun k' B0 m0 e0 B1 m1 e1 B2 m2 e2 B3 m3 e3 B4 m4 e4 B5 m5 e5 u=>C k' B0 m0 e0 B1 m1 e1 B2 m2 e2 B3 m3 e3 B4 m4 e4 B5 m5 e5 (u0.trans u);have out:∀ {w:World},Sees k0 w→∀o,k0.heap[w.heap.size+1+1]?=some o→o=dead:=fun hw o ho=>by
  have:=Sy.heap_lt ho;have:=hw.size;omega
 by_cases f:nH s b l=0
 rotate_left
 ·refine aCo (F:=fun _ _ v=>v=.tuple #[S6 none 0 0 none 0 0 none 0 0 none 0 0 none 0 0 none 0 0,.int .i64 (nH s b l)]) ?_ ?_
  ·rintro w w' k' v _ rfl u _ _;refine C k' _ _ _ _ _ _ _ _ _ _ _ _ _ _ _ _ _ _ u ?_ ?_
   all_goals unfold aKj fQ;rw [if_pos f];exact⟨.nil,.nil,.nil⟩
  ·intro w hw;refine (aEz (a0:=⟨A0,n0,d0⟩) (a1:=⟨A1,n1,d1⟩) (a2:=⟨A2,n2,d2⟩) (a3:=⟨A3,n3,d3⟩) (a4:=⟨A4,n4,d4⟩) (a5:=⟨A5,n5,d5⟩) (a6:=⟨A6,n6,d6⟩) (a7:=⟨A7,n7,d7⟩) (a8:=⟨A8,n8,d8⟩) (E:=nH s b l) (fun W hb h6=>?_) f).mono ?_
   ·have uW:=jA hw hb;refine (oE (kZ hw hb h6 h6 nw6 nw6) (yS uW (Below.refl _ k0) (out hw) (out hw)) (aHi hs hl hh hp hK1 hK hT1 oq (R:=fun _ v=>v=.int .i64 (nH s b l)) fun k' u=>rfl)).mono ?_;rintro e w' ⟨v,k',rfl,_,_,hb',rfl⟩;exact⟨rfl,hb'⟩
   ·rintro e w' ⟨rfl,hb⟩;exact⟨⟨_,rfl,rfl⟩,hb⟩
 obtain⟨hB,hPh⟩:=aXv f;obtain⟨hE,hz,hz',_⟩:=oA hB;obtain⟨h16,hph,h2000⟩:=aYm hPh;have hOK:OkB s b:=⟨hz,hz',hml,hmh⟩;have hc24:s.cells.length≤24:=by have:=bI hE;unfold bM at this;omega
 have hd:=hd hE;have hst:∀j,j<l.length→0≤(at_ l j).steps:=fun j hj=>(aWx (hph j hj)).1;have hm:=hm f;have hfin:=hfin f;obtain rfl:n9=l.length:=hp.1;have hL:(jJ l).length=(eF l).toNat:=by have:=aKh hst;omega
 have hLF:(gD (len:=l.length) (fun j=>(at_ l j).steps.toNat) l.length (oy _)).length=(eF l).toNat:=by
  have:=congrArg List.length (kD (l:=l) (oy _));rw [List.length_map,List.take_length,hL]at this;exact this
 have hW:∀j,j≤(eF l).toNat→aK K d (T+j*(K+1))≤90000∧T+j*(K+1)≤90000:=fun j hj=>by
  have h1:T+j*(K+1)≤T+(eF l).toNat*(K+1):=Nat.add_le_add_left (Nat.mul_le_mul_right _ hj) _;have h2:=Nat.le_trans (aGq h1) hm;exact⟨h2,Nat.le_trans pN h2⟩
 have hsucc:∀j:Nat,T+(j+1)*(K+1)=T+j*(K+1)+K+1:=fun j=>by rw [Nat.succ_mul];omega
 refine aCo (F:=fun w w' v=>∃kk,∃c:BCell,Up kk w'∧Below k0.heap.size k0 kk∧v=.tuple #[.agg #[sl c.a0,sl c.a1,sl c.a2,sl c.a3,sl c.a4,sl c.a5],.int .i64 0]∧StateV (NP W) kk c.a0.A c.a0.n c.a1.A c.a1.n c.a2.A c.a2.n (advL s (jJ l) b).lo∧StateV (NP W) kk c.a3.A c.a3.n c.a4.A c.a4.n c.a5.A c.a5.n (advL s (jJ l) b).hi) ?_ ?_
 ·rintro w w' k' v _ ⟨kk,c,uk,bk,rfl,g1,g2⟩ u hsz hnw;have uu:=aZf bk uk u hsz hnw;unfold aKj fQ at C;rw [f,if_neg (by simp)]at C;exact C k' _ _ _ _ _ _ _ _ _ _ _ _ _ _ _ _ _ _ u (StateV.up (aF _) g1 uu) (StateV.up (aF _) g2 uu)
 intro w hw;have hsz:=hw.size;obtain⟨q,hq,hpa⟩:=aLl hp hst hw
 refine (aBz (a0:=⟨A0,n0,d0⟩) (a1:=⟨A1,n1,d1⟩) (a2:=⟨A2,n2,d2⟩) (a3:=⟨A3,n3,d3⟩) (a4:=⟨A4,n4,d4⟩) (a5:=⟨A5,n5,d5⟩) (a6:=⟨A6,n6,d6⟩) (a7:=⟨A7,n7,d7⟩) (a8:=⟨A8,n8,d8⟩) (q:=q) (ps:=fun j=>(at_ l j).steps.toNat)
  (M:=fun m W=>∃kk,Up kk W∧Below k0.heap.size k0 kk∧kk.heap[w.heap.size+1+1]?=some dead∧NbV (NP K) kk m s.links)
  (X:=fun m W n c=>∃kk,Up kk W∧Below k0.heap.size k0 kk∧kk.heap[w.heap.size+1+1]?=some dead∧NbV (NP K) kk m s.links∧StateV (NP T) kk c.a0.A c.a0.n c.a1.A c.a1.n c.a2.A c.a2.n b.lo∧StateV (NP T) kk c.a3.A c.a3.n c.a4.A c.a4.n c.a5.A c.a5.n b.hi)
  (Inv:=fun m g10 base pre W c=>k0.heap.size≤base∧k0.heap.size≤g10∧∃kk,Up kk W∧KK k0 base (w.heap.size+1+1) g10 kk∧NbV (NP K) kk m s.links∧
    StateV (NP (T+pre.length*(K+1))) kk c.a0.A c.a0.n c.a1.A c.a1.n c.a2.A c.a2.n (advL s (pre.map fun x=>(at_ l x.1).r) b).lo∧StateV (NP (T+pre.length*(K+1))) kk c.a3.A c.a3.n c.a4.A c.a4.n c.a5.A c.a5.n (advL s (pre.map fun x=>(at_ l x.1).r) b).hi)
  ?h1 ?h2 ?h3 ?h4 ?hO ?hS ?hA ?hlen ?hsteps hpa).mono ?fin
 case h1=>
  intro W hb h6;refine (oE (kZ hw hb h6 h6 nw6 nw6) (yS (jA hw hb) (Below.refl _ k0) (out hw) (out hw)) (aHi hs hl hh hp hK1 hK hT1 oq (R:=fun _ v=>v=.int .i64 (nH s b l)) fun k' u=>rfl)).mono ?_;rintro e w' ⟨v,k',rfl,_,_,hb',rfl⟩;exact⟨by rw [f],hb'⟩
 case h2=>
  intro W hb h6;have bd:=oB (a:=w.heap.size+1+1) (c:=w.heap.size+1+1) (jA hw hb) oq oq
  refine (oE (kZ hw hb h6 h6 nw6 nw6) (yS (jA hw hb) (Below.refl _ k0) (out hw) (out hw)) (zH hs.links (by have:=bI hE;unfold bM at this;have:=hs.links.1;omega) (fun z hz=>by
   obtain⟨h1,h2⟩:=dP (cZ hE) z hz
   omega) (R:=fun k' v=>∃m,v=.agg #[.slice A0 n0 d0,.slice A1 n1 d1,.slice A2 n2 d2,.map (some m)]∧NbV (NP K) k' m s.links) fun k' M u h=>⟨M,rfl,h⟩)).mono ?_
  rintro e w' ⟨v,k',rfl,hk,hbk,hb',m,rfl,hM⟩;refine⟨m,rfl,hb',k',jA hk (Below.refl _ _),bd.trans (hbk.mono bd.size),?_,hM⟩;have hlt:=Sy.heap_lt h6;exact (hbk.block _ (by rw [mk_size];exact hlt)).trans (mW (.inr (.inl rfl)) hlt)
 case h3=>
  rintro m W0 W ⟨kk,uk,bk,d6,hM⟩ hb0 hb h6;have bd:=oB (a:=w.heap.size+1+1) (c:=w.heap.size+1+1) (jA hw hb) oq oq;have ud:=yS (uk.trans (Up.of_below hb0)) bk (oP d6) (oP d6);have ukk:=Up.of_below bk;refine (oE (kZ hw hb h6 h6 nw6 nw6) ud (aOb (StateV.up hNT hl ukk) (StateV.up hNT hh ukk) (lR hz hc24) (lR hz' hc24) (R:=fun k' v=>∃c:BCell,v=.agg #[sl c.a0,sl c.a1,sl c.a2,sl c.a3,sl c.a4,sl c.a5]∧StateV (NP T) k' c.a0.A c.a0.n c.a1.A c.a1.n c.a2.A c.a2.n b.lo∧StateV (NP T) k' c.a3.A c.a3.n c.a4.A c.a4.n c.a5.A c.a5.n b.hi) fun k' B0 m0 e0 B1 m1 e1 B2 m2 e2 B3 m3 e3 B4 m4 e4 B5 m5 e5 u g1 g2=>⟨⟨⟨B0,m0,e0⟩,⟨B1,m1,e1⟩,⟨B2,m2,e2⟩,⟨B3,m3,e3⟩,⟨B4,m4,e4⟩,⟨B5,m5,e5⟩⟩,rfl,g1,g2⟩)).mono ?_;rintro e w' ⟨v,k',rfl,hk,hbk,hb',c,rfl,g1,g2⟩;refine⟨c,rfl,hb',k',jA hk (Below.refl _ _),bd.trans (hbk.mono bd.size),?_,NbV.up hN hM (ud.trans (Up.of_below hbk)),g1,g2⟩;have hlt:=Sy.heap_lt h6;exact (hbk.block _ (by rw [mk_size];exact hlt)).trans (mW (.inr (.inl rfl)) hlt)
 case h4=>
  rintro m w3 n c W ⟨kk,uk,bk,d6,hM,g1,g2⟩ hb hlt;have uW:=uk.trans (Up.of_below hb);have h3:=Nat.le_trans bk.size uk.size;have h6:=Nat.lt_of_lt_of_le (Sy.heap_lt d6) uW.size;have ud:=yS (c:=w3.heap.size) uW bk (oP d6) (fun o ho=>by have:=Sy.heap_lt ho;have:=uk.size;omega);have g1:=StateV.up hNT g1 ud;have g2:=StateV.up hNT g2 ud;refine⟨Nat.le_trans h3 hb.size,h3,_,aUp,⟨oB ((Up.of_below bk).trans uW) oq h3,mW (.inr (.inl rfl)) h6,mW (.inr (.inr rfl)) hlt,fun g o hg ho=>?_⟩,NbV.up hN hM ud,g1.mono fun _ _ h=>h.mono (by simp),g2.mono fun _ _ h=>h.mono (by simp)⟩;have:=Sy.heap_lt ho;rw [mk_size]at this;omega
 case hO=>
  rintro m g10 base c pre W W' row ⟨i1,i2,kk,uk,hk,r⟩ hg hr;exact⟨i1,i2,kk,aXz hk uk hg hr,hk,r⟩
 case hS=>
  rintro m g10 base pre W c g cs ⟨i1,i2,kk,uk,hk,r⟩ hg e;exact⟨i1,i2,kk,aZg uk (by rcases e with rfl|rfl;exact hk.d10;exact hk.d6),hk,r⟩
 case hA=>
  rintro m g10 base pre x W c hlt ⟨i1,i2,kk,uk,hk,hM,g1,g2⟩ hb h6 h10;rw [hLF]at hlt;have bd:=oB (a:=w.heap.size+1+1) (c:=g10) (jA hw hb) oq i2;have ud:=yS uk hk.bel (oP hk.d6) (oP hk.d10);have ukk:=Up.of_below hk.bel;have hj:=OkB.advL hE (rs:=pre.map fun x=>(at_ l x.1).r) (fun r hr=>by obtain⟨y,_,rfl⟩:=List.mem_map.1 hr;exact hmr y.1 y.2) hOK;have hWj:=hW _ (Nat.le_of_lt hlt);rw [aYv];refine (oE (kZ hw hb h6 h10 nw6 nw6) ud (aNr (b:=advL s (pre.map fun x=>(at_ l x.1).r) b) (r:=(at_ l x.1).r) (SecV.up hN hs ukk) g1 g2 hM (RangeV.up hN (hq x.1 x.2) ukk) hE hj.lo hj.hi hd hK1 oq hWj.1 hd2 (R:=aWi (NP (aK K d (T+pre.length*(K+1))+1001)) (NP (T+pre.length*(K+1)+K+1)) (cG s (advL s (pre.map fun x=>(at_ l x.1).r) b) (at_ l x.1).r).lo (cG s (advL s (pre.map fun x=>(at_ l x.1).r) b) (at_ l x.1).r).hi) fun k' B0 m0 e0 B1 m1 e1 B2 m2 e2 B3 m3 e3 B4 m4 e4 B5 m5 e5 u t1 t2=>(by exact aZu t1 t2))).mono ?_;rintro e w' ⟨v,k',rfl,hsk,hbk,hb',c',rfl,t1,t2⟩;have k6:k'.heap[w.heap.size+1+1]?=some dead:=(hbk.block _ (by rw [mk_size];exact Sy.heap_lt h6)).trans (mW (.inr (.inl rfl)) (Sy.heap_lt h6));have k10:k'.heap[g10]?=some dead:=(hbk.block _ (by rw [mk_size];exact Sy.heap_lt h10)).trans (mW (.inr (.inr rfl)) (Sy.heap_lt h10));have hKK:=aPk (bd.trans (hbk.mono bd.size)) i1 k6 k10;have uS:=aSq hk (ud.trans (Up.of_below hbk));obtain⟨q1,q2⟩:=yY hE hj.lo hj.hi hj.magl hj.magh (hmr x.1 x.2);refine⟨c',rfl,hb',i1,i2,_,aSh hsk,hKK,NbV.up hN hM uS,?_,?_⟩
  all_goals rw [List.length_append,List.map_append,show [x].length=1 from rfl,hsucc,List.map_singleton,wO]
  ·exact vW (t1.tightP q1 oq) mk_size fun a v h=>vZ h
  ·exact vW (t2.tightP q2 oq) mk_size fun a v h=>vZ h
 case hlen=>omega
 case hsteps=>
  intro j hj;have h1:=yO hj;have h2:=tG hst (j+1);have h3:=tG hst j;show (at_ l j).steps.toNat≤1000000;omega
 case fin=>
  rintro e w' ⟨m,g10,base,c,rfl,hb,_,_,kk,uk,hk,_,g1,g2⟩;rw [kD,List.take_length,hLF]at g1 g2;exact⟨⟨_,rfl,kk,c,uk,hk.bel,rfl,g1.mono fun _ _ h=>h.mono hfin,g2.mono fun _ _ h=>h.mono hfin⟩,hb⟩
end
open Sy (Up Sees CallsG Seg ReadAt)
theorem aEe {l:List Rat}{v:Rat}{i:Nat}(h:i<l.length):at_ (l++[v]) i=at_ l i:=by
 unfold at_;rw [List.getD_eq_getElem?_getD,List.getD_eq_getElem?_getD,List.getElem?_append_left h]
theorem aEd {l:List Rat}{v:Rat}:at_ (l++[v]) l.length=v:=by
 unfold at_;rw [List.getD_eq_getElem?_getD,List.getElem?_append_right (oy _),Nat.sub_self];rfl
theorem aAy {P:Array Value→Rat→Prop}{l:List Rat}{xs a:Array Value}{v:Rat}(h:ArrV l.length 3 P xs (at_ l)) (ha:a.size=3) (hv:P a v):ArrV (l++[v]).length 3 P (xs++a.toList.toArray) (at_ (l++[v])):=by
 rw [List.length_append];exact ArrV.push (h.congr fun i hi=>(aEe hi).symm) ha (by rw [aEd];exact hv)
def Btl (a l b:List Rat):Prop:=∀i,i<l.length→at_ a i≤at_ l i∧at_ l i≤at_ b i
theorem aIv {s:PSec}{b:PBand}(hE:aI s=0) (zl:sized s b.lo) (zh:sized s b.hi) (hu:fU b.lo b.hi):eA s b=0:=by
 have h:dJ s b.lo=0:=by unfold dJ;rw [if_neg (by simp [hE]),if_neg (fun h=>h zl)]
 unfold eA;rw [if_neg (by simp [h]),if_neg (fun h=>h zh),if_neg (fun h=>h hu)]
theorem wR {s:PSec}{u:Rat}(h:Mag u):tI (aO s u):=fun i hi=>by
 have hi:i<s.cells.length:=by simpa [aO] using hi
 show Mag (at_ (List.replicate _ u) i);rw [bH hi];exact h
section
variable {k:World}{R:World→Value→Prop}{s:PSec}{la lb:List Int}{n0 n1 n2 d0 d1 d2 n9 d9 n10 d10:Nat}{A0 A1 A2 A9 A10:Option Addr}{gg0 gg1 gg2 gg3 rr0 rr1 rr2 rr3 rr4 rr5 rr6 rr7 ll0 ll1 ll2 ll3 ll4 ll5 ll6 ll7 w0 w1:Int}
end
section
variable {s:PSec}{x:PState}{b b' c t:PBand}{r:PRange}{us vs:List Rat}{u v:Rat}
theorem aDg {us' vs':List Rat}:∀ {j:Nat},(∀i,i<j→at_ us i=at_ us' i∧at_ vs i=at_ vs' i)→jT s us vs j x=jT s us' vs' j x
 | 0,_=>rfl
 | j+1,h=>by
  have e:=aDg (j:=j) fun i hi=>h i oq;show aY s (jT s us vs j x) (at_ us j) (at_ vs j)=aY s (jT s us' vs' j x) (at_ us' j) (at_ vs' j);rw [e,(h j oq).1,(h j oq).2]
theorem aDh {j:Nat}(hu:us.length=j) (hv:vs.length=j):jT s (us++[u]) (vs++[v]) (j+1) x=aY s (jT s us vs j x) u v:=by
 show aY s (jT s (us++[u]) (vs++[v]) j x) (at_ (us++[u]) j) (at_ (vs++[v]) j)=_;rw [aDg (us':=us) (vs':=vs) fun i hi=>⟨aEe oq,aEe oq⟩];subst hu;rw [aEd];rw [←hv,aEd]
theorem aAu:∀ {n:Nat}{b:PBand},advL s (List.replicate n r) b=wG s r n b
 | 0,_=>rfl
 | n+1,b=>by
  rw [List.replicate_succ',wO,aAu];rfl
theorem aRk (hr:dH r=0):r.s0≤r.s1∧r.a0≤r.a1:=by
 unfold dH at hr;split at hr
 ·cases hr
 ·rename_i hn;exact⟨Rat.not_lt.1 fun c=>hn (.inl c),Rat.not_lt.1 fun c=>hn (.inr c)⟩
theorem vI {p q p' q':Rat}(h:p≤q) (h':p'≤q'):dH ⟨p,q,p',q'⟩=0:=by
 unfold dH;rw [if_neg];rintro (h1|h1)
 ·exact Rat.not_lt.2 h h1
 ·exact Rat.not_lt.2 h' h1
structure Held (s:PSec) (x:PState) (c t:PBand):Prop where
 enc:Enc s c x
 ord:Und s.cells.length t.lo t.hi
 wit:Wit s t c
theorem Held.step (hE:aI s=0) (_hr:dH r=0) (h:Held s x c t) (hu:Bt r.s0 u r.s1) (hv:Bt r.a0 v r.a1):Held s (aY s x u v) (cG s c r) (cG s t ⟨u,r.s1,r.a0,v⟩):=
 ⟨aOv hE h.enc hu hv,aIt hE h.ord (vI hu.2 hv.1),aEb hE h.wit hu.1 Rat.le_refl Rat.le_refl hv.2⟩
theorem aFd {p q:Rat}(h:Und s.cells.length (aO s p) x) (h':Und s.cells.length x (aO s q)):Held s x (eD s p q) ⟨x,aO s q⟩:=⟨⟨h,h'⟩,h',⟨h,Und.refl⟩⟩
theorem aHo {n:Nat}(hA:fL s b r=0) (hn:n≤2000):nH s b [⟨(n:Int),r⟩]=0:=by
 have hB:=aNn hA;have hR:dH r=0:=by unfold fL at hA;rwa [if_neg (by rw [hB];simp)]at hA
 have p0:phE (at_ [(⟨(n:Int),r⟩:PPhase)] 0)=0:=by
  show phE ⟨(n:Int),r⟩=0;unfold phE;rw [if_neg (show ¬ (n:Int)<0 by omega)];exact hR
 have hf:gS (fun i=>phE (at_ [(⟨(n:Int),r⟩:PPhase)] i)) [(⟨(n:Int),r⟩:PPhase)].length=0:=by
  show gS _ 1=_;unfold gS;unfold gS;rw [p0];simp
 unfold nH aAb;rw [if_neg (by rw [hB];simp),if_neg (by simp),hf];have hs:¬ 2000<eF [(⟨(n:Int),r⟩:PPhase)]:=by simp only [eF];omega
 rw [if_neg hs];rfl
theorem aOy {n:Nat}(hA:fL s b r=0) (hn:n≤2000):aKj s b [⟨(n:Int),r⟩]=wG s r n b:=by
 unfold aKj fQ;rw [aHo hA hn,if_neg (by simp)];show advL s (List.replicate (n:Int).toNat r++[]) b=_;rw [List.append_nil,Int.toNat_natCast,aAu]
theorem aLh {k:World}{p:Nat}{ty:TypeId}{t0:Int}{c0 c1 c2 c3:Array Value}{K:Nat}(hb:Sy.Blk k p ty ((Value.int .i64 t0) :: (c0.toList++(c1.toList++(c2.toList++(c3.toList++([])))))).toArray) (h:RangeV (NP K) k c0 c1 c2 c3 r) :
 Lst k (some ⟨p,0,none⟩) 1 13 (PhV (NP K) k) [⟨t0,r⟩]:=by
 have hN:=aF K;have hseg:∀a (v:PPhase),PhV (NP K) k a v→Sy.Seg 13 a:=fun _ _ h=>PhV.seg hN h;have a0:PhV (NP K) k ((Value.int .i64 t0) :: (c0.toList++(c1.toList++(c2.toList++(c3.toList++([])))))).toArray (at_ [(⟨t0,r⟩:PPhase)] 0):=⟨c0,c1,c2,c3,rfl,h⟩;have hA:=ArrV.push (ArrV.empty (s:=13) (P:=PhV (NP K) k) (f:=at_ [(⟨t0,r⟩:PPhase)])) (hseg _ _ a0).1 a0;refine⟨rfl,((Value.int .i64 t0) :: (c0.toList++(c1.toList++(c2.toList++(c3.toList++([])))))).toArray,fun q u hq=>⟨p,0,rfl,Sy.heap_lt hb,by rw [Nat.zero_add];exact cel hb hq⟩,?_,?_⟩
 ·have:=hA.rowC hseg;simpa using this
 ·simpa using hA
end
section
variable {N N':World→Array Value→Rat→Prop}{k:World}{A B C:Option Addr}{n n' n'':Nat}{s:PSec}
theorem RateV.mono {cs:Array Value}{r:PRate}(h:RateV N k cs r) (hN:∀cs q,N k cs q→N' k cs q):RateV N' k cs r:=by
 obtain⟨c0,c1,e,h0,h1⟩:=h;exact⟨c0,c1,e,hN _ _ h0,hN _ _ h1⟩
theorem SecV.mono (h:SecV N k A n B n' C n'' s) (hN:∀cs q,N k cs q→N' k cs q):SecV N' k A n B n' C n'' s:=
 ⟨h.mats.mono fun _ _ ⟨A,n,c,B,n',c',c0,c1,e,l0,l1,h0,h1⟩=>⟨A,n,c,B,n',c',c0,c1,e,l0.mono fun _ _ h=>RateV.mono h hN,l1.mono fun _ _ h=>RateV.mono h hN,hN _ _ h0,hN _ _ h1⟩,
   h.cells.mono fun _ _ ⟨c0,c1,c2,e,h0,h1,h2⟩=>⟨c0,c1,c2,e,hN _ _ h0,hN _ _ h1,hN _ _ h2⟩,h.links.mono fun _ _ ⟨c0,e,h0⟩=>⟨c0,e,hN _ _ h0⟩⟩
end
def U8P (a:Array Value) (v:Int×Int):Prop:=(0≤v.1∧v.1≤255)∧(0≤v.2∧v.2≤255)∧a=#[.int .u8 v.1,.int .u8 v.2]
theorem yG {e:Int}{x:PState}(h:e=0):sU e x=x:=if_neg (by simp [h])
theorem yF {e:Int}{x:PBand}(h:e=0):fQ e x=x:=if_neg (by simp [h])
theorem tL {s:PSec}{x:PState}(hE:aI s=0) (hz:sized s x):dJ s x=0:=by unfold dJ;rw [if_neg (by simp [hE]),if_neg (by simpa using hz)]
theorem aAv {s:PSec}{b:PBand}{r:PRange}(hE:aI s=0) (zl:sized s b.lo) (zh:sized s b.hi) (hu:Und s.cells.length b.lo b.hi) (hr:dH r=0):fL s b r=0:=by
 have:=aIv hE zl zh ((rG zl zh).2 hu);unfold fL;rw [if_neg (by simp [this])];exact hr
theorem kE {s:PSec}{b:PBand}{x:PState}(zl:sized s b.lo) (zh:sized s b.hi) (zx:sized s x) (h:Enc s b x):dK b x:=uH.2 ⟨(rG zl zx).2 h.1,(rG zx zh).2 h.2⟩
theorem wD {s:PSec}{b b':PBand}(zl:sized s b.lo) (zh:sized s b.hi) (zl':sized s b'.lo) (zh':sized s b'.hi) (h:Wit s b b') (ho:Und s.cells.length b.lo b.hi):dK b' b.lo∧dK b' b.hi:=
 ⟨kE zl' zh' zl ⟨h.1,ho.trans h.2⟩,kE zl' zh' zh ⟨h.1.trans ho,h.2⟩⟩
theorem aFh {p q r:Rat}(h:Mag p) (h':Mag r) (hb:p≤q∧q≤r):Mag q:=⟨Rat.le_trans h.1 hb.1,Rat.le_trans hb.2 h'.2⟩
theorem dC {s:PSec}{x:PState}(hc:s.cells.length≤24) (h:sized s x):lQ x:=by
 obtain⟨a1,a2,a3⟩:=h;exact⟨oq,oq,oq⟩
section
variable {k:World}{R:World→Value→Prop}{s:PSec}{t:Rat}{cs:Array Value}{K n0 n1 n2 d0 d1 d2:Nat}{A0 A1 A2:Option Addr}
structure Three (K:Nat) (k:World) (n0:Nat) (x0:Array Value) (n1:Nat) (x1:Array Value) (n2:Nat) (x2:Array Value) (x:PState):Prop where
 l0:n0=x.temp.length
 l1:n1=x.cure.length
 l2:n2=x.spoil.length
 a0:ArrV n0 3 (NP K k) x0 (at_ x.temp)
 a1:ArrV n1 3 (NP K k) x1 (at_ x.cure)
 a2:ArrV n2 3 (NP K k) x2 (at_ x.spoil)
theorem aJo (hn:n1=s.cells.length) (hn2:n1≤1000000) (ht:RatV k cs t K) (C:∀k' B0 m0 e0 y0 B1 m1 e1 y1 B2 m2 e2 y2,Up k k'→Three K k' m0 y0 m1 y1 m2 y2 (aO s t)→R k' (.tuple #[.slice B0 m0 e0,.agg y0,.slice B1 m1 e1,.agg y1,.slice B2 m2 e2,.agg y2])) :
 ∀k0,Up k k0→Sy.CallsR3 Tryz.prog 56 #[S3 A0 n0 d0 A1 n1 d1 A2 n2 d2,.agg cs] k0 75 3 R:=by
 intro k0 u0;replace ht:=ht.up u0;replace C:=fun k' B0 m0 e0 y0 B1 m1 e1 y1 B2 m2 e2 y2 u=>C k' B0 m0 e0 y0 B1 m1 e1 y1 B2 m2 e2 y2 (u0.trans u);have hup:∀ {k k':World}{xs:Array Value}{j:Nat}{f:Nat→Rat},Up k k'→ArrV j 3 (NP K k) xs f→ArrV j 3 (NP K k') xs f:=fun u h=>h.mono fun _ _ h=>h.up u;have hseg:∀ {k:World},∀a v,NP K k a v→Seg 3 a:=fun _ _ h=>h.seg
 refine aEq ht.seg ⟨rfl,fun m k vs=>∃(j:Nat) (B0 B1 B2:Option Addr) (e0 e1 e2:Nat) (x0 x1 x2:Array Value),j+m=n1∧vs=[.int .i64 j,.tuple #[.slice B0 j e0,.agg x0],.tuple #[.slice B1 j e1,.agg x1],.tuple #[.slice B2 j e2,.agg x2]]∧
  ArrV j 3 (NP K k) x0 (at_ (aO s t).temp)∧ArrV j 3 (NP K k) x1 (at_ (aO s t).cure)∧ArrV j 3 (NP K k) x2 (at_ (aO s t).spoil),
  ⟨n1,fun k1 u1=>⟨0,_,_,_,_,_,_,_,_,_,oq,rfl,ArrV.empty,ArrV.empty,ArrV.empty⟩⟩,?_⟩
 rintro m k1 vs u1 ⟨j,B0,B1,B2,g0,g1,g2,x0,x1,x2,hj,rfl,h0,h1,h2⟩;refine⟨j,B0,j,g0,x0,h0.rowC hseg,B1,j,g1,x1,h1.rowC hseg,B2,j,g2,x2,h2.rowC hseg,rfl,fun hlt=>?_,fun hge k2 u2=>?_⟩
 ·have hlt:=aH hlt;have hjn:j<s.cells.length:=oq
  refine⟨by simp [ht.seg.1],oz,⟨by simp;omega,by simp;omega⟩,?_⟩;rintro B0' _ g0' _ rfl rfl _;refine⟨oz,oz,⟨by simp;omega,by simp;omega⟩,?_⟩;rintro B1' _ g1' _ rfl rfl _;refine⟨oz,oz,⟨by simp;omega,by simp;omega⟩,?_⟩;rintro B2' _ g2' _ rfl rfl _ k3 u3;refine⟨m-1,oq,j+1,B0',B1',B2',g0',g1',g2',_,_,_,oq,by rw [aD oq];rfl,?_,?_,?_⟩
  ·rw [List.append_nil];exact ArrV.push (hup u3 h0) ht.seg.1 (by show NP K k3 cs (at_ (List.replicate _ t) j);rw [bH hjn];exact (ht.up u1).up u3)
  ·exact ArrV.push (a:=#[.bool false,.slice none 0 0,.slice none 0 0]) (hup u3 h1) rfl (by show NP K k3 _ (at_ (List.replicate _ 0) j);rw [bH hjn];exact mF K)
  ·exact ArrV.push (a:=#[.bool false,.slice none 0 0,.slice none 0 0]) (hup u3 h2) rfl (by show NP K k3 _ (at_ (List.replicate _ 0) j);rw [bH hjn];exact mF K)
 ·have hge:=aG hge;exact C k2 _ _ _ _ _ _ _ _ _ _ _ _ (u1.trans u2) ⟨by simp [aO];omega,by simp [aO];omega,by simp [aO];omega,hup u2 h0,hup u2 h1,hup u2 h2⟩
theorem aBh (hs:SecV (NP K) k A0 n0 A1 n1 A2 n2 s) (ht:RatV k cs t K) (hK1:1≤K) (hK:K≤1000000) (hE:aI s=0)
 (C:∀k' B0 m0 e0 y0 B1 m1 e1 y1 B2 m2 e2 y2,Up k k'→Three K k' m0 y0 m1 y1 m2 y2 (aO s t)→R k' (.tuple #[.slice B0 m0 e0,.agg y0,.slice B1 m1 e1,.agg y1,.slice B2 m2 e2,.agg y2])) :
 ∀k0,Up k k0→Sy.CallsR3E Tryz.prog 40 #[S3 A0 n0 d0 A1 n1 d1 A2 n2 d2,.agg cs] k0 75 3 R:=by
 intro k0 u0;replace hs:=SecV.up (aF K) hs u0;replace ht:=ht.up u0;replace C:=fun k' B0 m0 e0 y0 B1 m1 e1 y1 B2 m2 e2 y2 u=>C k' B0 m0 e0 y0 B1 m1 e1 y1 B2 m2 e2 y2 (u0.trans u);refine zC ht.seg (oI hs hK1 hK fun k1 u1=>⟨_,rfl,fun f=>absurd hE (bZ f),fun f=>?_⟩);have hc24:s.cells.length≤24:=by have:=bI hE;unfold bM at this;omega
 refine aJo (s:=s) hs.cells.1 (by rw [hs.cells.1];omega) (ht.up u1) fun k6 B0 m0 e0 y0 B1 m1 e1 y1 B2 m2 e2 y2 u6 hr=>⟨_,_,_,_,_,_,_,_,_,_,_,_,rfl,fun k7 u7=>?_⟩;exact C k7 B0 m0 e0 y0 B1 m1 e1 y1 B2 m2 e2 y2 ((u1.trans u6).trans u7) ⟨hr.l0,hr.l1,hr.l2,hr.a0.mono fun _ _ h=>h.up u7,hr.a1.mono fun _ _ h=>h.up u7,hr.a2.mono fun _ _ h=>h.up u7⟩
end
section
variable {k:World}{R:World→Value→Prop}{s:PSec}{la:List Int}{lb:List (Int×Int)}{n0 n1 n2 d0 d1 d2 n9 d9 n10 d10:Nat}{A0 A1 A2 A9 A10:Option Addr}{gg0 gg1 gg2 gg3 rr0 rr1 rr2 rr3 rr4 rr5 rr6 rr7:Int}
theorem aTa {P:Array Value→Rat→Prop}{n j:Nat}{xs a:Array Value}{f:Nat→Rat}{v:Rat}(h:ArrV n 3 P xs f) (hj:j<n) (ha:a.size=3) (hv:P a v):∃g,ArrV n 3 P (Sy.over xs (Int.toNat (j:Int)*3+0) a.toList) g∧g j=v∧∀i,i≠j→g i=f i:=
 ⟨fun i=>if i=j then v else f i,h.set hj ha (by simp only [if_true];exact hv) (fun i _ hne=>by simp [hne]),if_pos rfl,fun i hi=>if_neg hi⟩
set_option maxHeartbeats 4000000 in
theorem tS (hs:SecA k A0 n0 A1 n1 A2 n2 s) (g0:In64 gg0) (g1:In64 gg1) (g2:In64 gg2) (g3:In64 gg3) (r0:In64 rr0) (r1:In64 rr1) (r2:In64 rr2) (r3:In64 rr3) (r4:In64 rr4) (r5:In64 rr5) (r6:In64 rr6) (r7:In64 rr7) (hla:Lst k A9 n9 1 U8A la) (hlb:Lst k A10 n10 2 U8P lb) (C:∀k',Up k k'→R k' (.bool true)) :
 Cl k 7 #[S3 A0 n0 d0 A1 n1 d1 A2 n2 d2,.agg #[.int .i64 gg0,.int .i64 gg1],.agg #[.int .i64 gg2,.int .i64 gg3],.agg #[.int .i64 rr0,.int .i64 rr1,.int .i64 rr2,.int .i64 rr3,.int .i64 rr4,.int .i64 rr5,.int .i64 rr6,.int .i64 rr7],.slice A9 n9 d9,.slice A10 n10 d10] R:=by
 intro k0 u0;replace hs:=hs.up u0;replace hla:=hla.kept u0;replace hlb:=hlb.kept u0;replace C:=fun k' u=>C k' (u0.trans u);have aw:∀k1,Up k0 k1→Cl k1 13 #[] fun k8 r7=>∃b10,some (Value.bool b10)=some r7∧∀k9,Up k8 k9→R k9 (Value.bool b10):=
  fun k1 u1=>aNu fun k3 u3=>⟨_,rfl,fun k4 u4=>C k4 ((u1.trans u3).trans u4)⟩
 have P1:=aF 1;have P15:=aF 15;have en9:=hla.1;have en10:=hlb.1;refine aPv (aFg (most:=6) (d:=5) hs g0 g1 g2 g3 r0 r1 r2 r3 r4 r5 r6 r7 oz oz fun k1 B0 m0 e0 B1 m1 e1 B2 m2 e2 B3 m3 e3 B4 m4 e4 B5 m5 e5 B6 m6 e6 B7 m7 e7 B8 m8 e8 c0 c1 c2 c3 f u1 s0 s1 s2 s3 hf=>⟨_,_,_,_,_,_,_,_,_,_,_,_,_,_,_,_,_,_,_,_,_,_,_,_,_,_,_,c0,s0,c1,s1,c2,s2,c3,s3,f,rfl,fun _=>aw k1 u1,fun f1=>⟨rfl,fun _=>aw k1 u1,fun h6=>⟨rfl,fun _=>aw k1 u1,fun _=>?_⟩⟩⟩);obtain⟨hfew,hadv,hlh,pS,pL,pH,pR⟩:=hf (oV f1);have h6:n10≤6:=by have:=ov h6;omega
 have hb0:eA s (eD s (ofQ gg0 gg1) (ofQ gg2 gg3))=0:=aNn hadv;have hE:aI s=0:=(oA hb0).1;have hc24:s.cells.length≤24:=by have:=bI hE;unfold bM at this;omega
 have hll:ofQ gg0 gg1≤ofQ gg2 gg3:=Rat.not_lt.1 hlh;have ml:=mB g0 g1;have mh:=mB g2 g3;have mr:MagR ⟨ofQ rr0 rr1,ofQ rr2 rr3,ofQ rr4 rr5,ofQ rr6 rr7⟩:=⟨mB r0 r1,mB r2 r3,mB r4 r5,mB r6 r7⟩;have hrr:dH ⟨ofQ rr0 rr1,ofQ rr2 rr3,ofQ rr4 rr5,ofQ rr6 rr7⟩=0:=by
  have:=hadv;unfold fL at this
  rwa [if_neg (by rw [hb0];simp)]at this
 have bmag:tI (eD s (ofQ gg0 gg1) (ofQ gg2 gg3)).lo∧tI (eD s (ofQ gg0 gg1) (ofQ gg2 gg3)).hi:=⟨wR ml,wR mh⟩;generalize hlo:ofQ gg0 gg1=lo at *
 generalize hhi:ofQ gg2 gg3=hi at *
 generalize hr:(⟨ofQ rr0 rr1,ofQ rr2 rr3,ofQ rr4 rr5,ofQ rr6 rr7⟩:PRange)=r at *
 have up15:∀ {k:World},∀cs q,NP 1 k cs q→NP 15 k cs q:=fun _ _ h=>h.mono oz;have pS:=SecV.mono (N':=NP 15) pS up15;have pL:=pL.mono (N':=NP 15) up15;have pH:=pH.mono (N':=NP 15) up15;have pR15:RangeV (NP 15) k1 c0 c1 c2 c3 r:=⟨pR.s0.mono oz,pR.s1.mono oz,pR.a0.mono oz,pR.a1.mono oz⟩;refine gK oz oz fun k12 z0 u12 hz0=>⟨z0,hz0.seg,rfl,?_⟩;refine aBh (K:=15) (t:=((0:Int):Rat)) (SecV.up P15 pS u12) (hz0.mono oz) oz oz hE fun k14 E0 q0 h0 y0 E1 q1 h1 y1 E2 q2 h2 y2 u14 h3=>⟨_,_,_,_,_,_,_,_,_,_,_,_,rfl,?_⟩;have en:=pS.cells.1;have v14:=u12.trans u14;have q0e:q0=s.cells.length:=by rw [h3.l0];simp [aO]
 have q1e:q1=s.cells.length:=by rw [h3.l1];simp [aO]
 have q2e:q2=s.cells.length:=by rw [h3.l2];simp [aO]
 refine aAp oq oq oq fun k16 u16=>⟨_,rfl,fun h=>absurd h oz,fun _=>?_⟩;have t1:=pL.temp.1;have t2:=pL.cure.1;have t3:=pL.spoil.1;have t4:=pH.temp.1;have t5:=pH.cure.1;have t6:=pH.spoil.1;obtain⟨_,zl0,zh0,_⟩:=oA hb0;obtain⟨z1,z2,z3⟩:=id zl0;obtain⟨z4,z5,z6⟩:=id zh0;refine aUk oq oq oq oq oq oq fun k19 u19=>⟨_,rfl,fun h=>absurd h oz,fun _=>⟨rfl,?_⟩⟩;have sg:∀ {k:World},∀a (v:Rat),NP 15 k a v→Seg 3 a:=fun _ _ h=>h.seg;have w19:=u16.trans u19;have v19:=v14.trans w19
 refine⟨fun m k vs=>∃(j:Nat) (xs:Array Value) (f:Nat→Rat),j+m=q0∧vs=[.int .i64 j,.tuple #[.slice E0 q0 h0,.agg xs]]∧ArrV q0 3 (NP 15 k) xs f∧∀i,i<j→lo≤f i∧f i≤hi,
  ⟨q0,fun k21 u21=>⟨0,_,_,oq,rfl,h3.a0.mono fun _ _ h=>h.up (w19.trans u21),fun i hi=>absurd hi (Nat.not_lt_zero _)⟩⟩,?_⟩
 rintro m k21 vs u21 ⟨j,xs,f,hj,rfl,hA,hb⟩;have v21:=v19.trans u21;refine⟨j,E0,q0,h0,xs,hA.rowC sg,rfl,fun hlt=>⟨rfl,fun h9=>?_,fun _=>?_⟩,fun hge=>⟨rfl,fun k36 u36 ra k37 u37 rb k38 u38 rc'=>?_⟩⟩;have h9:0<n9:=by have:=ow h9;omega
 have hmod:=Nat.mod_lt j h9;obtain⟨a,_,⟨a0,a1,rfl⟩,ha,hb',hrd,_⟩:=(hla.kept (u1.trans v21)).el (i:=j % n9) oq oz;refine⟨rfl,decide_eq_true oq,ha,hb',_,hrd k21 (Up.refl _),?_⟩
 rotate_left
 have a0:(0:Int)≤0:=oz
 have a1:(0:Int)≤255:=oz
 rotate_right
 iterate 2
  ·have hlt:=aH hlt;refine mN g0 g1 fun k23 x0 u23 w23=>⟨x0,w23.seg,rfl,?_⟩;refine mN g2 g3 fun k25 x1 u25 w25=>⟨x1,w25.seg,rfl,?_⟩;rw [hlo]at w23;rw [hhi]at w25;refine uL (K:=1) (w23.up u25) w25 oz oz a0 a1 fun k27 ds u27 hds=>⟨ds,hds.seg,rfl,decide_eq_true ⟨oq,oq⟩,⟨oq,oq⟩,?_⟩;rintro _ rfl k28 u28;obtain⟨g,hg,h1,h2⟩:=aTa (j:=j) (hA.mono fun _ _ h=>h.up (u23.trans (u25.trans (u27.trans u28)))) oq hds.seg.1 (hds.up u28);refine⟨m-1,oq,j+1,_,g,oq,by rw [aD oq,List.append_nil],hg,fun i hi=>?_⟩
   by_cases e:i=j
   ·rw [e,h1];exact aFj hll a0 a1
   ·rw [h2 i e];exact hb i oq
 have hge:=aG hge;have hjq:j=q0:=oq
 subst hjq;have v38:=u36.trans (u37.trans u38);have x38:=w19.trans (u21.trans v38);generalize hx0:(⟨(List.range j).map f,(aO s ((0:Int):Rat)).cure,(aO s ((0:Int):Rat)).spoil⟩:PState)=x0;have px0:StateV (NP 15) k38 E0 j E1 q1 E2 q2 x0:=by
  subst hx0;exact⟨cY (by simp) ((hA.mono fun _ _ h=>h.up v38).congr fun i hi=>(aN hi).symm) sg (bR ra (u37.trans u38)),cY h3.l1 (h3.a1.mono fun _ _ h=>h.up x38) sg (bR rb u38),cY h3.l2 (h3.a2.mono fun _ _ h=>h.up x38) sg rc'⟩
 have zx0:sized s x0:=by subst hx0;exact⟨by simp;omega,by simp [aO],by simp [aO]⟩
 have und1:Und s.cells.length (aO s lo) x0:=by
  subst hx0;refine⟨fun i hi=>?_,fun i hi=>Rat.le_refl,fun i hi=>Rat.le_refl⟩;show at_ (List.replicate _ lo) i≤at_ ((List.range j).map f) i;rw [bH hi,aN oq];exact (hb i oq).1
 have und2:Und s.cells.length x0 (aO s hi):=by
  subst hx0;refine⟨fun i hq=>?_,fun i hq=>Rat.le_refl,fun i hq=>Rat.le_refl⟩;show at_ ((List.range j).map f) i≤at_ (List.replicate _ hi) i;rw [bH hq,aN oq];exact (hb i oq).2
 have mx0:tI x0:=by
  subst hx0;intro i hi;have hi:i<j:=by simpa using hi
  show Mag (at_ ((List.range j).map f) i);rw [aN hi];exact aFh ml mh (hb i hi)
 have hbr:=aRk hrr;have y38:=v14.trans x38;clear hA hb ra rb rc' h3;have hd:aI s=0→∀i,i<s.cells.length→(nbm s.links (i:Nat)).length≤5:=fun hE i hi=>by have:=aHw hE hi;have:=hfew.cells;omega
 have rw6:qW 15 5 15 6≤300000000:=oz
 have ok0:OkB s (eD s lo hi):=⟨zl0,zh0,bmag.1,bmag.2⟩;have okt:OkB s ⟨x0,aO s hi⟩:=⟨zx0,zh0,mx0,bmag.2⟩;have held0:Held s x0 (eD s lo hi) ⟨x0,aO s hi⟩:=aFd und1 und2;generalize hbb:eD s lo hi=b at *
 have hbhi:b.hi=aO s hi:=by rw [←hbb];rfl
 rw [←hbhi]at okt held0
 refine⟨fun m k vs=>∃(j:Nat) (D0 D1:Option Addr) (o0 o1:Nat) (a0 a1:Array Value) (us vs':List Rat) (X0:Option Addr) (f0 i0:Nat) (X1:Option Addr) (f1 i1:Nat) (X2:Option Addr) (f2 i2:Nat) (Y0:Option Addr) (p0 l0:Nat) (Y1:Option Addr) (p1 l1:Nat) (Y2:Option Addr) (p2 l2:Nat) (Y3:Option Addr) (p3 l3:Nat) (Y4:Option Addr) (p4 l4:Nat) (Y5:Option Addr) (p5 l5:Nat) (Z0:Option Addr) (b0 w0:Nat) (Z1:Option Addr) (b1 w1:Nat) (Z2:Option Addr) (b2 w2:Nat) (Z3:Option Addr) (b3 w3:Nat) (Z4:Option Addr) (b4 w4:Nat) (Z5:Option Addr) (b5 w5:Nat) (c t:PBand),j+m=n10∧
  vs=[.int .i64 j,.tuple #[.slice D0 j o0,.agg a0],.tuple #[.slice D1 j o1,.agg a1],S3 X0 f0 i0 X1 f1 i1 X2 f2 i2,S6 Y0 p0 l0 Y1 p1 l1 Y2 p2 l2 Y3 p3 l3 Y4 p4 l4 Y5 p5 l5,S6 Z0 b0 w0 Z1 b1 w1 Z2 b2 w2 Z3 b3 w3 Z4 b4 w4 Z5 b5 w5]∧
  us.length=j∧vs'.length=j∧ArrV us.length 3 (NP 15 k) a0 (at_ us)∧ArrV vs'.length 3 (NP 15 k) a1 (at_ vs')∧StateV (NP (qW 15 5 15 j)) k X0 f0 X1 f1 X2 f2 (jT s us vs' j x0)∧
  StateV (NP (15+16*j)) k Y0 p0 Y1 p1 Y2 p2 c.lo∧StateV (NP (15+16*j)) k Y3 p3 Y4 p4 Y5 p5 c.hi∧StateV (NP (15+16*j)) k Z0 b0 Z1 b1 Z2 b2 t.lo∧StateV (NP (15+16*j)) k Z3 b3 Z4 b4 Z5 b5 t.hi∧
  OkB s c∧OkB s t∧Held s (jT s us vs' j x0) c t∧c=wG s r j b,
  ⟨n10,fun k39 u39=>⟨0,none,none,0,0,#[],#[],[],[],_,_,_,_,_,_,_,_,_,_,_,_,_,_,_,_,_,_,_,_,_,_,_,_,_,_,_,_,_,_,_,_,_,_,_,_,_,_,_,_,_,_,_,_,_,b,⟨x0,b.hi⟩,oq,rfl,rfl,rfl,ArrV.empty,ArrV.empty,StateV.up P15 px0 u39,StateV.up P15 pL (y38.trans u39),StateV.up P15 pH (y38.trans u39),StateV.up P15 px0 u39,StateV.up P15 pH (y38.trans u39),ok0,okt,held0,rfl⟩⟩,?_⟩
 rintro m k39 vs u39 ⟨i,D0,D1,o0,o1,a0,a1,us,vs',X0,f0,i0,X1,f1,i1,X2,f2,i2,Y0,p0,l0,Y1,p1,l1,Y2,p2,l2,Y3,p3,l3,Y4,p4,l4,Y5,p5,l5,Z0,b0,w0,Z1,b1,w1,Z2,b2,w2,Z3,b3,w3,Z4,b4,w4,Z5,b5,w5,c,t,hm,rfl,hus,hvs,hA0,hA1,pX,pY,pY',pZ,pZ',okc,okt',hH,hcN⟩;have y39:=y38.trans u39;refine⟨i,D0,i,o0,a0,hA0.rowC sg,D1,i,o1,a1,hA1.rowC sg,_,_,_,_,_,_,_,_,_,_,_,_,_,_,_,_,_,_,_,_,_,_,_,_,_,_,_,_,_,_,_,_,_,_,_,_,_,_,_,_,_,_,_,_,_,rfl,fun hlt=>?_,fun hge k60 u60 ra k61 u61 rb=>?_⟩
 ·have hlt:=aH hlt;have hi6:i+1≤6:=oq
  obtain⟨a,_,⟨⟨q0',q1'⟩,⟨q2',q3'⟩,rfl⟩,ha,hb',hrd,_⟩:=(hlb.kept (u1.trans y39)).el (i:=i) oq oz;generalize (at_ lb i).1=N0 at q0' q1' hrd;generalize (at_ lb i).2=N1 at q2' q3' hrd;refine⟨ha,hb',_,_,hrd k39 (Up.refl _),?_⟩;have pR39:=RangeV.up P1 pR y39;refine uL (K:=1) pR39.s0 pR39.s1 oz oz q0' q1' fun k41 du u41 hdu=>⟨du,hdu.seg,rfl,?_⟩;refine uL (K:=1) (pR39.a0.up u41) (pR39.a1.up u41) oz oz q2' q3' fun k43 dv u43 hdv=>⟨dv,hdv.seg,rfl,by simp [hdu.seg.1],oz,⟨by simp;omega,by simp;omega⟩,?_⟩;rintro D0' _ o0' _ rfl rfl _;refine⟨by simp [hdv.seg.1],oz,⟨by simp;omega,by simp;omega⟩,?_⟩;rintro D1' _ o1' _ rfl rfl _;have bu:=aFj hbr.1 q0' q1';have bv:=aFj hbr.2 q2' q3';have mu:=aFh mr.s0 mr.s1 bu;have mv:=aFh mr.a0 mr.a1 bv;generalize hu':aKz r.s0 r.s1 N0=u at *
  generalize hv':aKz r.a0 r.a1 N1=v at *
  have zX:sized s (jT s us vs' i x0):=rA zx0 i;have hbX:=tL hE zX;have rwi:=iZ (K:=15) (d:=5) (T:=15) (i:=i+1) (j:=6) hi6;have rw0:=iZ (K:=15) (d:=5) (T:=15) (i:=0) (j:=i) (Nat.zero_le _);have y43:=u41.trans u43;have hstep:=hH.step hE hrr bu bv;rw [←aDh (u:=u) (v:=v) hus hvs]at hstep;refine aJd (K:=15) (T:=qW 15 5 15 i) (d:=5) (SecV.up P15 pS (y39.trans y43)) (StateV.up (aF _) pX y43) (hdu.up u43) hdv hd oz (Nat.le_trans oz rw0) oz (Nat.le_trans rwi rw6) oz fun k45 G0 a0' j0 G1 a1' j1 G2 a2' j2 u45 hst=>⟨_,_,_,_,_,_,_,_,_,_,rfl,fun f=>absurd hbX (bZ f),fun _=>?_⟩;rw [yG hbX,←aDh (u:=u) (v:=v) hus hvs]at hst;have w45:=y43.trans u45;have hcT:aK 15 5 (15+16*i)≤90000:=by unfold aK;omega
  have eT:15+16*i+15+1=15+16*(i+1):=oq
  have ordc:Und s.cells.length c.lo c.hi:=hH.enc.1.trans hH.enc.2;have hac:=aAv hE okc.lo okc.hi ordc hrr;refine aBg (K:=15) (T:=15+16*i) (d:=5) (b:=c) (r:=r) (SecV.up P15 pS (y39.trans w45)) (StateV.up (aF _) pY w45) (StateV.up (aF _) pY' w45) (RangeV.up P15 pR15 (y39.trans w45)) hd oz oq oz hcT oz fun k48 H0 t0 a0 H1 t1 a1 H2 t2 a2 H3 t3 a3 H4 t4 a4 H5 t5 a5 u48 w1 w2=>⟨_,_,_,_,_,_,_,_,_,_,_,_,_,_,_,_,_,_,_,rfl,fun f=>absurd hac (bZ f),fun _=>?_⟩;rw [yF hac]at w1 w2;obtain⟨m1',m2'⟩:=yY hE okc.lo okc.hi okc.magl okc.magh mr;replace w1:=w1.tightP m1' oq;replace w2:=w2.tightP m2' oq;rw [eT]at w1 w2;have okc':=okc.adv hE mr;have zX':sized s (jT s (us++[u]) (vs'++[v]) (i+1) x0):=vU;refine jG (K:=15+16*(i+1)) (L:=qW 15 5 15 (i+1)) (b:=cG s c r) w1 w2 (StateV.up (aF _) hst u48) oq (Nat.le_trans oz (Nat.le_trans rw0 (iZ (Nat.le_succ _)))) oq (Nat.le_trans rwi rw6) (dC hc24 zX') fun k51 u51=>⟨_,rfl,fun h=>absurd (kE okc'.lo okc'.hi zX' hstep.enc) (ov (rZ h)),fun _=>?_⟩;have w51:=w45.trans (u48.trans u51);have hr':dH ⟨u,r.s1,r.a0,v⟩=0:=vI bu.2 bv.1;have mr':MagR ⟨u,r.s1,r.a0,v⟩:=⟨mu,mr.s1,mr.a0,mv⟩;have hat:=aAv hE okt'.lo okt'.hi hH.ord hr';have pRt:RangeV (NP 15) k51 du c1 c2 dv ⟨u,r.s1,r.a0,v⟩:=⟨hdu.up (u43.trans (u45.trans (u48.trans u51))),(RangeV.up P15 pR15 (y39.trans w51)).s1,(RangeV.up P15 pR15 (y39.trans w51)).a0,hdv.up (u45.trans (u48.trans u51))⟩;refine aBg (K:=15) (T:=15+16*i) (d:=5) (b:=t) (r:=⟨u,r.s1,r.a0,v⟩) (SecV.up P15 pS (y39.trans w51)) (StateV.up (aF _) pZ w51) (StateV.up (aF _) pZ' w51) pRt hd oz oq oz hcT oz fun k54 I0 s0 h0 I1 s1 h1 I2 s2 h2 I3 s3 h3 I4 s4 h4 I5 s5 h5 u54 w3 w4=>⟨_,_,_,_,_,_,_,_,_,_,_,_,_,_,_,_,_,_,_,rfl,fun f=>absurd hat (bZ f),fun _=>?_⟩;rw [yF hat]at w3 w4;obtain⟨m3',m4'⟩:=yY hE okt'.lo okt'.hi okt'.magl okt'.magh mr';replace w3:=w3.tightP m3' oq;replace w4:=w4.tightP m4' oq;rw [eT]at w3 w4;have okt'':=okt'.adv hE mr';refine qI (K:=15+16*(i+1)) (b:=cG s t ⟨u,r.s1,r.a0,v⟩) (b':=cG s c r) w3 w4 (StateV.up (aF _) w1 (u51.trans u54)) (StateV.up (aF _) w2 (u51.trans u54)) oq oq (dC hc24 okt''.lo) (dC hc24 okt''.hi) fun k57 u57=>⟨_,rfl,fun h=>absurd (wD okt''.lo okt''.hi okc'.lo okc'.hi hstep.wit hstep.ord) (ov (rZ h)),fun _ k59 u59=>?_⟩;have w59:=u51.trans (u54.trans (u57.trans u59));have z59:=u45.trans (u48.trans w59);refine⟨m-1,oq,i+1,D0',D1',o0',o1',_,_,us++[u],vs'++[v],_,_,_,_,_,_,_,_,_,_,_,_,_,_,_,_,_,_,_,_,_,_,_,_,_,_,_,_,_,_,_,_,_,_,_,_,_,_,_,_,_,_,_,_,_,cG s c r,cG s t ⟨u,r.s1,r.a0,v⟩,oq,by rw [aD oq,List.append_nil,List.append_nil];rfl,by simp [hus],by simp [hvs],aAy (hA0.mono fun _ _ h=>h.up (y43.trans z59)) hdu.seg.1 (hdu.up (u43.trans z59)),aAy (hA1.mono fun _ _ h=>h.up (y43.trans z59)) hdv.seg.1 (hdv.up z59),StateV.up (aF _) hst (u48.trans w59),StateV.up (aF _) w1 w59,StateV.up (aF _) w2 w59,StateV.up (aF _) w3 (u57.trans u59),StateV.up (aF _) w4 (u57.trans u59),okc',okt'',hstep,by rw [hcN];rfl⟩
 ·have hge:=aG hge;obtain rfl:i=n10:=oq
  have w61:=u60.trans u61;have z61:=u39.trans w61;have pus:Lst k61 D0 us.length 3 (NP 15 k61) us:=cY rfl (hA0.mono fun _ _ h=>h.up w61) sg (bR ra u61);have pvs:Lst k61 D1 vs'.length 3 (NP 15 k61) vs':=cY rfl (hA1.mono fun _ _ h=>h.up w61) sg rb;have hrun:vP s x0 us vs'=0:=by
   unfold vP;rw [if_neg (by simp [tL hE zx0]),if_neg oq]
  have hr6:qW 15 5 15 us.length≤300000000:=Nat.le_trans (iZ oq) rw6;rw [hus]at pus;rw [hvs]at pvs;refine aOk (K:=15) (T:=15) (d:=5) (x:=x0) (SecV.up P15 pS (y38.trans z61)) (StateV.up P15 px0 z61) pus pvs hd oz oz oz (fun _ _ _=>hr6) oz fun k63 V0 g0 j0 V1 g1 j1 V2 g2 j2 u63 hy=>⟨_,_,_,_,_,_,_,_,_,_,rfl,rfl,?_⟩;rw [yG hrun]at hy;intro p k64 u64 hblk k65 u65;have z65:=z61.trans (u63.trans (u64.trans u65));have w65:=y38.trans z65;have hph:=qL P15 (aLh hblk (RangeV.up P15 pR15 (y38.trans (z61.trans (u63.trans u64))))) u65;have hsum:(eF [(⟨(i:Int),r⟩:PPhase)]).toNat=i:=by simp [eF]
  have hadv':fL s b r=0:=hadv;refine aJh (K:=15) (T:=15) (W:=111) (d:=5) (b:=b) (l:=[⟨(i:Int),r⟩]) (SecV.up P15 pS w65) (StateV.up P15 pL w65) (StateV.up P15 pH w65) hph hd bmag.1 bmag.2 (fun q hq=>?_) oz oz oz oz oz (fun _=>by rw [hsum];unfold aK;omega) (fun _=>by rw [hsum];omega) (fun k66 Q0 r0 ee0 Q1 r1 ee1 Q2 r2 ee2 Q3 r3 ee3 Q4 r4 ee4 Q5 r5 ee5 u66 el eh=>⟨_,_,_,_,_,_,_,_,_,_,_,_,_,_,_,_,_,_,_,rfl,fun _=>⟨fun _=>?_,fun h=>absurd h (by rw [aHo hadv' oq];decide)⟩,fun h=>absurd h (by rw [hrun];decide)⟩) k65 (Up.refl _)
  ·have:q=0:=by simp at hq;omega
   subst this;exact mr
  rw [aOy hadv' oq,←hcN]at el eh;have z66:=u64.trans (u65.trans u66);have zX:sized s (jT s us vs' i x0):=rA zx0 i;have ordc:Und s.cells.length c.lo c.hi:=hH.enc.1.trans hH.enc.2;have hww:=wD okc.lo okc.hi okc.lo okc.hi ⟨Und.refl,Und.refl⟩ ordc;rw [hus]at hy hr6;refine jG (K:=111) (L:=qW 15 5 15 i) (b:=c) el eh (StateV.up (aF _) hy z66) oz (Nat.le_trans oz (iZ (i:=0) (Nat.zero_le _))) oz hr6 (dC hc24 zX) fun k68 u68=>⟨_,rfl,fun _=>?_,fun h=>absurd (kE okc.lo okc.hi zX hH.enc) (ov h)⟩;have up111:∀ {k:World},∀cs q,NP (15+16*i) k cs q→NP 111 k cs q:=fun _ _ h=>h.mono oq;have w68:=u60.trans (u61.trans (u63.trans (z66.trans u68)));have qY:=StateV.up (aF 111) (pY.mono up111) w68;have qY':=StateV.up (aF 111) (pY'.mono up111) w68;have el':=StateV.up (aF 111) el u68;have eh':=StateV.up (aF 111) eh u68;refine qI (K:=111) (b:=c) (b':=c) qY qY' el' eh' oz oz (dC hc24 okc.lo) (dC hc24 okc.hi) fun k70 u70=>⟨_,rfl,fun _=>?_,fun h=>absurd hww (ov h)⟩;refine qI (K:=111) (b:=c) (b':=c) (StateV.up (aF 111) el' u70) (StateV.up (aF 111) eh' u70) (StateV.up (aF 111) qY u70) (StateV.up (aF 111) qY' u70) oz oz (dC hc24 okc.lo) (dC hc24 okc.hi) fun k72 u72=>⟨_,rfl,fun _=>aw k72 (u1.trans (y39.trans (w68.trans (u70.trans u72)))),fun h=>absurd hww (ov h)⟩
end
