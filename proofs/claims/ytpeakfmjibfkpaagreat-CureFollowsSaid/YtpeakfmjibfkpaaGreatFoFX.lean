/- Several texts in one. (Printed by prep.py.) -/
import Derived.Test.YtpeakfmjibfkpaaGreatFoFW
import Derived.Test.YtpeakfmjibfkpaaGreatFoFP
namespace Go.Proofs.YtpeakfmjibfkpaaGreat
open Go.RowKit Num W32
open Sy (Up Sees CallsG Seg dead)
section
variable {k kk k' w w' W:World}{a c:Nat}
theorem iP (h:Sees k w) (b:Below w.heap.size w W):Up k W:=
 ⟨b.os.trans h.os,b.tape.trans h.tape,b.output.trans h.output,by rw [←h.size];exact b.size,fun g o hg hne=>stay (h.live g o hg hne) b⟩
theorem aXh (hb:Below k.heap.size k kk) (u:Up kk w') (u':Up k k') (hs:k'.heap.size=w'.heap.size) (hn:∀g,k.heap.size≤g→k'.heap[g]?=w'.heap[g]?):Up kk k':=
 ⟨u'.os.trans hb.os.symm,u'.tape.trans hb.tape.symm,u'.output.trans hb.output.symm,by rw [hs];exact u.size,fun g o hg hne=>by
   by_cases h:g<k.heap.size
   ·exact u'.live g o ((hb.block g h).symm.trans hg) hne
   ·rw [hn g (by omega)];exact u.live g o hg hne⟩
def Dk (k:World) (a c g:Nat):Prop:=k.heap[g]?=some dead∨g=a∨g=c
theorem kN {ca cc:Array Value}{t t':TypeId}(hs:Sees k w) (hb:Below w.heap.size w W) (ha:W.heap[a]?=some (.cells ca t (0,0))) (hc:W.heap[c]?=some (.cells cc t' (0,0))) (na:∀u∈ca.toList,u.noWord=true) (nc:∀u∈cc.toList,u.noWord=true) :
 ∀g,Dk k a c g→g<W.heap.size→∃cs t fr,W.heap[g]?=some (.cells cs t fr)∧∀u∈cs.toList,u.noWord=true:=by
 rintro g (h|rfl|rfl) _
 ·obtain⟨cs,t,fr,h1,h2⟩:=hs.dark g h;exact⟨cs,t,fr,stay h1 hb,h2⟩
 ·exact⟨_,_,_,ha,na⟩
 ·exact⟨_,_,_,hc,nc⟩
theorem wY (u:Up kk W) (hb:Below k.heap.size k kk) (ha:∀o,kk.heap[a]?=some o→o=dead) (hc:∀o,kk.heap[c]?=some o→o=dead):Up kk (MK (Dk k a c) W):=
 aUr u fun g o hg hne=>by
  rintro (h|rfl|rfl)
  ·have:=(hb.block g (Sy.heap_lt h)).trans h;rw [hg]at this;exact hne (Option.some.inj this)
  ·exact hne (ha o hg)
  ·exact hne (hc o hg)
theorem nD (u:Up k W) (ha:k.heap.size≤a) (hc:k.heap.size≤c):Below k.heap.size k (MK (Dk k a c) W):=
 ⟨u.os,u.tape,u.output,by rw [mk_size];exact u.size,fun g hg=>by
   have hw:=Nat.lt_of_lt_of_le hg u.size
   by_cases h:k.heap[g]?=some dead
   ·rw [mC (.inl h) hw,h]
   ·rw [iB (by rintro (h'|rfl|rfl);exact h h';omega;omega)];rw [Array.getElem?_eq_getElem hg]at h ⊢
    exact u.live g _ (Array.getElem?_eq_getElem hg) fun e=>h (by rw [e])⟩
theorem nG {P:Program}{f:FuncId}{args:Array Value}{D:Nat→Prop}{R:World→Value→Prop}(hD:∀g,D g→g<W.heap.size→∃cs t fr,W.heap[g]?=some (.cells cs t fr)∧∀u∈cs.toList,u.noWord=true) (u:Up kk (MK D W)) (h:∀k0,Up kk k0→CallsG P f args k0 R) :
 Calls P f args W fun e w'=>∃v k',e=.returned v∧Sees k' w'∧Below (MK D W).heap.size (MK D W) k'∧Below W.heap.size W w'∧R k' v:=h _ u W (aSm hD)
end
theorem aSn {D:Nat→Prop}{W:World}:Up (MK D W) W:=
 ⟨rfl,rfl,rfl,by rw [mk_size];exact Nat.le_refl _,fun g o hg hne=>by
   by_cases c:D g
   ·rw [mC c (by have:=Sy.heap_lt hg;rwa [mk_size]at this)]at hg;cases hg;exact absurd rfl hne
   ·rwa [iB c]at hg⟩
theorem aXi {kk W:World}{g:Nat}{t:TypeId}{cs:Array Value}(u:Up kk W) (h:kk.heap[g]?=some dead):Up kk (Sy.World.putBlk W g t cs):=
 ⟨u.os,u.tape,u.output,by rw [tL];exact u.size,fun p o hp hne=>by
   rw [pI fun e=>by subst e;rw [h]at hp;exact hne (Option.some.inj hp).symm];exact u.live p o hp hne⟩
theorem nS {kk:World}{g:Nat}(h:kk.heap[g]?=some dead):∀o,kk.heap[g]?=some o→o=dead:=fun o ho=>by rw [h]at ho;exact (Option.some.inj ho).symm
def rc (c:RCell):Array Value:=#[.bool c.b,.slice c.A c.n c.c,.slice c.D c.d c.e]
theorem aWw (q:Nat→Nat→RCell) (j:Nat):aBk q j=.agg ((rc (q j 0)).toList++((rc (q j 1)).toList++((rc (q j 2)).toList++((rc (q j 3)).toList++([]))))).toArray:=rfl
theorem yI {k:World}{cs:Array Value}{x:Rat}{K:Nat}(h:RatV k cs x K):∃c,cs=rc c:=by
 obtain⟨g,A,n,c,D,d,e,e1,_⟩:=h;exact⟨⟨g,A,n,c,D,d,e⟩,e1⟩
theorem aJl {k w:World}{A9:Option Addr}{n9 K:Nat}{l:List PPhase}(hp:Lst k A9 n9 13 (PhV (NP K) k) l) (h0:∀j,j<l.length→0≤(at_ l j).steps) (hw:Sees k w) :
 ∃q:Nat→Nat→RCell,(∀j,j<n9→RangeV (NP K) k (rc (q j 0)) (rc (q j 1)) (rc (q j 2)) (rc (q j 3)) (at_ l j).r)∧PhsAt w A9 n9 (fun j=>(at_ l j).steps.toNat) q w.heap.size:=by
 obtain⟨hn,xs,hin,_,hv⟩:=hp;have hx:∀j,∃f:Nat→RCell,j<n9→RangeV (NP K) k (rc (f 0)) (rc (f 1)) (rc (f 2)) (rc (f 3)) (at_ l j).r∧xs[j*13]?=some (.int .i64 (at_ l j).steps)∧∀i v,((rc (f 0)).toList++((rc (f 1)).toList++((rc (f 2)).toList++((rc (f 3)).toList++([]))))).toArray[i]?=some v→xs[j*13+(i+1)]?=some v:=fun j=>by
  by_cases hj:j<n9
  ·obtain⟨a,_,⟨c0,c1,c2,c3,rfl,hr⟩,hq⟩:=hv.el hj;obtain⟨r0,rfl⟩:=yI hr.s0;obtain⟨r1,rfl⟩:=yI hr.s1;obtain⟨r2,rfl⟩:=yI hr.a0;obtain⟨r3,rfl⟩:=yI hr.a1;refine⟨fun i=>match i with|0=>r0|1=>r1|2=>r2|_=>r3,fun _=>⟨hr,by have:=hq 0 _ rfl;rwa [Nat.add_zero]at this,fun i v hi=>hq (i+1) v ?_⟩⟩
   rw [List.getElem?_toArray]at hi ⊢;rw [List.getElem?_cons_succ];exact hi
  ·exact⟨fun _=>⟨false,none,0,0,none,0,0⟩,fun h=>absurd h hj⟩
 obtain⟨q,hq⟩:=Classical.skolem.1 hx;refine⟨q,fun j hj=>(hq j hj).1,fun hpos=>?_⟩;obtain⟨b,o,e,hb,_⟩:=hin _ _ (hq 0 hpos).2.1;have cell:∀p v,xs[p]?=some v→w.cell? ⟨b,o+p,none⟩=some v:=fun p v h=>by
  obtain⟨b',o',e',_,hc⟩:=hin p v h;rw [e]at e';injection e' with e';injection e' with e1 e2;subst e1 e2;exact hw.cell hc
 refine⟨b,o,e,by rw [hw.size];exact hb,fun j hj=>?_,fun j i v hj hi=>?_⟩
 ·have:=cell _ _ (hq j hj).2.1
  rwa [show (at_ l j).steps=(((at_ l j).steps.toNat:Nat):Int) from (Int.toNat_of_nonneg (h0 j (by omega))).symm]at this
 ·have:=cell _ _ ((hq j hj).2.2 i v hi)
  rwa [←Nat.add_assoc]at this
theorem jP {l:List PPhase}:∀ {k:Nat}(hk:k≤l.length),(fQ (len:=l.length) (fun j=>(at_ l j).steps.toNat) k hk).map (fun x=>(at_ l x.1).r)=cZ (l.take k)
 | 0,_=>rfl
 | k+1,hk=>by
  rw [yT hk,vQ];show ((fQ _ k _++List.replicate _ _).map _)=_;rw [List.map_append,jP (by omega),List.map_replicate];simp [cZ]
def aUi (N N':World→Array Value→Rat→Prop) (x y:PState) (k:World) (v:Value):Prop:=∃c:BCell,v=.agg #[sl c.a0,sl c.a1,sl c.a2,sl c.a3,sl c.a4,sl c.a5]∧StateW N N' k c.a0.A c.a0.n c.a1.A c.a1.n c.a2.A c.a2.n x∧StateW N N' k c.a3.A c.a3.n c.a4.A c.a4.n c.a5.A c.a5.n y
theorem aXx {N N':World→Array Value→Rat→Prop}{x y:PState}{k:World}{B0 B1 B2 B3 B4 B5:Option Addr}{m0 e0 m1 e1 m2 e2 m3 e3 m4 e4 m5 e5:Nat}(h:StateW N N' k B0 m0 B1 m1 B2 m2 x) (h':StateW N N' k B3 m3 B4 m4 B5 m5 y):aUi N N' x y k (.agg #[.slice B0 m0 e0,.slice B1 m1 e1,.slice B2 m2 e2,.slice B3 m3 e3,.slice B4 m4 e4,.slice B5 m5 e5]):=⟨⟨⟨B0,m0,e0⟩,⟨B1,m1,e1⟩,⟨B2,m2,e2⟩,⟨B3,m3,e3⟩,⟨B4,m4,e4⟩,⟨B5,m5,e5⟩⟩,rfl,h,h'⟩
theorem nw6 {A0 A1 A2 A3 A4 A5:Option Addr}{n0 d0 n1 d1 n2 d2 n3 d3 n4 d4 n5 d5:Nat}:∀u∈(#[Value.slice A0 n0 d0,.slice A1 n1 d1,.slice A2 n2 d2,.slice A3 n3 d3,.slice A4 n4 d4,.slice A5 n5 d5]:Array Value).toList,u.noWord=true:=by simp [Value.noWord]
section
variable {k k':World}{R:World→Value→Prop}{l:List PPhase}{s:PSec}{b:PBand}{K T W d n0 n1 n2 n3 n4 n5 n6 n7 n8 n9 d0 d1 d2 d3 d4 d5 d6 d7 d8 d9:Nat}{A0 A1 A2 A3 A4 A5 A6 A7 A8 A9:Option Addr}
set_option maxHeartbeats 1000000 in
theorem aHi (hs:SecV (NP K) k A0 n0 A1 n1 A2 n2 s) (hl:StateV (NP T) k A3 n3 A4 n4 A5 n5 b.lo) (hh:StateV (NP T) k A6 n6 A7 n7 A8 n8 b.hi) (hp:Lst k A9 n9 13 (PhV (NP K) k) l)
 (hd:aL s=0→∀i,i<s.cells.length→(nbm s.links (i:Nat)).length≤d) (hml:uM b.lo) (hmh:uM b.hi) (hmr:∀j,j<l.length→MagR (at_ l j).r) (hK1:1≤K) (hT1:1≤T) (hK:K≤1000000) (hd2:d≤128) (hTT:T≤100000000)
 (hm:iF s b l=0→aJ K d (T+(bX l).toNat*(K+1))≤90000) (hfin:iF s b l=0→T+(bX l).toNat*(K+1)≤W)
 (C:∀k' B0 m0 e0 B1 m1 e1 B2 m2 e2 B3 m3 e3 B4 m4 e4 B5 m5 e5,Up k k'→StateV (NP W) k' B0 m0 B1 m1 B2 m2 (sK s b l).lo→StateV (NP W) k' B3 m3 B4 m4 B5 m5 (sK s b l).hi→
   R k' (.tuple #[.agg #[.slice B0 m0 e0,.slice B1 m1 e1,.slice B2 m2 e2,.slice B3 m3 e3,.slice B4 m4 e4,.slice B5 m5 e5],.int .i64 (iF s b l)])) :
 Cl k 37 #[.agg #[.slice A0 n0 d0,.slice A1 n1 d1,.slice A2 n2 d2],.agg #[.slice A3 n3 d3,.slice A4 n4 d4,.slice A5 n5 d5,.slice A6 n6 d6,.slice A7 n7 d7,.slice A8 n8 d8],.slice A9 n9 d9] R:=by
 intro k0 u0;have hN:=aM K;have hNT:=aM T;replace hs:=SecV.up hN hs u0;replace hl:=StateV.up hNT hl u0;replace hh:=StateV.up hNT hh u0;replace hp:=gA hN hp u0;replace C:=fun k' B0 m0 e0 B1 m1 e1 B2 m2 e2 B3 m3 e3 B4 m4 e4 B5 m5 e5 u=>C k' B0 m0 e0 B1 m1 e1 B2 m2 e2 B3 m3 e3 B4 m4 e4 B5 m5 e5 (u0.trans u);have out:∀ {w:World},Sees k0 w→∀o,k0.heap[w.heap.size+1+1]?=some o→o=dead:=fun hw o ho=>by
  have:=Sy.heap_lt ho;have:=hw.size;omega
 by_cases f:iF s b l=0
 rotate_left
 ·refine aAt (F:=fun _ _ v=>v=.tuple #[.agg #[.slice none 0 0,.slice none 0 0,.slice none 0 0,.slice none 0 0,.slice none 0 0,.slice none 0 0],.int .i64 (iF s b l)]) ?_ ?_
  ·rintro w w' k' v _ rfl u _ _;refine C k' _ _ _ _ _ _ _ _ _ _ _ _ _ _ _ _ _ _ u ?_ ?_
   all_goals unfold sK yK;rw [if_pos f];exact⟨.nil,.nil,.nil⟩
  ·intro w hw;refine (aDd (a0:=⟨A0,n0,d0⟩) (a1:=⟨A1,n1,d1⟩) (a2:=⟨A2,n2,d2⟩) (a3:=⟨A3,n3,d3⟩) (a4:=⟨A4,n4,d4⟩) (a5:=⟨A5,n5,d5⟩) (a6:=⟨A6,n6,d6⟩) (a7:=⟨A7,n7,d7⟩) (a8:=⟨A8,n8,d8⟩) (E:=iF s b l) (fun W hb h6=>?_) f).mono ?_
   ·have uW:=iP hw hb;refine (nG (kN hw hb h6 h6 nw6 nw6) (wY uW (Below.refl _ k0) (out hw) (out hw)) (aFs hs hl hh hp hK1 hK hT1 (by omega) (R:=fun _ v=>v=.int .i64 (iF s b l)) fun k' u=>rfl)).mono ?_;rintro e w' ⟨v,k',rfl,_,_,hb',rfl⟩;exact⟨rfl,hb'⟩
   ·rintro e w' ⟨rfl,hb⟩;exact⟨⟨_,rfl,rfl⟩,hb⟩
 obtain⟨hB,hPh⟩:=aDc f;obtain⟨hE,hz,hz',_⟩:=xE hB;obtain⟨h16,hph,h2000⟩:=aDz hPh;have hOK:OkB s b:=⟨hz,hz',hml,hmh⟩;have hc24:s.cells.length≤24:=by have:=cF hE;unfold bS at this;omega
 have hd:=hd hE;have hst:∀j,j<l.length→0≤(at_ l j).steps:=fun j hj=>(aBd (hph j hj)).1;have hm:=hm f;have hfin:=hfin f;obtain rfl:n9=l.length:=hp.1;have hL:(cZ l).length=(bX l).toNat:=by have:=aIi hst;omega
 have hLF:(fQ (len:=l.length) (fun j=>(at_ l j).steps.toNat) l.length (Nat.le_refl _)).length=(bX l).toNat:=by
  have:=congrArg List.length (jP (l:=l) (Nat.le_refl _));rw [List.length_map,List.take_length,hL]at this;exact this
 have hW:∀j,j≤(bX l).toNat→aJ K d (T+j*(K+1))≤90000∧T+j*(K+1)≤90000:=fun j hj=>by
  have h1:T+j*(K+1)≤T+(bX l).toNat*(K+1):=Nat.add_le_add_left (Nat.mul_le_mul_right _ hj) _;have h2:=Nat.le_trans (uF h1) hm;exact⟨h2,Nat.le_trans uE h2⟩
 have hsucc:∀j:Nat,T+(j+1)*(K+1)=T+j*(K+1)+K+1:=fun j=>by rw [Nat.succ_mul];omega
 refine aAt (F:=fun w w' v=>∃kk,∃c:BCell,Up kk w'∧Below k0.heap.size k0 kk∧v=.tuple #[.agg #[sl c.a0,sl c.a1,sl c.a2,sl c.a3,sl c.a4,sl c.a5],.int .i64 0]∧StateV (NP W) kk c.a0.A c.a0.n c.a1.A c.a1.n c.a2.A c.a2.n (advL s (cZ l) b).lo∧StateV (NP W) kk c.a3.A c.a3.n c.a4.A c.a4.n c.a5.A c.a5.n (advL s (cZ l) b).hi) ?_ ?_
 ·rintro w w' k' v _ ⟨kk,c,uk,bk,rfl,g1,g2⟩ u hsz hnw;have uu:=aXh bk uk u hsz hnw;unfold sK yK at C;rw [f,if_neg (by simp)]at C;exact C k' _ _ _ _ _ _ _ _ _ _ _ _ _ _ _ _ _ _ u (StateV.up (aM _) g1 uu) (StateV.up (aM _) g2 uu)
 intro w hw;have hsz:=hw.size;obtain⟨q,hq,hpa⟩:=aJl hp hst hw
 refine (aAf (a0:=⟨A0,n0,d0⟩) (a1:=⟨A1,n1,d1⟩) (a2:=⟨A2,n2,d2⟩) (a3:=⟨A3,n3,d3⟩) (a4:=⟨A4,n4,d4⟩) (a5:=⟨A5,n5,d5⟩) (a6:=⟨A6,n6,d6⟩) (a7:=⟨A7,n7,d7⟩) (a8:=⟨A8,n8,d8⟩) (q:=q) (ps:=fun j=>(at_ l j).steps.toNat)
  (M:=fun m W=>∃kk,Up kk W∧Below k0.heap.size k0 kk∧kk.heap[w.heap.size+1+1]?=some dead∧NbV (NP K) kk m s.links)
  (X:=fun m W n c=>∃kk,Up kk W∧Below k0.heap.size k0 kk∧kk.heap[w.heap.size+1+1]?=some dead∧NbV (NP K) kk m s.links∧StateV (NP T) kk c.a0.A c.a0.n c.a1.A c.a1.n c.a2.A c.a2.n b.lo∧StateV (NP T) kk c.a3.A c.a3.n c.a4.A c.a4.n c.a5.A c.a5.n b.hi)
  (Inv:=fun m g10 base pre W c=>k0.heap.size≤base∧k0.heap.size≤g10∧∃kk,Up kk W∧KK k0 base (w.heap.size+1+1) g10 kk∧NbV (NP K) kk m s.links∧
    StateV (NP (T+pre.length*(K+1))) kk c.a0.A c.a0.n c.a1.A c.a1.n c.a2.A c.a2.n (advL s (pre.map fun x=>(at_ l x.1).r) b).lo∧StateV (NP (T+pre.length*(K+1))) kk c.a3.A c.a3.n c.a4.A c.a4.n c.a5.A c.a5.n (advL s (pre.map fun x=>(at_ l x.1).r) b).hi)
  ?h1 ?h2 ?h3 ?h4 ?hO ?hS ?hA ?hlen ?hsteps hpa).mono ?fin
 case h1=>
  intro W hb h6;refine (nG (kN hw hb h6 h6 nw6 nw6) (wY (iP hw hb) (Below.refl _ k0) (out hw) (out hw)) (aFs hs hl hh hp hK1 hK hT1 (by omega) (R:=fun _ v=>v=.int .i64 (iF s b l)) fun k' u=>rfl)).mono ?_;rintro e w' ⟨v,k',rfl,_,_,hb',rfl⟩;exact⟨by rw [f],hb'⟩
 case h2=>
  intro W hb h6;have bd:=nD (a:=w.heap.size+1+1) (c:=w.heap.size+1+1) (iP hw hb) (by omega) (by omega)
  refine (nG (kN hw hb h6 h6 nw6 nw6) (wY (iP hw hb) (Below.refl _ k0) (out hw) (out hw)) (aMa hs.links (by have:=cF hE;unfold bS at this;have:=hs.links.1;omega) (fun z hz=>by
   obtain⟨h1,h2⟩:=eO (dJ hE) z hz
   omega) (R:=fun k' v=>∃m,v=.agg #[.slice A0 n0 d0,.slice A1 n1 d1,.slice A2 n2 d2,.map (some m)]∧NbV (NP K) k' m s.links) fun k' M u h=>⟨M,rfl,h⟩)).mono ?_
  rintro e w' ⟨v,k',rfl,hk,hbk,hb',m,rfl,hM⟩;refine⟨m,rfl,hb',k',iP hk (Below.refl _ _),bd.trans (hbk.mono bd.size),?_,hM⟩;have hlt:=Sy.heap_lt h6;exact (hbk.block _ (by rw [mk_size];exact hlt)).trans (mC (.inr (.inl rfl)) hlt)
 case h3=>
  rintro m W0 W ⟨kk,uk,bk,d6,hM⟩ hb0 hb h6;have bd:=nD (a:=w.heap.size+1+1) (c:=w.heap.size+1+1) (iP hw hb) (by omega) (by omega);have ud:=wY (uk.trans (Up.of_below hb0)) bk (nS d6) (nS d6);have ukk:=Up.of_below bk;refine (nG (kN hw hb h6 h6 nw6 nw6) ud (aLu (StateV.up hNT hl ukk) (StateV.up hNT hh ukk) (lC hz hc24) (lC hz' hc24) (R:=fun k' v=>∃c:BCell,v=.agg #[sl c.a0,sl c.a1,sl c.a2,sl c.a3,sl c.a4,sl c.a5]∧StateV (NP T) k' c.a0.A c.a0.n c.a1.A c.a1.n c.a2.A c.a2.n b.lo∧StateV (NP T) k' c.a3.A c.a3.n c.a4.A c.a4.n c.a5.A c.a5.n b.hi) fun k' B0 m0 e0 B1 m1 e1 B2 m2 e2 B3 m3 e3 B4 m4 e4 B5 m5 e5 u g1 g2=>⟨⟨⟨B0,m0,e0⟩,⟨B1,m1,e1⟩,⟨B2,m2,e2⟩,⟨B3,m3,e3⟩,⟨B4,m4,e4⟩,⟨B5,m5,e5⟩⟩,rfl,g1,g2⟩)).mono ?_;rintro e w' ⟨v,k',rfl,hk,hbk,hb',c,rfl,g1,g2⟩;refine⟨c,rfl,hb',k',iP hk (Below.refl _ _),bd.trans (hbk.mono bd.size),?_,NbV.up hN hM (ud.trans (Up.of_below hbk)),g1,g2⟩;have hlt:=Sy.heap_lt h6;exact (hbk.block _ (by rw [mk_size];exact hlt)).trans (mC (.inr (.inl rfl)) hlt)
 case h4=>
  rintro m w3 n c W ⟨kk,uk,bk,d6,hM,g1,g2⟩ hb hlt;have uW:=uk.trans (Up.of_below hb);have h3:=Nat.le_trans bk.size uk.size;have h6:=Nat.lt_of_lt_of_le (Sy.heap_lt d6) uW.size;have ud:=wY (c:=w3.heap.size) uW bk (nS d6) (fun o ho=>by have:=Sy.heap_lt ho;have:=uk.size;omega);have g1:=StateV.up hNT g1 ud;have g2:=StateV.up hNT g2 ud;refine⟨Nat.le_trans h3 hb.size,h3,_,aSn,⟨nD ((Up.of_below bk).trans uW) (by omega) h3,mC (.inr (.inl rfl)) h6,mC (.inr (.inr rfl)) hlt,fun g o hg ho=>?_⟩,NbV.up hN hM ud,g1.mono fun _ _ h=>h.mono (by simp),g2.mono fun _ _ h=>h.mono (by simp)⟩;have:=Sy.heap_lt ho;rw [mk_size]at this;omega
 case hO=>
  rintro m g10 base c pre W W' row ⟨i1,i2,kk,uk,hk,r⟩ hg hr;exact⟨i1,i2,kk,aWa hk uk hg hr,hk,r⟩
 case hS=>
  rintro m g10 base pre W c g cs ⟨i1,i2,kk,uk,hk,r⟩ hg e;exact⟨i1,i2,kk,aXi uk (by rcases e with rfl|rfl;exact hk.d10;exact hk.d6),hk,r⟩
 case hA=>
  rintro m g10 base pre x W c hlt ⟨i1,i2,kk,uk,hk,hM,g1,g2⟩ hb h6 h10;rw [hLF]at hlt;have bd:=nD (a:=w.heap.size+1+1) (c:=g10) (iP hw hb) (by omega) i2;have ud:=wY uk hk.bel (nS hk.d6) (nS hk.d10);have ukk:=Up.of_below hk.bel;have hj:=OkB.advL hE (rs:=pre.map fun x=>(at_ l x.1).r) (fun r hr=>by obtain⟨y,_,rfl⟩:=List.mem_map.1 hr;exact hmr y.1 y.2) hOK;have hWj:=hW _ (Nat.le_of_lt hlt);rw [aWw];refine (nG (kN hw hb h6 h10 nw6 nw6) ud (aVo (b:=advL s (pre.map fun x=>(at_ l x.1).r) b) (r:=(at_ l x.1).r) (SecV.up hN hs ukk) g1 g2 hM (RangeV.up hN (hq x.1 x.2) ukk) hE hj.lo hj.hi hd hK1 (by omega) hWj.1 hd2 (R:=aUi (NP (aJ K d (T+pre.length*(K+1))+1001)) (NP (T+pre.length*(K+1)+K+1)) (dW s (advL s (pre.map fun x=>(at_ l x.1).r) b) (at_ l x.1).r).lo (dW s (advL s (pre.map fun x=>(at_ l x.1).r) b) (at_ l x.1).r).hi) fun k' B0 m0 e0 B1 m1 e1 B2 m2 e2 B3 m3 e3 B4 m4 e4 B5 m5 e5 u t1 t2=>(by exact aXx t1 t2))).mono ?_;rintro e w' ⟨v,k',rfl,hsk,hbk,hb',c',rfl,t1,t2⟩;have k6:k'.heap[w.heap.size+1+1]?=some dead:=(hbk.block _ (by rw [mk_size];exact Sy.heap_lt h6)).trans (mC (.inr (.inl rfl)) (Sy.heap_lt h6));have k10:k'.heap[g10]?=some dead:=(hbk.block _ (by rw [mk_size];exact Sy.heap_lt h10)).trans (mC (.inr (.inr rfl)) (Sy.heap_lt h10));have hKK:=aNc (bd.trans (hbk.mono bd.size)) i1 k6 k10;have uS:=aQi hk (ud.trans (Up.of_below hbk));obtain⟨q1,q2⟩:=aCl hE hj.lo hj.hi hj.magl hj.magh (hmr x.1 x.2);refine⟨c',rfl,hb',i1,i2,_,aPz hsk,hKK,NbV.up hN hM uS,?_,?_⟩
  all_goals rw [List.length_append,List.map_append,show [x].length=1 from rfl,hsucc,List.map_singleton,uX]
  ·exact uC (t1.tightP q1 (by omega)) mk_size fun a v h=>uG h
  ·exact uC (t2.tightP q2 (by omega)) mk_size fun a v h=>uG h
 case hlen=>omega
 case hsteps=>
  intro j hj;have h1:=jI hj;have h2:=kC hst (j+1);have h3:=kC hst j;show (at_ l j).steps.toNat≤1000000;omega
 case fin=>
  rintro e w' ⟨m,g10,base,c,rfl,hb,_,_,kk,uk,hk,_,g1,g2⟩;rw [jP,List.take_length,hLF]at g1 g2;exact⟨⟨_,rfl,kk,c,uk,hk.bel,rfl,g1.mono fun _ _ h=>h.mono hfin,g2.mono fun _ _ h=>h.mono hfin⟩,hb⟩
end
open Sy (Up Sees CallsG Seg ReadAt)
section
variable {k k':World}{R:World→Value→Prop}{l:List PPhase}{s:PSec}{b:PBand}{K T W d n0 n1 n2 n3 n4 n5 n6 n7 n8 n9 d0 d1 d2 d3 d4 d5 d6 d7 d8 d9:Nat}{A0 A1 A2 A3 A4 A5 A6 A7 A8 A9:Option Addr}
theorem aGu {v:Value}{L:List Value}{q:Nat}{u:Value}(h:L.toArray[q]?=some u):(v :: L).toArray[1+q]?=some u:=by
 rw [List.getElem?_toArray]at h ⊢;rw [Nat.add_comm,List.getElem?_cons_succ];exact h
theorem twelve {N:World→Array Value→Rat→Prop}(hN:Num3 N) {c0 c1 c2 c3:Array Value}{r:PRange}(h:RangeV N k c0 c1 c2 c3 r):(c0.toList++(c1.toList++(c2.toList++(c3.toList++[])))).toArray.size=12:=by
 simp [(hN.seg h.s0).1,(hN.seg h.s1).1,(hN.seg h.a0).1,(hN.seg h.a1).1]
theorem aWy (hl:Lst k A9 n9 13 (PhV (NR K) k) l) (hK:K≤300000000) (C:∀k',Up k k'→R k' (.int .i64 (rF l))) :
 Cl k 86 #[.slice A9 n9 d9] R:=by
 intro k0 u0;have hN:=bG K;replace hl:=gA hN hl u0;replace C:=fun k' u=>C k' (u0.trans u);have hn:=hl.1;refine aTn ⟨rfl,fun h k1 u1=>?_,fun h=>?_⟩
 ·have:=C k1 u1;unfold rF at this
  rwa [if_pos (by have:=of_decide_eq_true h;omega)]at this
 have h:=of_decide_eq_false h;have h16:¬ 16<l.length:=by omega
 refine⟨fun m k vs=>∃(j:Nat) (z:Int),j+m=n9∧vs=[.int .i64 z,.int .i64 j]∧(∀i,i<j→phE (at_ l i)=0)∧(bX (l.take j)≤2000→z=bX (l.take j))∧(2000<bX (l.take j)→2000<z),⟨n9,fun k1 u1=>⟨0,0,by omega,rfl,fun i hi=>by omega,fun _=>rfl,fun h=>by simp [bX]at h⟩⟩,?_⟩;rintro m k1 vs u1 ⟨j,z,hj,rfl,hz,z1,z2⟩;have hl1:=gA hN hl u1;refine⟨_,_,rfl,rfl,fun hlt=>?_,fun hge=>?_⟩
 ·have hlt:=aF hlt;obtain⟨a,_,⟨c0,c1,c2,c3,rfl,hr⟩,ha,hb,_,hrd,hri⟩:=hl1.elx (i:=j) (by omega) (by decide);have stop:∀(e:Int),e≠0→phE (at_ l j)=e→∀k',Up k1 k'→R k' (.int .i64 e):=fun e he h k' u=>by
   have:=C k' (u1.trans u);unfold rF at this;have hf:iG (fun i=>phE (at_ l i)) l.length=e:=dT hz h he (by omega)
   rwa [if_neg h16,if_pos (by rw [hf];exact he),hf]at this
  have hs:=jI (l:=l) (j:=j) (by omega);refine⟨ha,hb,ha,hb,_,hri k1 0 _ (Up.refl _) rfl,fun hp k2 u2=>?_,fun hp=>⟨ha,hb,ha,hb,c0,hN.seg hr.s0,c1,hN.seg hr.s1,c2,hN.seg hr.a0,c3,hN.seg hr.a1,hrd k1 _ 1 12 (Up.refl _) (twelve hN hr) (fun q u h=>aGu h),?_⟩⟩
  ·exact stop 1 (by decide) (by unfold phE;rw [if_pos (of_decide_eq_true hp)]) k2 u2
  ·have hp:=of_decide_eq_false hp;refine aPf hr hK fun k4 u4=>⟨_,rfl,fun f k5 u5=>?_,fun f=>?_⟩
   ·exact stop _ (dE f) (by unfold phE;rw [if_neg hp]) k5 (u4.trans u5)
   ·have hz':=cC hz (show phE (at_ l j)=0 by unfold phE;rw [if_neg hp];exact bO f);have hst:∀i,i<(l.take j).length→0≤(at_ (l.take j) i).steps:=fun i hi=>by
     have hi':i<j∧i<l.length:=by rw [List.length_take]at hi;omega
     have:=(aBd (hz i hi'.1)).1;rw [cT hi,List.getElem_take,←cT hi'.2];exact this
    have h0:=(kC hst j).1;rw [List.take_take,Nat.min_self]at h0;refine⟨ha,hb,ha,hb,_,hri k4 0 _ u4 rfl,fun g k6 u6=>?_,fun g=>⟨fun g' k7 u7=>?_,fun g'=>⟨ha,hb,ha,hb,_,hri k4 0 _ u4 rfl,fun k8 u8=>?_⟩⟩⟩
    ·have g:=of_decide_eq_true g;exact⟨m-1,by omega,j+1,_,by omega,by rw [aC (by omega)],hz',fun h=>by omega,fun _=>by decide⟩
    ·have g':=of_decide_eq_true g';have g:=of_decide_eq_false g;exact⟨m-1,by omega,j+1,_,by omega,by rw [aC (by omega)],hz',fun h=>by omega,fun _=>by decide⟩
    ·have g':=of_decide_eq_false g';have g:=of_decide_eq_false g;refine⟨m-1,by omega,j+1,_,by omega,by rw [aC (by omega)],hz',fun h=>?_,fun h=>?_⟩
     all_goals rw [IntKind.wrap_i64];omega
 ·have hge:=aG hge;have hz':∀i,i<l.length→phE (at_ l i)=0:=fun i hi=>hz i (by omega);have hf:¬ iG (fun i=>phE (at_ l i)) l.length≠0:=by rw [cK hz'];simp
  replace C:=fun k' u=>C k' (u1.trans u);unfold rF at C;rw [if_neg h16,if_neg hf]at C;rw [List.take_of_length_le (by omega)]at z1 z2;refine⟨fun g k9 u9=>?_,fun g k10 u10=>?_⟩
  ·have g:=of_decide_eq_true g;have:=C k9 u9
   rwa [if_pos (by omega)]at this
  ·have g:=of_decide_eq_false g;have:=C k10 u10
   rwa [if_neg (by omega)]at this
set_option maxHeartbeats 1000000 in
theorem aKa (hs:SecV (NR K) k A0 n0 A1 n1 A2 n2 s) (hl:StateV (NR T) k A3 n3 A4 n4 A5 n5 b.lo) (hh:StateV (NR T) k A6 n6 A7 n7 A8 n8 b.hi) (hp:Lst k A9 n9 13 (PhV (NR K) k) l)
 (hd:aL s=0→∀i,i<s.cells.length→(nbm s.links (i:Nat)).length≤d) (hml:uM b.lo) (hmh:uM b.hi) (hmr:∀j,j<l.length→MagR (at_ l j).r) (hK2:2≤K) (hT2:2≤T) (hK:K≤1000000) (hTT:T≤100000000)
 (hm:iF s b l=0→aJ K d (T+(bX l).toNat*(K+1))≤90000) (hfin:iF s b l=0→T+(bX l).toNat*(K+1)≤W)
 (C:∀k' B0 m0 e0 B1 m1 e1 B2 m2 e2 B3 m3 e3 B4 m4 e4 B5 m5 e5,Up k k'→StateV (NR W) k' B0 m0 B1 m1 B2 m2 (sK s b l).lo→StateV (NR W) k' B3 m3 B4 m4 B5 m5 (sK s b l).hi→
   R k' (.tuple #[.agg #[.slice B0 m0 e0,.slice B1 m1 e1,.slice B2 m2 e2,.slice B3 m3 e3,.slice B4 m4 e4,.slice B5 m5 e5],.int .i64 (iF s b l)])) :
 Cl k 38 #[.agg #[.slice A0 n0 d0,.slice A1 n1 d1,.slice A2 n2 d2],.agg #[.slice A3 n3 d3,.slice A4 n4 d4,.slice A5 n5 d5,.slice A6 n6 d6,.slice A7 n7 d7,.slice A8 n8 d8],.slice A9 n9 d9] R:=by
 intro k0 u0;have hN:=bG K;have hNT:=bG T;replace hs:=SecV.up hN hs u0;replace hl:=StateV.up hNT hl u0;replace hh:=StateV.up hNT hh u0;replace hp:=gA hN hp u0;replace C:=fun k' B0 m0 e0 B1 m1 e1 B2 m2 e2 B3 m3 e3 B4 m4 e4 B5 m5 e5 u=>C k' B0 m0 e0 B1 m1 e1 B2 m2 e2 B3 m3 e3 B4 m4 e4 B5 m5 e5 (u0.trans u);have bad:∀e:Int,iF s b l=e→e≠0→∀k',Up k0 k'→R k' (.tuple #[.agg #[.slice none 0 0,.slice none 0 0,.slice none 0 0,.slice none 0 0,.slice none 0 0,.slice none 0 0],.int .i64 e]):=fun e he h0 k' u=>by
  have:=C k' none 0 0 none 0 0 none 0 0 none 0 0 none 0 0 none 0 0 u (by unfold sK yK;rw [he,if_pos h0];exact⟨.nil,.nil,.nil⟩) (by unfold sK yK;rw [he,if_pos h0];exact⟨.nil,.nil,.nil⟩)
  rwa [he]at this
 refine aEl (aLm hs hl hh hK (by omega) fun k1 u1=>⟨_,rfl,fun f k2 u2=>?_,fun f=>aWy (gA hN hp u1) (by omega) fun k4 u4=>⟨_,rfl,fun g k5 u5=>?_,fun g=>?_⟩⟩)
 ·exact bad _ (by unfold iF;rw [if_pos (dE f)]) (dE f) k2 (u1.trans u2)
 ·exact bad _ (by unfold iF;rw [if_neg (by rw [bO f];simp)]) (dE g) k5 (u1.trans (u4.trans u5))
 have hB:=bO f;have hPh:=bO g;have hF:iF s b l=0:=by unfold iF;rw [if_neg (by rw [hB];simp),hPh]
 have v4:=u1.trans u4;obtain⟨hE,hz,hz',_⟩:=xE hB;obtain⟨h16,hph,h2000⟩:=aDz hPh;have hOK:OkB s b:=⟨hz,hz',hml,hmh⟩;have hd:=hd hE;have hst:∀j,j<l.length→0≤(at_ l j).steps:=fun j hj=>(aBd (hph j hj)).1;have hm:=hm hF;have hfin:=hfin hF;have hn:=hp.1;have hW:∀j,j≤(bX l).toNat→aJ K d (T+j*(K+1))≤90000∧T+j*(K+1)≤90000:=fun j hj=>by
  have h1:T+j*(K+1)≤T+(bX l).toNat*(K+1):=Nat.add_le_add_left (Nat.mul_le_mul_right _ hj) _;have h2:=Nat.le_trans (uF h1) hm;exact⟨h2,Nat.le_trans uE h2⟩
 have hsucc:∀j:Nat,T+(j+1)*(K+1)=T+j*(K+1)+K+1:=fun j=>by rw [Nat.succ_mul];omega
 unfold sK yK at C;rw [hF,if_neg (by simp)]at C
 refine⟨fun m k vs=>∃(j:Nat) (B0:Option Addr) (m0 e0:Nat) (B1:Option Addr) (m1 e1:Nat) (B2:Option Addr) (m2 e2:Nat) (B3:Option Addr) (m3 e3:Nat) (B4:Option Addr) (m4 e4:Nat) (B5:Option Addr) (m5 e5:Nat),j+m=n9∧vs=[.int .i64 j,.agg #[.slice B0 m0 e0,.slice B1 m1 e1,.slice B2 m2 e2,.slice B3 m3 e3,.slice B4 m4 e4,.slice B5 m5 e5]]∧
  StateV (NR (T+(bX (l.take j)).toNat*(K+1))) k B0 m0 B1 m1 B2 m2 (advL s (cZ (l.take j)) b).lo∧StateV (NR (T+(bX (l.take j)).toNat*(K+1))) k B3 m3 B4 m4 B5 m5 (advL s (cZ (l.take j)) b).hi,
  ⟨n9,fun k6 u6=>⟨0,_,_,_,_,_,_,_,_,_,_,_,_,_,_,_,_,_,_,by omega,rfl,(StateV.up hNT hl (v4.trans u6)).mono fun _ _ h=>h.mono (by omega),(StateV.up hNT hh (v4.trans u6)).mono fun _ _ h=>h.mono (by omega)⟩⟩,?_⟩
 rintro m k6 vs u6 ⟨j,B0,m0,e0,B1,m1,e1,B2,m2,e2,B3,m3,e3,B4,m4,e4,B5,m5,e5,hj,rfl,gl,gh⟩;have v6:=v4.trans u6;refine⟨_,_,_,_,_,_,_,_,_,_,_,_,_,_,_,_,_,_,_,rfl,rfl,fun hlt=>?_,fun hge k12 u12=>?_⟩
 ·have hlt:=aF hlt;have hsm:=jI (l:=l) (j:=j) (by omega);have h0:=hst j (by omega);have s0:=kC hst j;have s1:=kC hst (j+1);obtain⟨S,hS⟩:∃S:Nat,(bX (l.take j)).toNat=S:=⟨_,rfl⟩;rw [hS]at gl gh
  refine⟨fun m k vs=>∃(i:Nat) (B0:Option Addr) (m0 e0:Nat) (B1:Option Addr) (m1 e1:Nat) (B2:Option Addr) (m2 e2:Nat) (B3:Option Addr) (m3 e3:Nat) (B4:Option Addr) (m4 e4:Nat) (B5:Option Addr) (m5 e5:Nat),i+m=(at_ l j).steps.toNat∧vs=[.int .i64 i,.agg #[.slice B0 m0 e0,.slice B1 m1 e1,.slice B2 m2 e2,.slice B3 m3 e3,.slice B4 m4 e4,.slice B5 m5 e5]]∧
   StateV (NR (T+(S+i)*(K+1))) k B0 m0 B1 m1 B2 m2 (advL s (cZ (l.take j)++List.replicate i (at_ l j).r) b).lo∧StateV (NR (T+(S+i)*(K+1))) k B3 m3 B4 m4 B5 m5 (advL s (cZ (l.take j)++List.replicate i (at_ l j).r) b).hi,
   ⟨(at_ l j).steps.toNat,fun k7 u7=>⟨0,_,_,_,_,_,_,_,_,_,_,_,_,_,_,_,_,_,_,by omega,rfl,by rw [List.replicate_zero,List.append_nil];exact StateV.up (bG _) gl u7,by rw [List.replicate_zero,List.append_nil];exact StateV.up (bG _) gh u7⟩⟩,?_⟩
  rintro m' k7 vs u7 ⟨i,B0,m0,e0,B1,m1,e1,B2,m2,e2,B3,m3,e3,B4,m4,e4,B5,m5,e5,hi,rfl,gl,gh⟩;have v7:=v6.trans u7;obtain⟨a,_,⟨c0,c1,c2,c3,rfl,hr⟩,ha,hb,_,hrd,hri⟩:=(gA hN hp v7).elx (i:=j) (by omega) (by decide);refine⟨_,_,_,_,_,_,_,_,_,_,_,_,_,_,_,_,_,_,_,rfl,ha,hb,ha,hb,_,hri k7 0 _ (Up.refl _) rfl,fun hlt'=>⟨ha,hb,ha,hb,c0,hN.seg hr.s0,c1,hN.seg hr.s1,c2,hN.seg hr.a0,c3,hN.seg hr.a1,hrd k7 _ 1 12 (Up.refl _) (twelve hN hr) (fun q u h=>aGu h),?_⟩,fun hge' k11 u11=>?_⟩
  ·have hlt':=of_decide_eq_true hlt';have hWj:=hW (S+i) (by omega)
   have hjj:=OkB.advL hE (rs:=cZ (l.take j)++List.replicate i (at_ l j).r) (fun r hr=>by
    rcases List.mem_append.1 hr with hr|hr
    ·exact aIj hmr hr
    ·rw [(List.mem_replicate.1 hr).2];exact hmr j (by omega)) hOK
   refine aWr (SecV.up hN hs v7) gl gh hr hE hjj.lo hjj.hi hd hK2 (by omega) hK hWj.1 fun k9 B0 m0 e0 B1 m1 e1 B2 m2 e2 B3 m3 e3 B4 m4 e4 B5 m5 e5 u9 g1 g2=>⟨_,_,_,_,_,_,_,_,_,_,_,_,_,_,_,_,_,_,rfl,fun k10 u10=>?_⟩;obtain⟨q1,q2⟩:=aCl hE hjj.lo hjj.hi hjj.magl hjj.magh (hmr j (by omega));refine⟨m'-1,by omega,i+1,_,_,_,_,_,_,_,_,_,_,_,_,_,_,_,_,_,_,by omega,by rw [aC (by omega)],?_,?_⟩
   all_goals rw [show S+(i+1)=S+i+1 from rfl,hsucc,List.replicate_succ',←List.append_assoc,uX]
   ·exact StateV.up (bG _) (g1.tightR q1 (by omega)) u10
   ·exact StateV.up (bG _) (g2.tightR q2 (by omega)) u10
  ·have hge':=of_decide_eq_false hge';have ei:i=(at_ l j).steps.toNat:=by omega
   have eS:S+i=(bX (l.take (j+1))).toNat:=by omega
   have eF:cZ (l.take (j+1))=cZ (l.take j)++List.replicate i (at_ l j).r:=by rw [yT (by omega),vQ,ei];simp [cZ]
   rw [eS,←eF]at gl gh;exact⟨m-1,by omega,j+1,_,_,_,_,_,_,_,_,_,_,_,_,_,_,_,_,_,_,by omega,by rw [aC (by omega)],StateV.up (bG _) gl u11,StateV.up (bG _) gh u11⟩
 ·have hge:=aG hge;rw [List.take_of_length_le (by omega)]at gl gh;exact C k12 _ _ _ _ _ _ _ _ _ _ _ _ _ _ _ _ _ _ (v6.trans u12) ((StateV.up (bG _) gl u12).mono fun _ _ h=>h.mono hfin) ((StateV.up (bG _) gh u12).mono fun _ _ h=>h.mono hfin)
end
def PhA (cs:Array Value) (p:PPhase):Prop:=∃t i0 i1 i2 i3 i4 i5 i6 i7,In64 t∧In64 i0∧In64 i1∧In64 i2∧In64 i3∧In64 i4∧In64 i5∧In64 i6∧In64 i7∧cs=#[.int .i64 t,.int .i64 i0,.int .i64 i1,.int .i64 i2,.int .i64 i3,.int .i64 i4,.int .i64 i5,.int .i64 i6,.int .i64 i7]∧p=⟨t,⟨ofQ i0 i1,ofQ i2 i3,ofQ i4 i5,ofQ i6 i7⟩⟩
theorem tX {s:PSec}:∀ {rs:List PRange}{b:PBand},sized s b.lo→sized s b.hi→sized s (advL s rs b).lo∧sized s (advL s rs b).hi
 | [],_,h,h'=>⟨h,h'⟩
 | _ :: rs,_,_,_=>tX (rs:=rs) iQ iQ
theorem aIm {s:PSec}{x:PBand}{l:List PPhase}(hc24:aL s=0→s.cells.length≤24):small5 (sK s x l).lo∧small5 (sK s x l).hi:=by
 refine aXd fun h=>?_;obtain⟨hE,hz,hz',_⟩:=xE (aDc h).1;have hc:=hc24 hE;obtain⟨⟨a1,a2,a3⟩,b1,b2,b3⟩:=tX (rs:=cZ l) hz hz';exact⟨⟨by omega,by omega,by omega⟩,by omega,by omega,by omega⟩
section
variable {k:World}{R:World→Value→Prop}{s:PSec}{x:PBand}{l:List PPhase}{n0 n1 n2 d0 d1 d2 n3 n4 n5 d3 d4 d5 n6 d6 n7 d7 n8 d8 n9 d9:Nat}{A0 A1 A2 A3 A4 A5 A6 A7 A8 A9:Option Addr}
theorem aWc (hl:Lst k A9 n9 9 PhA l) (hn:l.length≤10000)
 (C:∀k' B m d B' m' d',Up k k'→Lst k' B m 13 (PhV (NP 1) k') l→Lst k' B' m' 13 (PhV (NR' 2) k') l→R k' (.tuple #[.slice B m d,.slice B' m' d'])) :
 Cl k 34 #[.slice A9 n9 d9] R:=by
 intro k0 u0;replace hl:=hl.kept u0;replace C:=fun k' B m d B' m' d' u=>C k' B m d B' m' d' (u0.trans u);have en:=hl.1;have hN:=aM 1;have hM:=bG 2;have s0:∀ {k:World},∀a (v:PPhase),PhV (NP 1) k a v→Seg 13 a:=fun _ _ h=>PhV.seg hN h;have s1:∀ {k:World},∀a (v:PPhase),PhV (NR' 2) k a v→Seg 13 a:=fun _ _ h=>PhV.seg hM h
 refine aSf ⟨rfl,fun m k vs=>∃(j:Nat) (B0 B1:Option Addr) (e0 e1:Nat) (x0 x1:Array Value),j+m=n9∧vs=[.int .i64 j,.tuple #[.slice B0 j e0,.agg x0],.tuple #[.slice B1 j e1,.agg x1]]∧
  ArrV j 13 (PhV (NP 1) k) x0 (at_ l)∧ArrV j 13 (PhV (NR' 2) k) x1 (at_ l),⟨n9,fun k1 u1=>⟨0,_,_,_,_,_,_,by omega,rfl,ArrV.empty,ArrV.empty⟩⟩,?_⟩
 rintro m k1 vs u1 ⟨j,B0,B1,e0,e1,x0,x1,hj,rfl,h0,h1⟩;refine⟨j,B0,j,e0,x0,h0.rowC s0,B1,j,e1,x1,h1.rowC s1,rfl,fun hlt=>?_,fun hge k2 u2 r0 k3 u3 r1 k4 u4=>?_⟩
 ·have hlt:=aF hlt;obtain⟨a,_,⟨t,i0,i1,i2,i3,i4,i5,i6,i7,gt,g0,g1,g2,g3,g4,g5,g6,g7,rfl,er⟩,ha,hb,hr,_⟩:=(hl.kept u1).el (i:=j) (by omega) (by decide);refine⟨ha,hb,t,i0,i1,i2,i3,i4,i5,i6,i7,hr k1 (Up.refl _),aIx g0 g1 g2 g3 g4 g5 g6 g7 fun k2 c0 c1 c2 c3 o0 o1 o2 o3 u2 pr rr=>⟨_,pr.s0.seg,_,pr.s1.seg,_,pr.a0.seg,_,pr.a1.seg,_,rr.s0.seg,_,rr.s1.seg,_,rr.a0.seg,_,rr.a1.seg,rfl,by simp [pr.s0.seg.1,pr.s1.seg.1,pr.a0.seg.1,pr.a1.seg.1],by decide,⟨by simp;omega,by simp;omega⟩,?_⟩⟩;rintro B0' _ g0' _ rfl rfl _;refine⟨by simp [rr.s0.seg.1,rr.s1.seg.1,rr.a0.seg.1,rr.a1.seg.1],by decide,⟨by simp;omega,by simp;omega⟩,?_⟩;rintro B1' _ g1' _ rfl rfl _ k9 u9;have v9:=u2.trans u9;refine⟨m-1,by omega,j+1,B0',B1',g0',g1',_,_,by omega,by rw [aC (by omega)];rfl,?_,?_⟩
  ·refine ArrV.push (a:=((Value.int .i64 t) :: (c0.toList++(c1.toList++(c2.toList++(c3.toList++[]))))).toArray) (h0.mono fun a v h=>PhV.up hN h v9) (by simp [pr.s0.seg.1,pr.s1.seg.1,pr.a0.seg.1,pr.a1.seg.1]) ?_;rw [er];exact⟨c0,c1,c2,c3,rfl,RangeV.up hN pr u9⟩
  ·refine ArrV.push (a:=((Value.int .i64 t) :: (o0.toList++(o1.toList++(o2.toList++(o3.toList++[]))))).toArray) (h1.mono fun a v h=>PhV.up hM h v9) (by simp [rr.s0.seg.1,rr.s1.seg.1,rr.a0.seg.1,rr.a1.seg.1]) ?_;rw [er];exact⟨o0,o1,o2,o3,rfl,RangeV.up hM rr u9⟩
 ·have hge:=aG hge;have ej:j=l.length:=by omega
  have v4:=(u2.trans u3).trans u4;refine C k4 B0 j e0 B1 j e1 (u1.trans v4) ⟨ej,?_⟩ ⟨ej,?_⟩
  ·exact (h0.mono fun a v h=>PhV.up hN h v4).els s0 (bN r0 (u3.trans u4))
  ·exact (h1.mono fun a v h=>PhV.up hM h v4).els s1 (bN r1 u4)
theorem aNt (hl:Lst k A9 n9 9 PhA l) (hn:l.length≤10000) (C:∀k' n b,Up k k'→R k' (.tuple #[.int .i64 n,.bool b])) :
 Cl k 35 #[.slice A9 n9 d9] R:=by
 intro k0 u0;replace hl:=hl.kept u0;have en:=hl.1;refine aDn ⟨rfl,fun m k vs=>∃(j:Nat) (z:Int),j+m=n9∧vs=[.int .i64 z,.int .i64 j],⟨n9,fun k1 u1=>⟨0,0,by omega,rfl⟩⟩,?_⟩;rintro m k1 vs u1 ⟨j,z,hj,rfl⟩;refine⟨_,_,rfl,fun hlt=>?_,fun _ k5 u5=>C k5 _ _ ((u0.trans u1).trans u5)⟩;have hlt:=aF hlt;obtain⟨a,_,⟨t,i0,i1,i2,i3,i4,i5,i6,i7,gt,g0,g1,g2,g3,g4,g5,g6,g7,rfl,er⟩,ha,hb,hr,_⟩:=(hl.kept u1).el (i:=j) (by omega) (by decide);exact⟨ha,hb,t,i0,i1,i2,i3,i4,i5,i6,i7,hr k1 (Up.refl _),fun _ k2 u2=>C k2 _ _ ((u0.trans u1).trans u2),fun _=>⟨fun _ k2 u2=>C k2 _ _ ((u0.trans u1).trans u2),fun _=>⟨rfl,fun _ k3 u3=>C k3 _ _ ((u0.trans u1).trans u3),fun _ k4 u4=>⟨m-1,by omega,j+1,_,by omega,by rw [aC (by omega)]⟩⟩⟩⟩
theorem aSc (hl:Lst k A9 n9 9 PhA l) (hn:l.length≤10000) (C:∀k' b,Up k k'→(b=false→(∀j,j<l.length→0≤(at_ l j).steps)→bX l≤2000→bX l≤24)→R k' (.bool b)) :
 Cl k 36 #[.slice A9 n9 d9] R:=by
 intro k0 u0;replace hl:=hl.kept u0;replace C:=fun k' b u=>C k' b (u0.trans u);have en:=hl.1;refine aNn ⟨rfl,fun m k vs=>∃(j:Nat) (z:Int),j+m=n9∧vs=[.int .i64 z,.int .i64 j]∧0≤bX (l.take j)∧0≤z∧z≤6000∧(bX (l.take j)≤2000→z=bX (l.take j))∧(2000<bX (l.take j)→2000<z),⟨n9,fun k1 u1=>⟨0,0,by omega,rfl,by simp [bX],by decide,by decide,fun _=>rfl,fun h=>by simp [bX]at h⟩⟩,?_⟩;rintro m k1 vs u1 ⟨j,z,hj,rfl,p0,z0,z6,z1,z2⟩;refine⟨_,_,rfl,fun hlt=>?_,fun hge=>?_⟩
 ·have hlt:=aF hlt;have hs:=jI (l:=l) (j:=j) (by omega);obtain⟨a,_,⟨t,i0,i1,i2,i3,i4,i5,i6,i7,gt,g0,g1,g2,g3,g4,g5,g6,g7,rfl,er⟩,ha,hb,hr,_⟩:=(hl.kept u1).el (i:=j) (by omega) (by decide);have et:(at_ l j).steps=t:=by rw [er]
  refine⟨ha,hb,t,i0,i1,i2,i3,i4,i5,i6,i7,hr k1 (Up.refl _),fun f k2 u2=>C k2 _ (u1.trans u2) fun _ h=>?_,fun f k2 u2=>?_⟩
  ·have:=h j (by omega);have f:=of_decide_eq_true f;omega
  ·have f:=of_decide_eq_false f;refine⟨m-1,by omega,j+1,_,by omega,by rw [aC (by omega)],by omega,?_⟩;simp only [decide_eq_true_eq,IntKind.wrap_i64];split <;> split <;> (refine⟨?_,?_,?_,?_⟩ <;> omega)
 ·have hge:=aG hge;rw [List.take_of_length_le (by omega)]at z1 z2;refine⟨fun g k3 u3=>C k3 _ (u1.trans u3) fun f _ h=>?_,fun g k4 u4=>C k4 _ (u1.trans u4) fun _ _ h=>?_⟩
  ·have f:=of_decide_eq_false f;have:=z1 h;omega
  ·have g:=of_decide_eq_false g;have:=z1 h;omega
set_option maxHeartbeats 2000000 in
theorem uO (hs:SecA k A0 n0 A1 n1 A2 n2 s) (hxl:StateA k A3 n3 A4 n4 A5 n5 x.lo) (hxh:StateA k A6 n6 A7 n7 A8 n8 x.hi) (hl:Lst k A9 n9 9 PhA l) (C:∀k',Up k k'→R k' (.bool true)) :
 Cl k 6 #[.agg #[.slice A0 n0 d0,.slice A1 n1 d1,.slice A2 n2 d2],.agg #[.slice A3 n3 d3,.slice A4 n4 d4,.slice A5 n5 d5,.slice A6 n6 d6,.slice A7 n7 d7,.slice A8 n8 d8],.slice A9 n9 d9] R:=by
 intro k0 u0;replace hs:=hs.up u0;replace hxl:=hxl.up u0;replace hxh:=hxh.up u0;replace hl:=hl.kept u0;replace C:=fun k' u=>C k' (u0.trans u);have aw:∀k1,Up k0 k1→Cl k1 13 #[] fun k8 r7=>∃b10,some (Value.bool b10)=some r7∧∀k9,Up k8 k9→R k9 (Value.bool b10):=
  fun k1 u1=>zI fun k3 u3=>⟨_,rfl,fun k4 u4=>C k4 ((u1.trans u3).trans u4)⟩
 have P1:=aM 1;have R2:=bG 2;have gml:=uB hxl;have gmh:=uB hxh;have gmr:∀j,j<l.length→MagR (at_ l j).r:=fun j hj=>by
  obtain⟨a,_,⟨t,i0,i1,i2,i3,i4,i5,i6,i7,gt,g0,g1,g2,g3,g4,g5,g6,g7,rfl,er⟩,_⟩:=hl.el hj (by decide);rw [er];exact⟨oA g0 g1,oA g2 g3,oA g4 g5,oA g6 g7⟩
 refine aDi (aYf (most:=6) hs (by decide) fun k1 b1 u1 hb1=>⟨_,rfl,fun _=>aw k1 u1,fun f1=>?_⟩);refine aIh hxl.temp.1 hxl.cure.1 hxl.spoil.1 hxh.temp.1 hxh.cure.1 hxh.spoil.1 fun k2 b2 u2 hb2=>⟨_,rfl,fun _=>aw k2 (u1.trans u2),fun f2=>⟨rfl,fun _=>aw k2 (u1.trans u2),fun f3=>?_⟩⟩;have hn:l.length≤20:=by have:=hl.1;have:=of_decide_eq_false f3;omega
 have hf:=hb1 (nZ f1);obtain⟨fxl,fxh⟩:=hb2 (nZ f2);have hd:aL s=0→∀i,i<s.cells.length→(nbm s.links (i:Nat)).length≤5:=fun hE i hi=>by have:=aSt hE hi;have:=hf.cells;omega
 have hc24:aL s=0→s.cells.length≤24:=fun h=>by have:=cF h;unfold bS at this;omega
 have v2:=u1.trans u2;refine aSg (hs.up v2) hf (by decide) fun k5 B0 m0 e0 B1 m1 e1 B2 m2 e2 D0 p0 g0 D1 p1 g1 D2 p2 g2 u5 hp hr=>⟨_,_,_,_,_,_,_,_,_,_,_,_,_,_,_,_,_,_,rfl,?_⟩;have v5:=v2.trans u5;refine aNe (hxl.up v5) (hxh.up v5) fxl fxh fun k6 B3 m3 e3 B4 m4 e4 B5 m5 e5 B6 m6 e6 B7 m7 e7 B8 m8 e8 D3 p3 g3 D4 p4 g4 D5 p5 g5 D6 p6 g6 D7 p7 g7 D8 p8 g8 u6 pxl pxh rxl rxh=>⟨_,_,_,_,_,_,_,_,_,_,_,_,_,_,_,_,_,_,_,_,_,_,_,_,_,_,_,_,_,_,_,_,_,_,_,_,rfl,?_⟩;have v6:=v5.trans u6;refine aWc (hl.kept v6) (by omega) fun k7 B9 m9 e9 D9 p9 g9 u7 pl rl=>⟨_,_,_,_,_,_,rfl,?_⟩;have v7:=v6.trans u7;refine aNt (hl.kept v7) (by omega) fun k8 nn bb u8=>⟨_,_,rfl,fun _=>⟨fun _=>aw k8 (v7.trans u8),fun _=>?_⟩,fun _=>?_⟩
 all_goals
  have v8:=v7.trans u8;refine aSc (hl.kept v8) (by omega) fun k9 b9 u9 hb9=>⟨_,rfl,fun _=>aw k9 (v8.trans u9),fun f9=>?_⟩;have hsum:iF s x l=0→(bX l).toNat≤24:=fun h=>by
   obtain⟨_,hph,h2⟩:=aDz (aDc h).2;have:=hb9 f9 (fun j hj=>(aBd (hph j hj)).1) h2;omega
  have w9:=u6.trans (u7.trans (u8.trans u9));have y9:=u7.trans (u8.trans u9);refine aHi (K:=1) (T:=1) (W:=100) (d:=5) (b:=x) (SecV.up P1 hp w9) (StateV.up P1 pxl y9) (StateV.up P1 pxh y9) (gA P1 pl (u8.trans u9)) hd gml gmh gmr (by decide) (by decide) (by decide) (by decide) (by decide) (fun h=>by have:=hsum h;unfold aJ;omega) (fun h=>by have:=hsum h;omega) fun k10 G0 t0 a0 G1 t1 a1 G2 t2 a2 G3 t3 a3 G4 t4 a4 G5 t5 a5 u10 el eh=>⟨_,_,_,_,_,_,_,_,_,_,_,_,_,_,_,_,_,_,_,rfl,?_⟩;refine aKa (K:=2) (T:=2) (W:=200) (d:=5) (b:=x) (SecV.up R2 hr (w9.trans u10)) (StateV.up R2 rxl (y9.trans u10)) (StateV.up R2 rxh (y9.trans u10)) (gA R2 rl ((u8.trans u9).trans u10)) hd gml gmh gmr (by decide) (by decide) (by decide) (by decide) (fun h=>by have:=hsum h;unfold aJ;omega) (fun h=>by have:=hsum h;omega) fun k11 H0 s0 y0 H1 s1 y1 H2 s2 y2 H3 s3 y3 H4 s4 y4 H5 s5 y5 u11 el' eh'=>⟨_,_,_,_,_,_,_,_,_,_,_,_,_,_,_,_,_,_,_,rfl,fun _=>?_,fun h=>absurd h aGz⟩;refine aMy (StateV.up (aM _) el u11) (StateV.up (aM _) eh u11) el' eh' (aIm hc24) (by decide) (by decide) fun k12 u12=>⟨_,rfl,fun _=>?_,fun h=>absurd h (by decide)⟩;exact zI fun k13 u13=>⟨_,rfl,fun k14 u14=>C k14 (v5.trans (w9.trans (u10.trans (u11.trans (u12.trans (u13.trans u14))))))⟩
end
