/- Several texts in one. (Printed by prep.py.) -/
import Derived.RangeFuncNested
import Derived.RangeFuncBound
import Derived.RangeFuncCalls
import Derived.RangeFuncLeaves
import Derived.Shelf.Abstract
import Derived.Shelf.RegionOpen
import Derived.OwnWalkIn
import Derived.TacticsInMore
import Derived.LoopNIn
import Derived.LoopIn
import Derived.Test.YtebaclefnpipfaaGreatTeDL
import Derived.Laws.ResultCell
import Derived.Laws.Rows
namespace Go.Proofs.YtebaclefnpipfaaGreat
set_option maxRecDepth 100000
set_option maxHeartbeats 4000000
open Go.RowKit Go.Shelf
attribute [local go_sem] Oper.semAt_some
structure KeepC (g:Nat) (W W':World):Prop where
 size:W.heap.size≤W'.heap.size
 same:∀(p:Nat) (o:Obj),W.heap[p]?=some o→o.isCells=true→p≠g→W'.heap[p]?=some o
theorem KeepC.trans {g:Nat}{A B C:World}(h:KeepC g A B) (h':KeepC g B C):KeepC g A C:=⟨qg h.size h'.size,fun p o hp ho hg=>h'.same p o (h.same p o hp ho hg) ho hg⟩
theorem KeepC.refl {g:Nat}{A:World}:KeepC g A A:=⟨oy _,fun _ _ h _ _=>h⟩
theorem KeepC.put {g:Nat}{W:World}{l:Nat}{o o':Obj}(hl:W.heap[l]?=some o) (ho:o.isCells=false):KeepC g W (W.putObj l o'):=
 ⟨by simp [World.putObj],fun p q hp hq _=>by
   have hne:p≠l:=fun e=>by subst e;rw [hl]at hp;cases hp;rw [ho]at hq;cases hq
   rw [World.putObj_heap_other hne];exact hp⟩
theorem KeepC.cell {g:Nat}{W W':World}(h:KeepC g W W') {b p:Nat}{v:Value}(hv:W.cell? ⟨b,p,none⟩=some v) (hb:b≠g):W'.cell? ⟨b,p,none⟩=some v:=by
 obtain⟨o,ho,hc⟩:=cells_of_cell hv;exact (wh ((h.same b o ho hc hb).trans ho.symm)).trans hv
structure RCell where
 (b:Bool) (A:Option Addr) (n c:Nat) (D:Option Addr) (d e:Nat)
abbrev bc (c:RCell):Value:=.bool c.b
abbrev nc (c:RCell):Value:=.slice c.A c.n c.c
abbrev dc (c:RCell):Value:=.slice c.D c.d c.e
def oA (q:Nat→Nat→RCell) (j:Nat):Array Value:=#[bc (q j 0),nc (q j 0),dc (q j 0),bc (q j 1),nc (q j 1),dc (q j 1),bc (q j 2),nc (q j 2),dc (q j 2),bc (q j 3),nc (q j 3),dc (q j 3)]
abbrev phC (ps:Nat→Nat) (q:Nat→Nat→RCell) (k:Nat):Array Value:=#[.int .i64 (ps k),bc (q k 0),nc (q k 0),dc (q k 0),bc (q k 1),nc (q k 1),dc (q k 1),bc (q k 2),nc (q k 2),dc (q k 2),bc (q k 3),nc (q k 3),dc (q k 3)]
def aBk (q:Nat→Nat→RCell) (j:Nat):Value:=.agg (oA q j)
def fO {len:Nat}(ps:Nat→Nat):(k:Nat)→k≤len→List (Fin len)
 | 0,_=>[]
 | k+1,h=>fO ps k oq++List.replicate (ps k) ⟨k,h⟩
theorem sR {len:Nat}{ps:Nat→Nat}{k:Nat}(hk:k+1≤len):(fO ps (k+1) hk).length=(fO ps k (Nat.le_of_succ_le hk)).length+ps k:=by
 show (fO ps k _++List.replicate (ps k) _).length=_;rw [qf,ze]
theorem vW {len:Nat}{ps:Nat→Nat}{k:Nat}:∀ {k':Nat}(hk:k≤len) (hk':k'≤len),k≤k'→(fO ps k hk).length≤(fO ps k' hk').length
 | 0,hk,hk',h=>by obtain rfl:k=0:=oq
                  exact oy _
 | k'+1,hk,hk',h=>by
  by_cases e:k=k'+1
  ·subst e;exact oy _
  ·have:=vW (ps:=ps) (k':=k') hk oq oq;rw [sR];omega
theorem aJo (F:Fence) (n:Nat) (h7:F.fn 72) (hro:F.round=none) (hn:1≤n) (l Bs g b off len cap:Nat) (ps:Nat→Nat) (q:Nat→Nat→RCell) (hreach:len≤100000) (hbg:b≠g) (_hBg:Bs≠g) (J Jx:List (Fin len)→World→Prop) (N:Nat)
 (hN:(fO (len:=len) ps len (oy _)).length≤N) (hsteps:∀j,j<len→ps j≤1000000)
 (hY:∀pre (x:Fin len) W,J pre W→pre.length<N→YieldAt F (n-1) Tryz.prog l #[aBk q x.1] W fun e W'=>
   (e=.returned (.bool true)∧J (pre++[x]) W'∧KeepC g W W')∨(e=.returned (.bool false)∧Jx (pre++[x]) W'))
 (W:World) (hgW:g<W.heap.size) (hJ:AbidesFrom W.heap.size J) (hBs:W.cell? ⟨Bs,0,none⟩=some (.slice (some ⟨b,off,none⟩) len cap))
 (hc0:∀j,j<len→W.cell? ⟨b,off+j*13,none⟩=some (.int .i64 (ps j))) (hc:∀j i v,j<len→(oA q j)[i]?=some v→W.cell? ⟨b,off+j*13+(i+1),none⟩=some v) (h0:J [] W) :
 CallsIn F n Tryz.prog 72 #[.func (.yield l) #[] #[],.pointer (some ⟨Bs,0,none⟩)] W fun e W'=>(∃v,e=.returned v)∧
  ((∃ys,ys=fO ps len (oy _)∧J ys W')∨(∃pre,True∧Jx pre W')):=by
 refine callsIn_of_wp Tryz.func72 rfl h7 ?_ hro;simp only [Tryz.ntmps72,vg,vq,List.length_nil,Nat.reduceAdd,Nat.reduceSub,Array.replicate_succ,Array.replicate_zero,List.push_toArray,List.append_toArray,vk,ko]
 gi_wp2
 gi_loopw [7] (fun i wr=>∃(k:Nat) (hk:k≤len),i=.int .i64 k∧J (fO ps k hk) wr∧KeepC g W wr∧W.heap.size≤wr.heap.size)
  (fun i _=>len-(intOf i).toNat)
 case atStart=>exact⟨0,jt _,rfl,h0,KeepC.refl,oy _⟩
 case round=>
  obtain⟨k,hk,rfl,hJs,hnx,hsz⟩:=hrel;obtain⟨wo,rfl⟩:∃wo,wo=wr:=⟨_,rfl⟩
  by_cases hlt:k<len
  ·have hk0:wo.cell? ⟨b,off+k*13,none⟩=some (.int .i64 (ps k)):=hnx.cell (hc0 k hlt) hbg;have hk1:∀i v,(oA q k)[i]?=some v→wo.cell? ⟨b,off+k*13+(i+1),none⟩=some v:=fun i v hv=>hnx.cell (hc k i v hlt hv) hbg;have e0:wo.cell? ⟨b,off+k*13+1,none⟩=some (bc (q k 0)):=hk1 0 _ rfl;have e1:wo.cell? ⟨b,off+k*13+2,none⟩=some (nc (q k 0)):=hk1 1 _ rfl;have e2:wo.cell? ⟨b,off+k*13+3,none⟩=some (dc (q k 0)):=hk1 2 _ rfl;have e3:wo.cell? ⟨b,off+k*13+4,none⟩=some (bc (q k 1)):=hk1 3 _ rfl;have e4:wo.cell? ⟨b,off+k*13+5,none⟩=some (nc (q k 1)):=hk1 4 _ rfl;have e5:wo.cell? ⟨b,off+k*13+6,none⟩=some (dc (q k 1)):=hk1 5 _ rfl;have e6:wo.cell? ⟨b,off+k*13+7,none⟩=some (bc (q k 2)):=hk1 6 _ rfl;have e7:wo.cell? ⟨b,off+k*13+8,none⟩=some (nc (q k 2)):=hk1 7 _ rfl;have e8:wo.cell? ⟨b,off+k*13+9,none⟩=some (dc (q k 2)):=hk1 8 _ rfl;have e9:wo.cell? ⟨b,off+k*13+10,none⟩=some (bc (q k 3)):=hk1 9 _ rfl;have e10:wo.cell? ⟨b,off+k*13+11,none⟩=some (nc (q k 3)):=hk1 10 _ rfl;have e11:wo.cell? ⟨b,off+k*13+12,none⟩=some (dc (q k 3)):=hk1 11 _ rfl;have hbl:wo.grownBy (wo.alloc (.cells (phC ps q k) 47)) none:=World.grownBy_alloc wo _ none;have hJ1:=hJ _ _ _ none hJs hbl (fun r e=>by cases e);have hnew:(wo.alloc (.cells (phC ps q k) 47)).heap[wo.heap.size]?=_:=World.alloc_heap_new wo _;have hkp:KeepC g wo (wo.alloc (.cells (phC ps q k) 47)):=⟨hbl.size,fun p o hp _ _=>(hbl.block p (oi.1 hp).1 (by simp)).trans hp⟩;have hgne:wo.heap.size≠g:=oq
   have hps:=hsteps k hlt
   gi_wp2
   gi_loopw [13] (fun i w2=>∃(m:Nat),m≤ps k∧i=.int .i64 m∧J (fO ps k hk++List.replicate m (⟨k,hlt⟩:Fin len)) w2∧KeepC g W w2∧W.heap.size≤w2.heap.size∧∀(p:Nat) v,(phC ps q k)[p]?=some v→w2.cell? ⟨wo.heap.size,p,none⟩=some v)
    (fun i _=>ps k-(intOf i).toNat)
   case atStart=>
    refine⟨0,jt _,rfl,by rw [List.replicate_zero,oa];exact hJ1,hnx.trans hkp,qg hsz hbl.size,fun p v hv=>?_⟩;unfold World.cell?;rw [hnew];exact hv
   case round=>
    obtain⟨m,hm,rfl,hJ2,hn2,hs2,hcell⟩:=hrel
    by_cases hmlt:m<ps k
    ·obtain⟨fn,tmps,assign,body,hy,hR⟩:=hY _ (⟨k,hlt⟩:Fin len) wr hJ2 (by
      have h1:=vW (ps:=ps) (show k+1≤len from hlt) (oy len) hlt;rw [sR]at h1;rw [qf,ze]
      omega)
     have f0:wr.cell? ⟨wo.heap.size,1,none⟩=some (bc (q k 0)):=hcell 1 _ rfl;have f1:wr.cell? ⟨wo.heap.size,2,none⟩=some (nc (q k 0)):=hcell 2 _ rfl;have f2:wr.cell? ⟨wo.heap.size,3,none⟩=some (dc (q k 0)):=hcell 3 _ rfl;have f3:wr.cell? ⟨wo.heap.size,4,none⟩=some (bc (q k 1)):=hcell 4 _ rfl;have f4:wr.cell? ⟨wo.heap.size,5,none⟩=some (nc (q k 1)):=hcell 5 _ rfl;have f5:wr.cell? ⟨wo.heap.size,6,none⟩=some (dc (q k 1)):=hcell 6 _ rfl;have f6:wr.cell? ⟨wo.heap.size,7,none⟩=some (bc (q k 2)):=hcell 7 _ rfl;have f7:wr.cell? ⟨wo.heap.size,8,none⟩=some (nc (q k 2)):=hcell 8 _ rfl;have f8:wr.cell? ⟨wo.heap.size,9,none⟩=some (dc (q k 2)):=hcell 9 _ rfl;have f9:wr.cell? ⟨wo.heap.size,10,none⟩=some (bc (q k 3)):=hcell 10 _ rfl;have f10:wr.cell? ⟨wo.heap.size,11,none⟩=some (nc (q k 3)):=hcell 11 _ rfl;have f11:wr.cell? ⟨wo.heap.size,12,none⟩=some (dc (q k 3)):=hcell 12 _ rfl;dsimp only [aBk,oA]at hy
     gi_wp2
     refine hR.mono ?_;rintro e W3 (⟨rfl,hJ3,hk3⟩|⟨rfl,hJx3⟩)
     ·gi_wp2
      go_roundw
      case rel=>exact⟨m+1,oq,by simp,by rw [List.replicate_succ',←xc];exact hJ3,hn2.trans hk3,qg hs2 hk3.size,fun p v hv=>hk3.cell (hcell p v hv) hgne⟩
      case measure=>simp [intOf];omega
     ·gi_wp2
      refine bodyPost_ret (results_none rfl _ _ _) rfl ?_;exact⟨⟨_,rfl⟩,.inr ⟨_,trivial,hJx3⟩⟩
    ·obtain rfl:m=ps k:=oq
     gi_wp2
     go_roundw
     case rel=>exact⟨k+1,hlt,by simp,hJ2,hn2,hs2⟩
     case measure=>simp [intOf];omega
  ·obtain rfl:k=len:=oq
   gi_wp2
   go_end0
   exact⟨⟨_,rfl⟩,.inl ⟨_,rfl,hJs⟩⟩
theorem aEb (F:Fence) (n:Nat) (h7:F.fn 72) (hro:F.round=none) (l Bs:Nat) {β:Type}(J:List β→World→Prop) (W:World) {a:Option Addr}{cap:Nat}(hBs:W.cell? ⟨Bs,0,none⟩=some (.slice a 0 cap)) (h0:J [] W) :
 CallsIn F n Tryz.prog 72 #[.func (.yield l) #[] #[],.pointer (some ⟨Bs,0,none⟩)] W fun e W'=>(∃v,e=.returned v)∧J [] W':=by
 refine callsIn_of_wp Tryz.func72 rfl h7 ?_ hro;simp only [Tryz.ntmps72,vg,vq,List.length_nil,Nat.reduceAdd,Nat.reduceSub,Array.replicate_succ,Array.replicate_zero,List.push_toArray,List.append_toArray,vk,ko]
 gi_wp2
 gi_loopw [7] (fun i wr=>i=.int .i64 0∧J [] wr) (fun _ _=>0)
 case atStart=>exact⟨rfl,h0⟩
 case round=>
  obtain⟨rfl,hJs⟩:=hrel
  gi_wp2
  go_end0
  exact⟨⟨_,rfl⟩,hJs⟩
theorem aBh (w:World) (a:Option Addr) (len cap:Nat) :
 Calls Tryz.prog 39 #[.slice a len cap] w fun e w'=>e=.returned (.func (.func 72) #[] #[.pointer (some ⟨w.heap.size,0,none⟩)])∧w'=w.alloc (.cells #[.slice a len cap] 48):=by
 go_enter Tryz.func39,Tryz.ntmps39
 go_wp2
 go_ret
 exact⟨rfl,rfl⟩
def PhsAt (w:World) (a:Option Addr) (len:Nat) (ps:Nat→Nat) (q:Nat→Nat→RCell) (B:Nat):Prop:=0<len→∃b off,a=some ⟨b,off,none⟩∧b<B∧(∀j,j<len→w.cell? ⟨b,off+j*13,none⟩=some (.int .i64 (ps j)))∧∀j i v,j<len→(oA q j)[i]?=some v→w.cell? ⟨b,off+j*13+(i+1),none⟩=some v
theorem PhsAt.below {w W:World}{a:Option Addr}{len:Nat}{ps:Nat→Nat}{q:Nat→Nat→RCell}{B:Nat}(h:PhsAt w a len ps q B) (hb:Below B w W):PhsAt W a len ps q B:=fun h0=>by
 obtain⟨b,off,e,hl,h1,h2⟩:=h h0;exact⟨b,off,e,hl,fun j hj=>(hb.cell (p:=⟨b,off+j*13,none⟩) hl).trans (h1 j hj),fun j i v hj hv=>(hb.cell (p:=⟨b,off+j*13+(i+1),none⟩) hl).trans (h2 j i v hj hv)⟩
theorem yK (F:Fence) (n:Nat) (h7:F.fn 72) (hro:F.round=none) (hn:1≤n) {w:World}{a:Option Addr}{len cap Bs g B:Nat}{ps:Nat→Nat}{q:Nat→Nat→RCell}(hreach:len≤100000) (hsteps:∀j,j<len→ps j≤1000000)
 (hg:g<w.heap.size) (hBg:Bs≠g) (hB:Bs<w.heap.size) (hBs:w.cell? ⟨Bs,0,none⟩=some (.slice a len cap)) (hP:PhsAt w a len ps q B) (hlt:B≤g) :
 SeqStopsK F n Tryz.prog 72 #[.pointer (some ⟨Bs,0,none⟩)] (fun x:Fin len=>#[aBk q x.1]) (KeepC g) (fun ys=>ys=fO ps len (oy _)) (fun _=>True) (fO (len:=len) ps len (oy _)).length w:=fun l J Jx W hW hJ _ hY h0=>by
 have hc':=(hW.cell (p:=⟨Bs,0,none⟩) hB).trans hBs
 by_cases hl:len=0
 ·subst hl;exact (aEb F n h7 hro l Bs J W hc' h0).mono fun e W' ⟨he,hj⟩=>⟨he,.inl ⟨_,rfl,hj⟩⟩
 ·obtain⟨b,off,rfl,hb,h1,h2⟩:=hP.below (hW.mono oq) oq;refine (aJo F n h7 hro hn l Bs g b off len cap ps q hreach oq hBg J Jx _ (oy _) hsteps hY W (qk hg hW.size) hJ hc' h1 h2 h0).mono ?_;rintro e W' ⟨he,⟨ys,rfl,hj⟩|⟨pre,_,hj⟩⟩
  ·exact⟨he,.inl ⟨_,rfl,hj⟩⟩
  ·exact⟨he,.inr ⟨_,trivial,hj⟩⟩
end Go.Proofs.YtebaclefnpipfaaGreat

namespace Go.Proofs.YtebaclefnpipfaaGreat
open Go.RowKit Num W32
open Sy (Up Sees CallsG Seg dead)
open Classical in
noncomputable def MK (D:Nat→Prop) (W:World):World:={ W with heap:=W.heap.mapIdx fun i o=>if D i then dead else o }
theorem yC {D:Nat→Prop}{W:World}{g:Nat}:(MK D W).heap[g]?=(W.heap[g]?).map fun o=>@ite _ (D g) (Classical.propDecidable _) dead o:=by
 show (W.heap.mapIdx _)[g]?=_;rw [Array.getElem?_mapIdx]
theorem mk_size {D:Nat→Prop}{W:World}:(MK D W).heap.size=W.heap.size:=by simp [MK]
theorem gT {D:Nat→Prop}{W:World}{g:Nat}(h:¬ D g):(MK D W).heap[g]?=W.heap[g]?:=by
 rw [yC];cases W.heap[g]? with
 | none=>rfl
 | some o=>simp [h]
theorem lX {D:Nat→Prop}{W:World}{g:Nat}(h:D g) (hg:g<W.heap.size):(MK D W).heap[g]?=some dead:=by
 rw [yC,od hg];simp [h]
theorem aRr {D:Nat→Prop}{W:World}(h:∀g,D g→g<W.heap.size→∃cs t fr,W.heap[g]?=some (.cells cs t fr)∧∀u∈cs.toList,u.noWord=true):Sees (MK D W) W:=
 ⟨rfl,rfl,rfl,mk_size.symm,fun g o hg hne=>by
   by_cases c:D g
   ·rw [yC]at hg;cases hw:W.heap[g]? with
    | none=>rw [hw]at hg;cases hg
    | some o'=>rw [hw]at hg;simp [c]at hg;exact absurd hg.symm hne
   ·rwa [gT c]at hg,fun g hg=>by
   have hlt:g<W.heap.size:=by have:=Sy.heap_lt hg;rwa [mk_size]at this
   by_cases c:D g
   ·exact h g c hlt
   ·rw [gT c]at hg
    exact⟨#[],0,(1,0),hg,by simp⟩⟩
theorem aTk {D:Nat→Prop}{kc W:World}(h:Up kc W) (hD:∀g o,kc.heap[g]?=some o→o≠dead→¬ D g):Up kc (MK D W):=
 ⟨h.os,h.tape,h.output,by rw [mk_size];exact h.size,fun g o hg hne=>by rw [gT (hD g o hg hne)];exact h.live g o hg hne⟩
structure KK (k:World) (B g6 g10:Nat) (kk:World):Prop where
 bel:Below k.heap.size k kk
 d6:kk.heap[g6]?=some dead
 d10:kk.heap[g10]?=some dead
 cel:∀(g:Nat) (o:Obj),B≤g→kk.heap[g]?=some o→o.isCells=true
def NC (B:Nat) (k:World) (g:Nat):Prop:=B≤g∧∃o,k.heap[g]?=some o∧o.isCells=false
theorem uK {B:Nat}{k:World}{a:Addr}{v:Value}(h:k.cell? a=some v):(MK (NC B k) k).cell? a=some v:=by
 obtain⟨o,ho,hc⟩:=cells_of_cell h;rw [←h];refine wh (gT ?_);rintro⟨_,o',ho',hc'⟩;rw [ho]at ho';cases ho';rw [hc]at hc';cases hc'
section
variable {k k':World}{A B C:Option Addr}{n n' n'' K:Nat}{x:PState}{l:List Rat}
theorem aOo {cs:Array Value}{q:Rat}(h:RatV k cs q K) (hs:k'.heap.size=k.heap.size) (hc:∀a v,k.cell? a=some v→k'.cell? a=some v):RatV k' cs q K:=by
 obtain⟨g,A,n,c,D,d,e,e1,hr,h1,h2⟩:=h;exact⟨g,A,n,c,D,d,e,e1,hr.kept ⟨hs,fun a x hx=>hc a _ hx⟩,h1,h2⟩
theorem tC (h:Lst k A n 3 (NP K k) l) (hs:k'.heap.size=k.heap.size) (hc:∀a v,k.cell? a=some v→k'.cell? a=some v):Lst k' A n 3 (NP K k') l:=by
 obtain⟨e,xs,h1,h2,h3⟩:=h;refine⟨e,xs,fun p u hp=>?_,h2,h3.mono fun a v h=>aOo h hs hc⟩;obtain⟨b,o,e1,hb,hv⟩:=h1 p u hp;exact⟨b,o,e1,by rw [hs];exact hb,hc _ _ hv⟩
theorem uH (h:StateV (NP K) k A n B n' C n'' x) (hs:k'.heap.size=k.heap.size) (hc:∀a v,k.cell? a=some v→k'.cell? a=some v):StateV (NP K) k' A n B n' C n'' x:=⟨tC h.temp hs hc,tC h.cure hs hc,tC h.spoil hs hc⟩
end
theorem aMy {k k':World}{B g6 g10:Nat}(hb:Below k.heap.size k k') (hBk:k.heap.size≤B) (h6:k'.heap[g6]?=some dead) (h10:k'.heap[g10]?=some dead):KK k B g6 g10 (MK (NC B k') k'):=by
 have hd:∀g,k'.heap[g]?=some dead→¬ NC B k' g:=by
  rintro g hg ⟨_,o,ho,hc⟩;rw [hg]at ho;cases ho;cases hc
 refine⟨⟨hb.os,hb.tape,hb.output,by rw [mk_size];exact hb.size,fun g hg=>?_⟩,by rw [gT (hd _ h6)];exact h6,by rw [gT (hd _ h10)];exact h10,fun g o hg ho=>?_⟩
 ·rw [gT (by rintro⟨h,_⟩;omega)];exact hb.block g hg
 ·by_cases c:NC B k' g
  ·rw [lX c (by have:=Sy.heap_lt ho;rwa [mk_size]at this)]at ho;cases ho;rfl
  ·rw [gT c]at ho;cases hc:o.isCells with
   | true=>rfl
   | false=>exact absurd ⟨hg,o,ho,hc⟩ c
theorem aPg {k' w:World}{B:Nat}(h:Sees k' w):Up (MK (NC B k') k') w:=
 ⟨h.os,h.tape,h.output,by rw [mk_size,h.size];exact oy _,fun g o hg hne=>by
   by_cases c:NC B k' g
   ·rw [lX c (by have:=Sy.heap_lt hg;rwa [mk_size]at this)]at hg;cases hg;exact absurd rfl hne
   ·rw [gT c]at hg;exact h.live g o hg hne⟩
theorem aPt {kk k':World}{k:World}{B g6 g10:Nat}(hk:KK k B g6 g10 kk) (h:Up kk k'):Up kk (MK (NC B k') k'):=
 aTk h fun g o hg hne=>by
  rintro⟨hB,o',ho',hc⟩;have:=h.live g o hg hne;rw [this]at ho';cases ho';rw [hk.cel g _ hB hg]at hc;cases hc
theorem aUm {k kk W W':World}{B g6 g10:Nat}{row:Option Nat}(hk:KK k B g6 g10 kk) (h:Up kk W) (hg:W.grownBy W' row) (hr:∀r,row=some r→B≤r∧∃o:Obj,W.heap[r]?=some o∧o.isCells=false):Up kk W':=
 ⟨hg.os.trans h.os,hg.tape.trans h.tape,hg.output.trans h.output,qg h.size hg.size,fun g o ho hne=>by
   have hw:=h.live g o ho hne;refine (hg.block g (Sy.heap_lt hw) fun e=>?_).trans hw;obtain⟨hB,o',ho',hc⟩:=hr g e.symm;rw [hw]at ho';cases ho';rw [hk.cel g _ hB ho]at hc
   cases hc⟩
end Go.Proofs.YtebaclefnpipfaaGreat

namespace Go.Proofs.YtebaclefnpipfaaGreat
open Go.RowKit Go.Shelf Num
attribute [local go_sem] Oper.semAt_some
theorem cel {W:World}{g:Nat}{cs:Array Value}{t:TypeId}(h:W.heap[g]?=some (.cells cs t (0,0))) {p:Nat}{v:Value}(hp:cs[p]?=some v):W.cell? ⟨g,p,none⟩=some v:=by
 unfold World.cell?;rw [h];exact hp
theorem fro {W:World}{g:Nat}{cs:Array Value}{t:TypeId}(h:W.heap[g]?=some (.cells cs t (0,0))) (p:Nat):W.frozen? ⟨g,p,none⟩=false:=by
 unfold World.frozen?;rw [h];simp
theorem old {W:World}{o x:Obj}{g:Nat}(h:W.heap[g]?=some x):(W.alloc o).heap[g]?=some x:=(Below.heap_alloc W o g (oi.1 h).1).trans h
theorem sZ {B:Nat}{W W':World}{row:Option Nat}{g:Nat}{cs:Array Value}{t:TypeId}(hg:W.grownBy W' row) (hr:∀r,row=some r→B≤r∧∃o:Obj,W.heap[r]?=some o∧o.isCells=false) (h:W.heap[g]?=some (.cells cs t (0,0))):W'.heap[g]?=some (.cells cs t (0,0)):=by
 refine (hg.block g (oi.1 h).1 fun e=>?_).trans h;obtain⟨_,o,ho,hc⟩:=hr g e.symm;rw [h]at ho;cases ho;cases hc
structure SlC where
 (A:Option Addr) (n c:Nat)
abbrev sl (x:SlC):Value:=.slice x.A x.n x.c
structure BCell where
 (a0 a1 a2 a3 a4 a5:SlC)
def z6:Array Value:=#[.slice none 0 0,.slice none 0 0,.slice none 0 0,.slice none 0 0,.slice none 0 0,.slice none 0 0]
theorem stay {W W':World}{x:Obj}{g:Nat}(h:W.heap[g]?=some x) (b:Below W.heap.size W W'):W'.heap[g]?=some x:=(b.block g (oi.1 h).1).trans h
section
variable {W W':World}{g p B:Nat}{t:TypeId}{cs cs':Array Value}
theorem pE (h:p≠g):(Sy.World.putBlk W g t cs).heap[p]?=W.heap[p]?:=Sy.put_oth h
theorem tR:(Sy.World.putBlk W g t cs).heap.size=W.heap.size:=Sy.put_size
theorem aDz (h:g<W.heap.size):(Sy.World.putBlk W g t cs).heap[g]?=some (.cells cs t (0,0)):=by
 unfold Sy.World.putBlk;simp [h]
theorem pD {w:World}{n:Nat}(h:Below n w W) (hg:n≤g):Below n w (Sy.World.putBlk W g t cs):=
 ⟨h.os,h.tape,h.output,by rw [tR];exact h.size,fun p hp=>by rw [pE oq];exact h.block p hp⟩
theorem aCj (h:Below W.heap.size W W'):KeepsFrom B W W':=⟨h.size,fun _ _ _ hp _=>stay hp h⟩
theorem aCk (h:Below W.heap.size W W'):KeepC g W W':=⟨h.size,fun _ _ hp _ _=>stay hp h⟩
theorem aBg (h:W.heap[g]?=some (.cells cs t (0,0))):KeepsFrom B W (Sy.World.putBlk W g t cs'):=⟨by rw [tR];exact oy _,fun p o _ hp ho=>by
 rw [pE fun e=>by subst e;rw [h]at hp;cases hp;cases ho];exact hp⟩
theorem aOl (_h:W.heap[g]?=some (.cells cs t (0,0))):KeepC g W (Sy.World.putBlk W g t cs'):=⟨by rw [tR];exact oy _,fun p o hp _ hne=>by rw [pE hne];exact hp⟩
theorem set6 {a b c d e f a' b' c' d' e' f':Value}(h:W.heap[g]?=some (.cells #[a,b,c,d,e,f] t (0,0))) :
 (((((W.setCell ⟨g,0,none⟩ a').setCell ⟨g,1,none⟩ b').setCell ⟨g,2,none⟩ c').setCell ⟨g,3,none⟩ d').setCell ⟨g,4,none⟩ e').setCell ⟨g,5,none⟩ f'=Sy.World.putBlk W g t #[a',b',c',d',e',f']:=by
 have h0:Sy.Blk W g t #[a,b,c,d,e,f]:=h;rw [Sy.setCell_putBlk h0]
 iterate 5 rw [Sy.setCell_putBlk (h0.put _),Sy.putBlk_put]
 rfl
end
theorem aAk {w:World}{a0 a1 a2 a3 a4 a5 a6 a7 a8:SlC}{A9:Option Addr}{n9 d9:Nat}
 {M:Nat→World→Prop}{X:Nat→World→Nat→BCell→Prop}{ps:Nat→Nat}{q:Nat→Nat→RCell}{Inv:Nat→Nat→Nat→List (Fin n9)→World→BCell→Prop}
 (h1:∀W,Below w.heap.size w W→W.heap[w.heap.size+1+1]?=some (.cells z6 53 (0,0))→Calls Tryz.prog 37 #[.agg #[sl a0,sl a1,sl a2],.agg #[sl a3,sl a4,sl a5,sl a6,sl a7,sl a8],.slice A9 n9 d9] W fun e w'=>e=.returned (.int .i64 0)∧Below W.heap.size W w')
 (h2:∀W,Below w.heap.size w W→W.heap[w.heap.size+1+1]?=some (.cells z6 53 (0,0))→Calls Tryz.prog 33 #[.agg #[sl a0,sl a1,sl a2]] W fun e w'=>∃m,e=.returned (.agg #[sl a0,sl a1,sl a2,.map (some m)])∧Below W.heap.size W w'∧M m w')
 (h3:∀m W0 W,M m W0→Below W0.heap.size W0 W→Below w.heap.size w W→W.heap[w.heap.size+1+1]?=some (.cells z6 53 (0,0))→Calls Tryz.prog 38 #[.agg #[sl a3,sl a4,sl a5,sl a6,sl a7,sl a8]] W fun e w'=>∃b,e=.returned (.agg #[sl b.a0,sl b.a1,sl b.a2,sl b.a3,sl b.a4,sl b.a5])∧Below W.heap.size W w'∧X m w' W0.heap.size b)
 (h4:∀m w3 n b W,X m w3 n b→Below w3.heap.size w3 W→w3.heap.size<W.heap.size→Inv m w3.heap.size W.heap.size [] W b)
 (hO:∀m g10 base b,OwnFrom base fun pre W=>Inv m g10 base pre W b)
 (hS:∀m g10 base pre W b g cs,Inv m g10 base pre W b→g<W.heap.size→(g=g10∨g=w.heap.size+1+1)→Inv m g10 base pre (Sy.World.putBlk W g 53 cs) b)
 (hA:∀m g10 base pre (x:Fin n9) W b,pre.length<(fO (len:=n9) ps n9 (oy _)).length→Inv m g10 base pre W b→Below w.heap.size w W→W.heap[w.heap.size+1+1]?=some (.cells z6 53 (0,0))→W.heap[g10]?=some (.cells #[sl b.a0,sl b.a1,sl b.a2,sl b.a3,sl b.a4,sl b.a5] 53 (0,0))→
   Calls Tryz.prog 40 #[.agg #[sl a0,sl a1,sl a2,.map (some m)],.agg #[sl b.a0,sl b.a1,sl b.a2,sl b.a3,sl b.a4,sl b.a5],aBk q x.1] W fun e w'=>∃c,e=.returned (.agg #[sl c.a0,sl c.a1,sl c.a2,sl c.a3,sl c.a4,sl c.a5])∧Below W.heap.size W w'∧Inv m g10 base (pre++[x]) w' c)
 (hlen:n9≤100000) (hsteps:∀j,j<n9→ps j≤1000000) (hP:PhsAt w A9 n9 ps q w.heap.size) :
 Calls Tryz.prog 13 #[.agg #[sl a0,sl a1,sl a2],.agg #[sl a3,sl a4,sl a5,sl a6,sl a7,sl a8],.slice A9 n9 d9] w fun e w'=>∃m g10 base b,e=.returned (.tuple #[.agg #[sl b.a0,sl b.a1,sl b.a2,sl b.a3,sl b.a4,sl b.a5],.int .i64 0])∧Below w.heap.size w w'∧Inv m g10 base (fO ps n9 (oy _)) w' b:=by
 obtain⟨W1,hW1⟩:∃W1,W1=((w.alloc (.cells #[sl a0,sl a1,sl a2] 30)).alloc (.cells #[sl a3,sl a4,sl a5,sl a6,sl a7,sl a8] 53)).alloc (.cells #[.slice none 0 0,.slice none 0 0,.slice none 0 0,.slice none 0 0,.slice none 0 0,.slice none 0 0] 53):=⟨_,rfl⟩;have z1:W1.heap.size=w.heap.size+3:=by rw [hW1];simp
 have b3:W1.heap[w.heap.size]?=some (.cells #[sl a0,sl a1,sl a2] 30 (0,0)):=by rw [hW1];exact old (old (World.alloc_heap_new w _))
 have b4:W1.heap[w.heap.size+1]?=some (.cells #[sl a3,sl a4,sl a5,sl a6,sl a7,sl a8] 53 (0,0)):=by
  rw [hW1];have:=World.alloc_heap_new (w.alloc (.cells #[sl a0,sl a1,sl a2] 30)) (.cells #[sl a3,sl a4,sl a5,sl a6,sl a7,sl a8] 53);rw [js]at this;exact old this
 have b6:W1.heap[w.heap.size+1+1]?=some (.cells z6 53 (0,0)):=by
  rw [hW1];have:=World.alloc_heap_new ((w.alloc (.cells #[sl a0,sl a1,sl a2] 30)).alloc (.cells #[sl a3,sl a4,sl a5,sl a6,sl a7,sl a8] 53)) (.cells z6 53);rw [js,js]at this;exact this
 have hB1:Below w.heap.size w W1:=by rw [hW1];exact (((Below.refl _ w).alloc (oy _) _).alloc (by simp) _).alloc (by simp;omega) _
 have H1:=ou h1;have H2:=ou h2;have H3:=ou h3;have Q1:=ou hW1;have Q3:=ou b3;have Q4:=ou b4;have Q6:=ou b6;have QB:=ou hB1;have QZ:=ou z1;replace h4:=ou h4;replace hO:=ou hO;replace hS:=ou hS;replace hA:=ou hA;clear h1 h2 h3 hW1 b3 b4 b6 hB1 z1;refine (callsIn_wide (n:=8)).1 ?_;refine callsIn_of_wp_marks Tryz.func13 rfl trivial ?_ rfl;simp only [Tryz.ntmps13,vg,vq,List.length_nil,Nat.reduceAdd,Nat.reduceSub,Array.replicate_succ,Array.replicate_zero,List.push_toArray,List.append_toArray,vk,ko]
 gi_wp2_with first
  | (refine⟨trivial,?_⟩;gi_at_call 37;rw [←Q1.out];refine (callsIn_wide.2 (H1.out _ QB.out Q6.out)).mono ?_;rintro e w1 ⟨rfl,hb1⟩;have C3:=ou (stay Q3.out hb1);have C4:=ou (stay Q4.out hb1);have C6:=ou (stay Q6.out hb1);have CB:=ou (QB.out.trans (hb1.mono QB.out.size));replace hb1:=ou hb1;clear Q3 Q4 Q6 QB Q1 H1;have c30:(w1).cell? ⟨w.heap.size,0,none⟩=some (sl a0):=cel C3.out rfl;have c31:(w1).cell? ⟨w.heap.size,1,none⟩=some (sl a1):=cel C3.out rfl;have c32:(w1).cell? ⟨w.heap.size,2,none⟩=some (sl a2):=cel C3.out rfl)
  | (refine⟨trivial,?_⟩;gi_at_call 33;refine (callsIn_wide.2 (H2.out _ CB.out C6.out)).mono ?_;rintro e w2 ⟨m,rfl,hb2,hm⟩;have D4:=ou (old (o:=.cells #[sl a0,sl a1,sl a2,.map (some m)] 99) (stay C4.out hb2));have D6:=ou (old (o:=.cells #[sl a0,sl a1,sl a2,.map (some m)] 99) (stay C6.out hb2));have D9:=ou (World.alloc_heap_new w2 (.cells #[sl a0,sl a1,sl a2,.map (some m)] 99));have DM:=ou hm;have EZ0:w.heap.size+1+1<w2.heap.size:=qk (oi.1 C6.out).1 hb2.size;have DB:=ou ((CB.out.trans (hb2.mono CB.out.size)).alloc (CB.out.trans (hb2.mono CB.out.size)).size (.cells #[sl a0,sl a1,sl a2,.map (some m)] 99));have DZ:=ou (Below.refl w2.heap.size w2 |>.alloc (oy _) (.cells #[sl a0,sl a1,sl a2,.map (some m)] 99));clear hm hb2 C3 C4 C6 CB H2;have c40:(w2.alloc (.cells #[sl a0,sl a1,sl a2,.map (some m)] 99)).cell? ⟨w.heap.size+1,0,none⟩=some (sl a3):=cel D4.out rfl;have c41:(w2.alloc (.cells #[sl a0,sl a1,sl a2,.map (some m)] 99)).cell? ⟨w.heap.size+1,1,none⟩=some (sl a4):=cel D4.out rfl;have c42:(w2.alloc (.cells #[sl a0,sl a1,sl a2,.map (some m)] 99)).cell? ⟨w.heap.size+1,2,none⟩=some (sl a5):=cel D4.out rfl;have c43:(w2.alloc (.cells #[sl a0,sl a1,sl a2,.map (some m)] 99)).cell? ⟨w.heap.size+1,3,none⟩=some (sl a6):=cel D4.out rfl;have c44:(w2.alloc (.cells #[sl a0,sl a1,sl a2,.map (some m)] 99)).cell? ⟨w.heap.size+1,4,none⟩=some (sl a7):=cel D4.out rfl;have c45:(w2.alloc (.cells #[sl a0,sl a1,sl a2,.map (some m)] 99)).cell? ⟨w.heap.size+1,5,none⟩=some (sl a8):=cel D4.out rfl)
  | (refine⟨trivial,?_⟩;gi_at_call 38;refine (callsIn_wide.2 (H3.out m w2 _ DM.out DZ.out DB.out D6.out)).mono ?_;rintro e w3 ⟨b,rfl,hb3,hx⟩;have E6:=ou (old (o:=.cells #[sl b.a0,sl b.a1,sl b.a2,sl b.a3,sl b.a4,sl b.a5] 53) (stay D6.out hb3));have E9:=ou (old (o:=.cells #[sl b.a0,sl b.a1,sl b.a2,sl b.a3,sl b.a4,sl b.a5] 53) (stay D9.out hb3));have E10:=ou (World.alloc_heap_new w3 (.cells #[sl b.a0,sl b.a1,sl b.a2,sl b.a3,sl b.a4,sl b.a5] 53));have EX:=ou hx;have EZ1:w2.heap.size<w3.heap.size:=(by have:=hb3.size;rw [js]at this;exact this);have EB:=ou ((DB.out.trans (hb3.mono DB.out.size)).alloc (DB.out.trans (hb3.mono DB.out.size)).size (.cells #[sl b.a0,sl b.a1,sl b.a2,sl b.a3,sl b.a4,sl b.a5] 53));clear hx hb3 D4 D6 D9 H3)
  | (refine⟨trivial,?_⟩;gi_at_call 39;refine (callsIn_wide.2 (aBh _ _ _ _)).mono ?_;rintro e w4 ⟨rfl,rfl⟩)
 have z5:((w3.alloc (.cells #[sl b.a0,sl b.a1,sl b.a2,sl b.a3,sl b.a4,sl b.a5] 53)).alloc (.cells #[.slice A9 n9 d9] 48)).heap.size=w3.heap.size+2:=by simp
 have hz3:w.heap.size≤w3.heap.size:=oq
 obtain⟨W5,hW5⟩:∃W5,(w3.alloc (.cells #[sl b.a0,sl b.a1,sl b.a2,sl b.a3,sl b.a4,sl b.a5] 53)).alloc (.cells #[.slice A9 n9 d9] 48)=W5:=⟨_,rfl⟩;have l6:W5.heap[w.heap.size+1+1]?=some (.cells z6 53 (0,0)):=by rw [←hW5];exact old E6.out
 have l9:W5.heap[w2.heap.size]?=some (.cells #[sl a0,sl a1,sl a2,.map (some m)] 99):=by rw [←hW5];exact old E9.out
 have l10:W5.heap[w3.heap.size]?=some (.cells #[sl b.a0,sl b.a1,sl b.a2,sl b.a3,sl b.a4,sl b.a5] 53):=by rw [←hW5];exact old E10.out
 have l11:W5.cell? ⟨w3.heap.size+1,0,none⟩=some (.slice A9 n9 d9):=by
  have:=World.alloc_heap_new (w3.alloc (.cells #[sl b.a0,sl b.a1,sl b.a2,sl b.a3,sl b.a4,sl b.a5] 53)) (.cells #[.slice A9 n9 d9] 48);rw [js,hW5]at this;exact cel this rfl
 have hB5:Below w.heap.size w W5:=by rw [←hW5];exact EB.out.alloc EB.out.size _
 have hI5:Inv m w3.heap.size W5.heap.size [] W5 b:=h4.out m w3 _ b W5 EX.out (by rw [←hW5];exact ((Below.refl _ w3).alloc (oy _) _).alloc (by simp) _) (by rw [←hW5,z5];omega);rw [hW5]at z5 ⊢;clear hW5 E6 E9 E10 EX EB;refine wpIn_rangeFunc_ownH rfl oq (gf:=72) (lb:=#[.pointer (some ⟨w3.heap.size+1,0,none⟩)]) rfl trivial (enters_of Tryz.func72 ox rfl)
  (yK Fence.wide 7 trivial rfl oq (w:=W5) (g:=w3.heap.size) hlen hsteps oq oq oq l11 (hP.below hB5) hz3) KeepC.trans (fun W l o o' _ hl ho _=>KeepC.put hl ho) (Below.refl _ _) (fun _=>rfl)
  (fun pre W=>∃b,W.heap[w.heap.size+1+1]?=some (.cells z6 53 (0,0))∧W.heap[w2.heap.size]?=some (.cells #[sl a0,sl a1,sl a2,.map (some m)] 99)∧W.heap[w3.heap.size]?=some (.cells #[sl b.a0,sl b.a1,sl b.a2,sl b.a3,sl b.a4,sl b.a5] 53)∧Below w.heap.size w W∧Inv m w3.heap.size W5.heap.size pre W b∧W5.heap.size≤W.heap.size)
  (fun _ _ _=>False)
  (fun pre W W' row hs hg hr=>by obtain⟨b,i1,i2,i3,i4,i5,i6⟩:=hs;exact⟨b,sZ hg hr i1,sZ hg hr i2,sZ hg hr i3,ownFrom_below (oy _) (qg hB5.size (oy _)) () W W' row i4 hg hr,hO.out m _ _ b pre W W' row i5 hg hr,qg i6 hg.size⟩)
  (fun _ _ _ _ _ hs _ _=>hs)
  ⟨b,l6,l9,l10,hB5,hI5,oy _⟩
  (fun x a' W=>∃Bx,W5.heap.size≤Bx∧W.heap[Bx]?=some (.cells (oA q x.1) 43 (0,0))∧a'={ tmps:=#[.agg #[sl a0,sl a1,sl a2],.agg #[sl a3,sl a4,sl a5,sl a6,sl a7,sl a8],.slice A9 n9 d9,.pointer (some ⟨w.heap.size,0,none⟩),.pointer (some ⟨w.heap.size+1,0,none⟩),undef,.pointer (some ⟨w.heap.size+1+1,0,none⟩),.int .i64 0,.int .i64 0,.pointer (some ⟨w2.heap.size,0,none⟩),.pointer (some ⟨w3.heap.size,0,none⟩),.pointer (some ⟨Bx,0,none⟩),.agg #[sl a0,sl a1,sl a2],.agg #[sl a3,sl a4,sl a5,sl a6,sl a7,sl a8],.slice A9 n9 d9,.int .i64 0,.int .i64 0,.bool false,undef,undef,.agg #[sl a0,sl a1,sl a2],.agg #[sl a0,sl a1,sl a2,.map (some m)],.agg #[sl a3,sl a4,sl a5,sl a6,sl a7,sl a8],.agg #[sl b.a0,sl b.a1,sl b.a2,sl b.a3,sl b.a4,sl b.a5],.slice A9 n9 d9,.func (.func 72) #[] #[.pointer (some ⟨w3.heap.size+1,0,none⟩)],aBk q x.1,undef,undef,undef,undef,undef],defers:=[] })
  (fun x a' _ W W' row hs hg hr=>by obtain⟨Bx,i1,i2,i3⟩:=hs;exact⟨Bx,i1,sZ hg hr i2,i3⟩)
  ?assign ?body ?done ?stop
 case assign=>
  rintro l pre x W K ⟨b',i1,i2,i3,i4,i5,i6⟩ hK;have y6:=old (o:=.cells (oA q x.1) 43) i1;have y9:=old (o:=.cells (oA q x.1) 43) i2;have y10:=old (o:=.cells (oA q x.1) 43) i3;have nB:=i4.alloc i4.size (.cells (oA q x.1) 43);have nI:=(hO.out m _ _ b').alloc (.cells (oA q x.1) 43) i5;have nN:=World.alloc_heap_new W (.cells (oA q x.1) 43);have nK:=hK { tmps:=#[.agg #[sl a0,sl a1,sl a2],.agg #[sl a3,sl a4,sl a5,sl a6,sl a7,sl a8],.slice A9 n9 d9,.pointer (some ⟨w.heap.size,0,none⟩),.pointer (some ⟨w.heap.size+1,0,none⟩),undef,.pointer (some ⟨w.heap.size+1+1,0,none⟩),.int .i64 0,.int .i64 0,.pointer (some ⟨w2.heap.size,0,none⟩),.pointer (some ⟨w3.heap.size,0,none⟩),.pointer (some ⟨W.heap.size,0,none⟩),.agg #[sl a0,sl a1,sl a2],.agg #[sl a3,sl a4,sl a5,sl a6,sl a7,sl a8],.slice A9 n9 d9,.int .i64 0,.int .i64 0,.bool false,undef,undef,.agg #[sl a0,sl a1,sl a2],.agg #[sl a0,sl a1,sl a2,.map (some m)],.agg #[sl a3,sl a4,sl a5,sl a6,sl a7,sl a8],.agg #[sl b.a0,sl b.a1,sl b.a2,sl b.a3,sl b.a4,sl b.a5],.slice A9 n9 d9,.func (.func 72) #[] #[.pointer (some ⟨w3.heap.size+1,0,none⟩)],aBk q x.1,undef,undef,undef,undef,undef],defers:=[] } _ ((KeepsOthers.alloc W (.cells (oA q x.1) 43)).from _) ⟨by simp,fun p o hp _ _=>old hp⟩ ⟨b',y6,y9,y10,nB,nI,by simp;omega⟩ ⟨W.heap.size,i6,nN,rfl⟩;clear hK y6 y9 y10 nB nI nN i1 i2 i3 i4 i5 i6;replace nK:=ou nK;dsimp only [aBk,oA]
  gi_wp2
  exact nK.out
 case body=>
  rintro l pre x a' W hl ⟨r,hr⟩ ⟨b',i1,i2,i3,i4,i5,i6⟩ ⟨Bx,j1,j2,rfl⟩ hlen';have a0:W.cell? ⟨w2.heap.size,0,none⟩=some (sl a0):=cel i2 rfl;have a1:W.cell? ⟨w2.heap.size,1,none⟩=some (sl a1):=cel i2 rfl;have a2:W.cell? ⟨w2.heap.size,2,none⟩=some (sl a2):=cel i2 rfl;have a3:W.cell? ⟨w2.heap.size,3,none⟩=some (.map (some m)):=cel i2 rfl;have b0':W.cell? ⟨w3.heap.size,0,none⟩=some (sl b'.a0):=cel i3 rfl;have b1':W.cell? ⟨w3.heap.size,1,none⟩=some (sl b'.a1):=cel i3 rfl;have b2':W.cell? ⟨w3.heap.size,2,none⟩=some (sl b'.a2):=cel i3 rfl;have b3':W.cell? ⟨w3.heap.size,3,none⟩=some (sl b'.a3):=cel i3 rfl;have b4':W.cell? ⟨w3.heap.size,4,none⟩=some (sl b'.a4):=cel i3 rfl;have b5':W.cell? ⟨w3.heap.size,5,none⟩=some (sl b'.a5):=cel i3 rfl;have r0:W.cell? ⟨Bx,0,none⟩=some (bc (q x.1 0)):=cel j2 rfl;have r1:W.cell? ⟨Bx,1,none⟩=some (nc (q x.1 0)):=cel j2 rfl;have r2:W.cell? ⟨Bx,2,none⟩=some (dc (q x.1 0)):=cel j2 rfl;have r3:W.cell? ⟨Bx,3,none⟩=some (bc (q x.1 1)):=cel j2 rfl;have r4:W.cell? ⟨Bx,4,none⟩=some (nc (q x.1 1)):=cel j2 rfl;have r5:W.cell? ⟨Bx,5,none⟩=some (dc (q x.1 1)):=cel j2 rfl;have r6:W.cell? ⟨Bx,6,none⟩=some (bc (q x.1 2)):=cel j2 rfl;have r7:W.cell? ⟨Bx,7,none⟩=some (nc (q x.1 2)):=cel j2 rfl;have r8:W.cell? ⟨Bx,8,none⟩=some (dc (q x.1 2)):=cel j2 rfl;have r9:W.cell? ⟨Bx,9,none⟩=some (bc (q x.1 3)):=cel j2 rfl;have r10:W.cell? ⟨Bx,10,none⟩=some (nc (q x.1 3)):=cel j2 rfl;have r11:W.cell? ⟨Bx,11,none⟩=some (dc (q x.1 3)):=cel j2 rfl;have lt10:=(oi.1 i3).1;have lt6:=(oi.1 i1).1;have lt9:=(oi.1 i2).1;have HA:=ou (hA.out m _ _ pre x W b' hlen' i5 i4 i1 i3);replace i1:=ou i1;replace i2:=ou i2;replace i3:=ou i3;replace i4:=ou i4;replace i5:=ou i5;clear j2
  gi_wp2_with (refine⟨trivial,?_⟩;gi_at_call 40;refine (CallsIn.inRound l (callsIn_wide.2 HA.out)).mono ?_;rintro e w6 ⟨c,rfl,hb6,hi6⟩;have k6:=stay i1.out hb6;have k9:=stay i2.out hb6;have k10:=stay i3.out hb6;have kB:=i4.out.trans (hb6.mono i4.out.size);clear i1 i2 i3 i4 i5;  have f0:w6.frozen? ⟨w3.heap.size,0,none⟩=false:=fro k10 0;have o0:w6.cell? ⟨w3.heap.size,0,none⟩=some (sl b'.a0):=cel k10 rfl;have f1:w6.frozen? ⟨w3.heap.size,1,none⟩=false:=fro k10 1;have o1:w6.cell? ⟨w3.heap.size,1,none⟩=some (sl b'.a1):=cel k10 rfl;have f2:w6.frozen? ⟨w3.heap.size,2,none⟩=false:=fro k10 2;have o2:w6.cell? ⟨w3.heap.size,2,none⟩=some (sl b'.a2):=cel k10 rfl;have f3:w6.frozen? ⟨w3.heap.size,3,none⟩=false:=fro k10 3;have o3:w6.cell? ⟨w3.heap.size,3,none⟩=some (sl b'.a3):=cel k10 rfl;have f4:w6.frozen? ⟨w3.heap.size,4,none⟩=false:=fro k10 4;have o4:w6.cell? ⟨w3.heap.size,4,none⟩=some (sl b'.a4):=cel k10 rfl;have f5:w6.frozen? ⟨w3.heap.size,5,none⟩=false:=fro k10 5;have o5:w6.cell? ⟨w3.heap.size,5,none⟩=some (sl b'.a5):=cel k10 rfl;replace k6:=ou k6;replace k9:=ou k9;replace k10:=ou k10;replace kB:=ou kB;replace hi6:=ou hi6;replace hb6:=ou hb6;clear HA)
  have h10:w3.heap.size<w6.heap.size:=(oi.1 k10.out).1;rw [set6 k10.out];exact⟨(aCj hb6.out).trans (aBg k10.out),(aCk hb6.out).trans (aOl k10.out),c,by rw [pE oq];exact k6.out,by rw [pE oq];exact k9.out,aDz h10,pD kB.out hz3,hS.out _ _ _ _ _ _ _ _ hi6.out h10 (.inl rfl),by rw [tR];exact qg i6 hb6.out.size⟩
 case done=>
  rintro D zs W hD rfl ⟨b',i1,i2,i3,i4,i5,i6⟩ hK;have b0':W.cell? ⟨w3.heap.size,0,none⟩=some (sl b'.a0):=cel i3 rfl;have b1':W.cell? ⟨w3.heap.size,1,none⟩=some (sl b'.a1):=cel i3 rfl;have b2':W.cell? ⟨w3.heap.size,2,none⟩=some (sl b'.a2):=cel i3 rfl;have b3':W.cell? ⟨w3.heap.size,3,none⟩=some (sl b'.a3):=cel i3 rfl;have b4':W.cell? ⟨w3.heap.size,4,none⟩=some (sl b'.a4):=cel i3 rfl;have b5':W.cell? ⟨w3.heap.size,5,none⟩=some (sl b'.a5):=cel i3 rfl;have f0:W.frozen? ⟨w.heap.size+1+1,0,none⟩=false:=fro i1 0;have o0:W.cell? ⟨w.heap.size+1+1,0,none⟩=some (.slice none 0 0):=cel i1 rfl;have f1:W.frozen? ⟨w.heap.size+1+1,1,none⟩=false:=fro i1 1;have o1:W.cell? ⟨w.heap.size+1+1,1,none⟩=some (.slice none 0 0):=cel i1 rfl;have f2:W.frozen? ⟨w.heap.size+1+1,2,none⟩=false:=fro i1 2;have o2:W.cell? ⟨w.heap.size+1+1,2,none⟩=some (.slice none 0 0):=cel i1 rfl;have f3:W.frozen? ⟨w.heap.size+1+1,3,none⟩=false:=fro i1 3;have o3:W.cell? ⟨w.heap.size+1+1,3,none⟩=some (.slice none 0 0):=cel i1 rfl;have f4:W.frozen? ⟨w.heap.size+1+1,4,none⟩=false:=fro i1 4;have o4:W.cell? ⟨w.heap.size+1+1,4,none⟩=some (.slice none 0 0):=cel i1 rfl;have f5:W.frozen? ⟨w.heap.size+1+1,5,none⟩=false:=fro i1 5;have o5:W.cell? ⟨w.heap.size+1+1,5,none⟩=some (.slice none 0 0):=cel i1 rfl;have lt6:=(oi.1 i1).1;have HI:=ou (show _∧_ from⟨hS.out _ _ _ _ _ _ (w.heap.size+1+1) #[sl b'.a0,sl b'.a1,sl b'.a2,sl b'.a3,sl b'.a4,sl b'.a5] i5 lt6 (.inr rfl),pD (cs:=#[sl b'.a0,sl b'.a1,sl b'.a2,sl b'.a3,sl b'.a4,sl b'.a5]) (t:=53) i4 (g:=w.heap.size+1+1) oq⟩);replace i1:=ou i1;replace i2:=ou i2;replace i3:=ou i3;replace i4:=ou i4;replace i5:=ou i5;replace hK:=ou hK
  gi_wp2
  rw [set6 i1.out];have hK':=(aBg (B:=D) (cs':=#[sl b'.a0,sl b'.a1,sl b'.a2,sl b'.a3,sl b'.a4,sl b'.a5]) i1.out).same D _ (oy _) hK.out rfl;have i6':=aDz (t:=53) (cs:=#[sl b'.a0,sl b'.a1,sl b'.a2,sl b'.a3,sl b'.a4,sl b'.a5]) lt6;have gb:=grownBy_putObj' (Sy.World.putBlk W (w.heap.size+1+1) 53 #[sl b'.a0,sl b'.a1,sl b'.a2,sl b'.a3,sl b'.a4,sl b'.a5]) D (.deferred none);have hr:∀r,some D=some r→W5.heap.size≤r∧∃o:Obj,(Sy.World.putBlk W (w.heap.size+1+1) 53 #[sl b'.a0,sl b'.a1,sl b'.a2,sl b'.a3,sl b'.a4,sl b'.a5]).heap[r]?=some o∧o.isCells=false:=fun r e=>by cases e;exact⟨hD,_,hK',rfl⟩
  have i7:=sZ gb hr i6';have b7:=ownFrom_below (oy _) hB5.size () _ _ (some D) HI.out.2 gb hr;have I7:=hO.out _ _ _ _ _ _ _ _ HI.out.1 gb hr;clear HI gb hr i1 i2 i3 i4 i5;refine⟨by simp,.inl ⟨_,_,rfl,run_takeDeferred hK',?_⟩⟩;have hv:=run_loadVar_row (P:=Tryz.prog) _ (w.heap.size+1+1) _ 53 _ _ _ i7 Tryz.underlying53 rfl ox;refine⟨.tuple #[.agg #[sl b'.a0,sl b'.a1,sl b'.a2,sl b'.a3,sl b'.a4,sl b'.a5],.int .i64 0],?_,m,w3.heap.size,W5.heap.size,b',rfl,b7,I7⟩;rw [results_cell_tmp (p:=6) (u:=7) (ty:=53) rfl];simp [asAddr,Result.andThen,hv] <;> rfl
 case stop=>
  rintro D c pre W _ _ h _;exact h.elim
theorem aDi {w:World}{a0 a1 a2 a3 a4 a5 a6 a7 a8:SlC}{A9:Option Addr}{n9 d9:Nat}{E:Int}
 (h1:∀W,Below w.heap.size w W→W.heap[w.heap.size+1+1]?=some (.cells z6 53 (0,0))→Calls Tryz.prog 37 #[.agg #[sl a0,sl a1,sl a2],.agg #[sl a3,sl a4,sl a5,sl a6,sl a7,sl a8],.slice A9 n9 d9] W fun e w'=>e=.returned (.int .i64 E)∧Below W.heap.size W w') (hE:E≠0) :
 Calls Tryz.prog 13 #[.agg #[sl a0,sl a1,sl a2],.agg #[sl a3,sl a4,sl a5,sl a6,sl a7,sl a8],.slice A9 n9 d9] w fun e w'=>e=.returned (.tuple #[.agg z6,.int .i64 E])∧Below w.heap.size w w':=by
 obtain⟨W1,hW1⟩:∃W1,W1=((w.alloc (.cells #[sl a0,sl a1,sl a2] 30)).alloc (.cells #[sl a3,sl a4,sl a5,sl a6,sl a7,sl a8] 53)).alloc (.cells #[.slice none 0 0,.slice none 0 0,.slice none 0 0,.slice none 0 0,.slice none 0 0,.slice none 0 0] 53):=⟨_,rfl⟩;have z1:W1.heap.size=w.heap.size+3:=by rw [hW1];simp
 have b3:W1.heap[w.heap.size]?=some (.cells #[sl a0,sl a1,sl a2] 30 (0,0)):=by rw [hW1];exact old (old (World.alloc_heap_new w _))
 have b4:W1.heap[w.heap.size+1]?=some (.cells #[sl a3,sl a4,sl a5,sl a6,sl a7,sl a8] 53 (0,0)):=by
  rw [hW1];have:=World.alloc_heap_new (w.alloc (.cells #[sl a0,sl a1,sl a2] 30)) (.cells #[sl a3,sl a4,sl a5,sl a6,sl a7,sl a8] 53);rw [js]at this;exact old this
 have b6:W1.heap[w.heap.size+1+1]?=some (.cells z6 53 (0,0)):=by
  rw [hW1];have:=World.alloc_heap_new ((w.alloc (.cells #[sl a0,sl a1,sl a2] 30)).alloc (.cells #[sl a3,sl a4,sl a5,sl a6,sl a7,sl a8] 53)) (.cells z6 53);rw [js,js]at this;exact this
 have hB1:Below w.heap.size w W1:=by rw [hW1];exact (((Below.refl _ w).alloc (oy _) _).alloc (by simp) _).alloc (by simp;omega) _
 have H1:=ou h1;have Q1:=ou hW1;have Q3:=ou b3;have Q4:=ou b4;have Q6:=ou b6;have QB:=ou hB1;have QZ:=ou z1;clear h1 hW1 b3 b4 b6 hB1 z1;refine (callsIn_wide (n:=8)).1 ?_;refine callsIn_of_wp_marks Tryz.func13 rfl trivial ?_ rfl;simp only [Tryz.ntmps13,vg,vq,List.length_nil,Nat.reduceAdd,Nat.reduceSub,Array.replicate_succ,Array.replicate_zero,List.push_toArray,List.append_toArray,vk,ko]
 gi_wp2_with (refine⟨trivial,?_⟩;gi_at_call 37;rw [←Q1.out];refine (callsIn_wide.2 (H1.out _ QB.out Q6.out)).mono ?_;rintro e w1 ⟨rfl,hb1⟩;have k6:=stay Q6.out hb1;have kB:=QB.out.trans (hb1.mono QB.out.size);have f0:w1.frozen? ⟨w.heap.size+1+1,0,none⟩=false:=fro k6 0;have o0:w1.cell? ⟨w.heap.size+1+1,0,none⟩=some (.slice none 0 0):=cel k6 rfl;have f1:w1.frozen? ⟨w.heap.size+1+1,1,none⟩=false:=fro k6 1;have o1:w1.cell? ⟨w.heap.size+1+1,1,none⟩=some (.slice none 0 0):=cel k6 rfl;have f2:w1.frozen? ⟨w.heap.size+1+1,2,none⟩=false:=fro k6 2;have o2:w1.cell? ⟨w.heap.size+1+1,2,none⟩=some (.slice none 0 0):=cel k6 rfl;have f3:w1.frozen? ⟨w.heap.size+1+1,3,none⟩=false:=fro k6 3;have o3:w1.cell? ⟨w.heap.size+1+1,3,none⟩=some (.slice none 0 0):=cel k6 rfl;have f4:w1.frozen? ⟨w.heap.size+1+1,4,none⟩=false:=fro k6 4;have o4:w1.cell? ⟨w.heap.size+1+1,4,none⟩=some (.slice none 0 0):=cel k6 rfl;have f5:w1.frozen? ⟨w.heap.size+1+1,5,none⟩=false:=fro k6 5;have o5:w1.cell? ⟨w.heap.size+1+1,5,none⟩=some (.slice none 0 0):=cel k6 rfl;replace k6:=ou k6;replace kB:=ou kB;clear Q3 Q4 Q6 QB Q1 H1 hb1)
 rw [set6 k6.out];have i7:=aDz (t:=53) (cs:=#[.slice none 0 0,.slice none 0 0,.slice none 0 0,.slice none 0 0,.slice none 0 0,.slice none 0 0]) (oi.1 k6.out).1;have hv:=run_loadVar_row (P:=Tryz.prog) _ (w.heap.size+1+1) _ 53 _ _ _ i7 Tryz.underlying53 rfl ox;refine⟨.tuple #[.agg z6,.int .i64 E],?_,rfl,pD kB.out oq⟩;rw [results_cell_tmp (p:=6) (u:=7) (ty:=53) rfl];simp [asAddr,Result.andThen,hv] <;> rfl
