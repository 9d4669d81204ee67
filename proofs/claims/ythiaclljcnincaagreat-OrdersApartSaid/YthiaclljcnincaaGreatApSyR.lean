/- A symbolic executor of the model's code: rows of the call's own. -/
import Derived.Test.YthiaclljcnincaaGreatApSy7
import Derived.Laws.AppendOwn
import Derived.Laws.MakeOwn
import Derived.Laws.OwnMore
namespace Go.Proofs.YthiaclljcnincaaGreat.Sy
open Go.RowKit
theorem pW {k w:World}(h:Sees k w) {vs:List Value}(hw:∀u∈vs,u.noWord=true) (ty:TypeId) :
 ∃k',Sees k' { w with heap:=w.heap.push (.cells vs.toArray ty) }∧Up k k'∧Below k.heap.size k k'∧Below w.heap.size w { w with heap:=w.heap.push (.cells vs.toArray ty) }∧k'.heap[w.heap.size]?=some dead:=by
 have hsz:=h.size;have hpush:∀(g:Nat),g<w.heap.size→(w.heap.push (.cells vs.toArray ty))[g]?=w.heap[g]?:=fun g hg=>by
  rw [zf,oh oq]
 let k':World:={ k with heap:=k.heap.push dead }
 have hpushk:∀(g:Nat),g<k.heap.size→k'.heap[g]?=k.heap[g]?:=fun g hg=>by
  show (k.heap.push dead)[g]?=_;rw [zf,oh oq]
 refine⟨k',?_,⟨rfl,rfl,rfl,by simp [k'],fun g o hg _=>(hpushk g (heap_lt hg)).trans hg⟩,⟨rfl,rfl,rfl,by simp [k'],fun g hg=>hpushk g hg⟩,⟨rfl,rfl,rfl,by simp,fun g hg=>hpush g hg⟩,by rw [hsz];simp [k']⟩;exact
  { os:=h.os
    tape:=h.tape
    output:=h.output
    size:=by simp [k',hsz]
    live:=fun g o hg hd=>by
     by_cases e:g=k.heap.size
     ·subst e;simp [k']at hg;exact absurd hg.symm hd
     ·have hg':g<k.heap.size:=by have:=heap_lt hg;simp [k']at this;omega
      rw [hpushk g hg']at hg;exact (hpush g oq).trans (h.live g o hg hd)
    dark:=fun g hg=>by
     by_cases e:g=k.heap.size
     ·refine⟨vs.toArray,ty,(0,0),?_,by simpa using hw⟩;rw [e,←hsz];simp
     ·have hg':g<k.heap.size:=by have:=heap_lt hg;simp [k']at this;omega
      rw [hpushk g hg']at hg;obtain⟨cs',t',fr,h1,h2⟩:=h.dark g hg
      exact⟨cs',t',fr,(hpush g oq).trans h1,h2⟩ }
theorem gC {w:World}{n g:Nat}{ty:TypeId}{cs:Array Value}(hg:g≠n):(World.putBlk w n ty cs).heap[g]?=w.heap[g]?:=by
 unfold World.putBlk;simp only [qz];rw [oh (Ne.symm hg)]
theorem kZ {w:World}{n:Nat}{ty:TypeId}{cs:Array Value}:(World.putBlk w n ty cs).heap.size=w.heap.size:=by unfold World.putBlk;simp
theorem rC {k w:World}(h:Sees k w) {n:Nat}{ty:TypeId}{cs:Array Value}(hB:Blk w n ty cs) (hd:k.heap[n]?=some dead) {us:List Value}(hw:∀u∈us,u.noWord=true) :
 Sees k (World.putBlk w n ty us.toArray):=
 { os:=h.os
   tape:=h.tape
   output:=h.output
   size:=by rw [kZ];exact h.size
   live:=fun g o hg hdd=>by
    by_cases e:g=n
    ·subst e;rw [hd]at hg;injection hg with hg;exact absurd hg.symm hdd
    ·rw [gC e];exact h.live g o hg hdd
   dark:=fun g hg=>by
    by_cases e:g=n
    ·subst e;exact⟨_,_,_,hB.put _,by simpa using hw⟩
    ·rw [gC e];exact h.dark g hg }
section
variable {st:St}{ρ:Env}{k0:Anc}{w0 k w:World}{a:Act}
theorem Rel.blkLt (h:Rel st ρ k0 w0 k a w):∀b n,ρ.blk b=some n→n<w.heap.size:=fun b n hb=>by
 rcases zb b st.heap.length with hb'|hb'
 ·obtain⟨n',vs',h1,_,h3,_⟩:=h.heap b _ (qi hb');rw [hb]at h1;injection h1 with h1;subst h1;exact h3.lt
 ·rw [h.blks b hb']at hb;cases hb
theorem aK {ρ:Env}{n:Nat}{lks:List LK}{us:List Value}(i:Nat):(ρ.ext n lks us).val (n+i)=us[i]?∧(ρ.ext n lks us).kd (n+i)=lks[i]?:=by
 constructor
 ·show (if n+i<n then _ else us[n+i-n]?)=_;rw [oh oq]
  congr 1;omega
 ·show (if n+i<n then _ else lks[n+i-n]?)=_;rw [oh oq]
  congr 1;omega
structure Core (ρ:Env) (k0 w0 k w:World) (rows:List RowI):Prop where
 sees:Sees k w
 base:k0.heap.size=w0.heap.size
 kb:Below k0.heap.size k0 k
 wb:Below w0.heap.size w0 w
 lt:∀b n,ρ.blk b=some n→n<w.heap.size
 rows:RowsOk ρ k0.heap.size k w rows
structure Went (ρ ρ':Env) (k0 w0 k w k' w':World) (rs rows':List RowI):Prop where
 up:Up k k'
 kbl:Below k.heap.size k k'
 sees:Sees k' w'
 kb:Below k0.heap.size k0 k'
 wb:Below w0.heap.size w0 w'
 hw:∀b n,ρ.blk b=some n→w'.heap[n]?=w.heap[n]?
 sz:w.heap.size≤w'.heap.size
 rows:RowsOk ρ' k0.heap.size k' w' rows'
 oth:∀g:Nat,g<w.heap.size→(∀r∈rs,aD ρ r≠some g)→(∀b,ρ.blk b≠some g)→w'.heap[g]?=w.heap[g]?
 new:∀r∈rows',∀g,aD ρ' r=some g→w.heap.size≤g∨∃r0∈rs,aD ρ r0=some g
theorem kX {ρ ρ1 ρ':Env}{base N:Nat}{k w:World}{rows rows0 rows1:List RowI}{r':RowI}(h:RowsOk ρ1 base k w rows0) (hle:ρ1.le ρ') (h0:∀r∈rows0,∀g,aD ρ1 r=some g→N≤g∨∃r0∈rows,aD ρ r0=some g)
 (h1:rows1=rows0++[r']) (hn:∀g,aD ρ' r'=some g→N≤g∨∃r0∈rows,aD ρ r0=some g):∀r∈rows1,∀g,aD ρ' r=some g→N≤g∨∃r0∈rows,aD ρ r0=some g:=fun r hr g e=>by
 rw [h1]at hr;rcases qd.1 hr with hr|hr
 ·rw [bG (h.ok r hr) hle]at e;exact h0 r hr g e
 ·rw [qt.1 hr]at e;exact hn g e
theorem jE {ρ:Env}{N:Nat}{rows rows0:List RowI}(h:∀r∈rows0,r∈rows):∀r∈rows0,∀g,aD ρ r=some g→N≤g∨∃r0∈rows,aD ρ r0=some g:=fun r hr _ e=>.inr ⟨r,h r hr,e⟩
theorem Went.fam {fam:Option FamI}{k0:World}{n:Nat}{lks:List LK}{us:List Value}{k' w':World}{rs rows':List RowI}(g:Went ρ (ρ.ext n lks us) k0 w0 k w k' w' rs rows') (h:FamOk ρ k0.heap.size k w fam rs) (hle:ρ.le (ρ.ext n lks us)):FamOk (ρ.ext n lks us) k0.heap.size k' w' fam rows':=
 h.mono hle (fun b _ e _=>⟨b,e⟩) (fun _ e _ _=>(g.kbl.block _ (heap_lt e)).trans e) (fun q h1 h2 h3=>g.oth q h1 h3 h2) g.new
theorem Rel.core (h:Rel st ρ k0 w0 k a w):Core ρ k0 w0 k w st.rows:=⟨h.sees,h.base,h.kb,h.wb,h.blkLt,h.rows⟩
theorem Rel.went (h:Rel st ρ k0 w0 k a w) {lks:List LK}{us:List Value}{k' w':World}{rows':List RowI}(hf:fitsL lks us) (hle:ρ.le (ρ.ext st.kinds.length lks us)) (g:Went ρ (ρ.ext st.kinds.length lks us) k0 w0 k w k' w' st.rows rows') :
 Rel { st with kinds:=st.kinds++lks,rows:=rows' } (ρ.ext st.kinds.length lks us) k0 w0 k' a w':=
 h.rowStep hf g.up g.sees g.kb g.wb g.hw (fun b n hb=>g.kbl.block n (by have:=h.blkLt b n hb;have:=h.sees.size;omega)) hle g.rows
  (g.fam h.fam hle)
def St.row2 (st:St) (rows0:List RowI) (ty:TypeId) (s:Nat):St:={ st with kinds:=st.kinds++[.slice,.row],rows:=rows0++[⟨st.kinds.length,st.kinds.length+1,ty,s⟩] }
theorem Core.fresh {k0:World}{rows:List RowI}{n0:Nat}(h:Core ρ k0 w0 k w rows) {rows0:List RowI}(hsub:∀r∈rows0,r∈rows) {xs cells:Array Value}{n c s:Nat}{ty:TypeId}(d:Nat) (hs0:0<s) (hxs:xs.size=n*s) (hnc:n≤c) (hcs:cells.size=c*s)
 (hpre:∀(p:Nat) u,xs[p]?=some u→cells[p]?=some u) (hnw:∀u∈cells.toList,u.noWord=true) (_hrc:RowC xs) (hle:ρ.le (ρ.ext n0 [.slice,.row] [.slice (some ⟨w.heap.size,0,none⟩) n c,.agg xs])) :
 ∃k',Went ρ (ρ.ext n0 [.slice,.row] [.slice (some ⟨w.heap.size,0,none⟩) n c,.agg xs]) k0 w0 k w k' { w with heap:=w.heap.push (.cells cells ty),drawn:=d } rows (rows0++[⟨n0,n0+1,ty,s⟩]):=by
 obtain⟨k',s1,s2,s3,s4,s5⟩:=pW h.sees (vs:=cells.toList) hnw ty;rw [vt]at s1 s4;have hold:∀(g:Nat),g<w.heap.size→({ w with heap:=w.heap.push (.cells cells ty),drawn:=d }:World).heap[g]?=w.heap[g]?:=fun g hg=>by
  show (w.heap.push _)[g]?=_;rw [zf,oh oq]
 refine⟨k',s2,s3,⟨s1.os,s1.tape,s1.output,s1.size,s1.live,s1.dark⟩,h.kb.trans (s3.mono h.kb.size),
  h.wb.trans ⟨rfl,rfl,rfl,by simp,fun g hg=>hold g (by have:=h.wb.size;omega)⟩,fun b n' hb=>hold n' (h.lt b n' hb),by simp,?_,fun g hg _ _=>hold g hg,kX (h.rows.sub hsub) hle (jE hsub) rfl fun g e=>.inl ?_⟩
 rotate_left
 ·unfold aD at e;have e1:=(aK (ρ:=ρ) (n:=n0) (lks:=[.slice,.row]) (us:=[.slice (some ⟨w.heap.size,0,none⟩) n c,.agg xs]) 0).1;rw [jh]at e1;simp only [e1]at e;injection e with e;exact Nat.le_of_eq e
 have e0:=aK (ρ:=ρ) (n:=n0) (lks:=[.slice,.row]) (us:=[.slice (some ⟨w.heap.size,0,none⟩) n c,.agg xs]) 0;have e1:=aK (ρ:=ρ) (n:=n0) (lks:=[.slice,.row]) (us:=[.slice (some ⟨w.heap.size,0,none⟩) n c,.agg xs]) 1;refine RowsOk.snoc ((h.rows.sub hsub).mono hle (fun b g e _=>⟨b,e⟩) (fun g e _=>(s3.block _ (heap_lt e)).trans e) (fun g hg _=>hold g hg)) ?_ ?_
 ·refine⟨some ⟨w.heap.size,0,none⟩,n,c,xs,e0.1,e1.1,e0.2,e1.2,hs0,hxs,hnc,.inr ⟨w.heap.size,cells,rfl,?_,?_,hcs,hpre,hnw,s5,fun b e=>?_⟩⟩
  ·have:=h.base;have:=h.wb.size;omega
  ·unfold Blk;show (w.heap.push _)[w.heap.size]?=_;simp
  ·have:=h.lt b _ e;omega
 ·intro r' hr' g hg hg';have hb:aD (ρ.ext n0 [.slice,.row] [.slice (some ⟨w.heap.size,0,none⟩) n c,.agg xs]) ⟨n0,n0+1,ty,s⟩=some w.heap.size:=by
   unfold aD;have:=e0.1;simp only [jh]at this;rw [this];rfl
  rw [hb]at hg;injection hg with hg;subst hg;have hok:=h.rows.ok r' (hsub r' hr');rw [bG hok hle]at hg';obtain⟨A,n1,c1,xs1,h1,_,_,_,_,_,_,h8⟩:=hok;unfold aD at hg';rw [h1]at hg';rcases h8 with ⟨rfl,_⟩|⟨g2,cs2,rfl,_,hB,_⟩
  ·cases hg'
  ·injection hg' with hg';have:=hB.lt;have e:g2=w.heap.size:=hg';omega
theorem Rel.fresh (h:Rel st ρ k0 w0 k a w) {rows0:List RowI}(hsub:∀r∈rows0,r∈st.rows) {xs cells:Array Value}{n c s:Nat}{ty:TypeId}(d:Nat) (hs0:0<s) (hxs:xs.size=n*s) (hnc:n≤c) (hcs:cells.size=c*s)
 (hpre:∀(p:Nat) u,xs[p]?=some u→cells[p]?=some u) (hnw:∀u∈cells.toList,u.noWord=true) (hrc:RowC xs) (hle:ρ.le (ρ.ext st.kinds.length [.slice,.row] [.slice (some ⟨w.heap.size,0,none⟩) n c,.agg xs])) :
 ∃k',Up k k'∧Rel (st.row2 rows0 ty s) (ρ.ext st.kinds.length [.slice,.row] [.slice (some ⟨w.heap.size,0,none⟩) n c,.agg xs]) k0 w0 k' a { w with heap:=w.heap.push (.cells cells ty),drawn:=d }:=by
 obtain⟨k',g⟩:=h.core.fresh (n0:=st.kinds.length) hsub d hs0 hxs hnc hcs hpre hnw hrc hle;exact⟨k',g.up,h.went ⟨⟨_,_,_,rfl⟩,⟨_,rfl,hrc⟩,trivial⟩ hle g⟩
theorem aFf {ρ:Env}{base:Nat}{k w:World}{ty:TypeId}{s n0:Nat}{A:Option Addr}{n c:Nat}{xs:Array Value}(g:Gift base k w ty s A n c xs) {q:Nat}(e:aD (ρ.ext n0 [.slice,.row] [.slice A n c,.agg xs]) ⟨n0,n0+1,ty,s⟩=some q):base≤q:=by
 unfold aD at e;have e1:=(aK (ρ:=ρ) (n:=n0) (lks:=[.slice,.row]) (us:=[.slice A n c,.agg xs]) 0).1;rw [jh]at e1;simp only [e1]at e;rcases g.own with ⟨rfl,_⟩|⟨q0,cs0,rfl,g1,_⟩
 ·cases e
 ·injection e with e;exact e▸g1
theorem Core.gift {k0:World}{rows:List RowI}{n0:Nat}(h:Core ρ k0 w0 k w rows) {k' w':World}{A:Option Addr}{n c s:Nat}{xs:Array Value}{ty:TypeId}(hs0:0<s) (s1:Sees k' w') (s2:Below k.heap.size k k') (s3:Below w.heap.size w w')
 (g:Gift k.heap.size k' w' ty s A n c xs) (hle:ρ.le (ρ.ext n0 [.slice,.row] [.slice A n c,.agg xs])) :
 Went ρ (ρ.ext n0 [.slice,.row] [.slice A n c,.agg xs]) k0 w0 k w k' w' rows (rows++[⟨n0,n0+1,ty,s⟩]):=by
 have hkw:=h.sees.size;refine⟨Up.of_below s2,s2,s1,h.kb.trans (s2.mono h.kb.size),h.wb.trans (s3.mono h.wb.size),fun b n' hb=>s3.block n' (h.lt b n' hb),s3.size,?_,fun g hg _ _=>s3.block g hg,kX h.rows hle (jE fun _ h=>h) rfl fun q e=>.inl ?_⟩
 rotate_left
 ·rw [hkw];exact aFf g e
 have e0:=aK (ρ:=ρ) (n:=n0) (lks:=[.slice,.row]) (us:=[.slice A n c,.agg xs]) 0;have e1:=aK (ρ:=ρ) (n:=n0) (lks:=[.slice,.row]) (us:=[.slice A n c,.agg xs]) 1;refine RowsOk.snoc (h.rows.mono hle (fun b g e _=>⟨b,e⟩) (fun g e _=>(s2.block _ (heap_lt e)).trans e) (fun g hg _=>s3.block g hg)) ?_ ?_
 ·refine⟨A,n,c,xs,e0.1,e1.1,e0.2,e1.2,hs0,g.size,g.cap,g.own.imp id ?_⟩;rintro⟨q,cs,rfl,g1,g2,g3,g4,g5,g6⟩;refine⟨q,cs,rfl,qr h.kb.size g1,g2,g3,g4,g5,g6,fun b e=>?_⟩;have:=h.lt b _ e;omega
 ·intro r' hr' q hg hg';have hok:=h.rows.ok r' hr';rw [bG hok hle]at hg';obtain⟨A1,n1,c1,xs1,h1,_,_,_,_,_,_,h8⟩:=hok;unfold aD at hg hg';have e0':=e0.1;simp only [jh]at e0';simp only [e0']at hg;rw [h1]at hg';rcases g.own with ⟨rfl,_⟩|⟨q0,cs0,rfl,g1,_⟩
  ·cases hg
  ·injection hg with hg;rcases h8 with ⟨rfl,_⟩|⟨q2,cs2,rfl,_,hB,_⟩
   ·cases hg'
   ·injection hg' with hg';have:=hB.lt;have ea:q0=q:=hg;have eb:q2=q:=hg';omega
theorem rU {ρ:Env}{n:Nat}{lks lks':List LK}{us us':List Value}(h:lks.length=us.length):(ρ.ext n lks us).ext (n+us.length) lks' us'=ρ.ext n (lks++lks') (us++us'):=by
 unfold Env.ext
 congr 1
 ·funext i
  simp only
  by_cases c:i<n+us.length
  ·rw [og c]
   by_cases d:i<n
   ·rw [og d,og d]
   ·rw [oh d,oh d,vf oq]
  ·rw [oh c,oh oq,vk oq]
   congr 1;omega
 ·funext i
  simp only
  by_cases c:i<n+us.length
  ·rw [og c]
   by_cases d:i<n
   ·rw [og d,og d]
   ·rw [oh d,oh d,vf oq]
  ·rw [oh c,oh oq,vk oq]
   congr 1;omega
theorem Went.gift {k0:World}{ρ1:Env}{rows1:List RowI}{n1:Nat}{k' w':World}{rows:List RowI}(g0:Went ρ ρ1 k0 w0 k w k' w' rows rows1) (hblk:ρ1.blk=ρ.blk) (hlt:∀b n,ρ.blk b=some n→n<w.heap.size) (hkw:w.heap.size=k.heap.size) (hk0:k0.heap.size≤k.heap.size)
 {A:Option Addr}{n c s:Nat}{xs:Array Value}{ty:TypeId}(hs0:0<s) (g:Gift k.heap.size k' w' ty s A n c xs) (hap:∀r∈rows1,∀q,aD ρ1 r=some q→∀a,A=some a→a.block≠q) (hle:ρ1.le (ρ1.ext n1 [.slice,.row] [.slice A n c,.agg xs])) :
 Went ρ (ρ1.ext n1 [.slice,.row] [.slice A n c,.agg xs]) k0 w0 k w k' w' rows (rows1++[⟨n1,n1+1,ty,s⟩]):=by
 refine⟨g0.up,g0.kbl,g0.sees,g0.kb,g0.wb,g0.hw,g0.sz,?_,g0.oth,kX g0.rows hle g0.new rfl fun q e=>.inl (by rw [hkw];exact aFf g e)⟩;have e0:=aK (ρ:=ρ1) (n:=n1) (lks:=[.slice,.row]) (us:=[.slice A n c,.agg xs]) 0;have e1:=aK (ρ:=ρ1) (n:=n1) (lks:=[.slice,.row]) (us:=[.slice A n c,.agg xs]) 1;refine RowsOk.snoc (g0.rows.mono hle (fun b g e _=>⟨b,e⟩) (fun g e _=>e) (fun g hg _=>rfl)) ?_ ?_
 ·refine⟨A,n,c,xs,e0.1,e1.1,e0.2,e1.2,hs0,g.size,g.cap,g.own.imp id ?_⟩;rintro⟨q,cs,rfl,g1,g2,g3,g4,g5,g6⟩;refine⟨q,cs,rfl,qr hk0 g1,g2,g3,g4,g5,g6,fun b e=>?_⟩;have e:ρ1.blk b=some q:=e;rw [hblk]at e;have:=hlt b _ e;omega
 ·intro r' hr' q hg hg';have hok:=g0.rows.ok r' hr';rw [bG hok hle]at hg';unfold aD at hg;have e0':=e0.1;simp only [jh]at e0';simp only [e0']at hg;rcases g.own with ⟨rfl,_⟩|⟨q0,cs0,rfl,g1,_⟩
  ·cases hg
  ·injection hg with hg;exact hap r' hr' q hg' _ rfl hg
theorem Core.freshNil {k0:World}{rows:List RowI}{n0:Nat}(h:Core ρ k0 w0 k w rows) {rows0:List RowI}(hsub:∀r∈rows0,r∈rows) {s:Nat}{ty:TypeId}(hs0:0<s) (hle:ρ.le (ρ.ext n0 [.slice,.row] [.slice none 0 0,.agg #[]])) :
 Went ρ (ρ.ext n0 [.slice,.row] [.slice none 0 0,.agg #[]]) k0 w0 k w k w rows (rows0++[⟨n0,n0+1,ty,s⟩]):=by
 have hnil:aD (ρ.ext n0 [.slice,.row] [.slice none 0 0,.agg #[]]) ⟨n0,n0+1,ty,s⟩=none:=by
  unfold aD;have:=(aK (ρ:=ρ) (n:=n0) (lks:=[.slice,.row]) (us:=[.slice none 0 0,.agg #[]]) 0).1;simp only [jh]at this;rw [this];rfl
 refine⟨Up.refl k,Below.refl _ _,h.sees,h.kb,h.wb,fun _ _ _=>rfl,oy _,?_,fun _ _ _ _=>rfl,kX (h.rows.sub hsub) hle (jE hsub) rfl fun g e=>by rw [hnil]at e;cases e⟩;have e0:=aK (ρ:=ρ) (n:=n0) (lks:=[.slice,.row]) (us:=[.slice none 0 0,.agg #[]]) 0;have e1:=aK (ρ:=ρ) (n:=n0) (lks:=[.slice,.row]) (us:=[.slice none 0 0,.agg #[]]) 1;refine RowsOk.snoc ((h.rows.sub hsub).mono hle (fun b g e _=>⟨b,e⟩) (fun g e _=>e) (fun g hg _=>rfl)) ?_ ?_
 ·exact⟨none,0,0,#[],e0.1,e1.1,e0.2,e1.2,hs0,by simp,oy _,.inl ⟨rfl,rfl⟩⟩
 ·intro r' _ g hg;rw [hnil]at hg;cases hg
theorem Rel.freshNil (h:Rel st ρ k0 w0 k a w) {rows0:List RowI}(hsub:∀r∈rows0,r∈st.rows) {s:Nat}{ty:TypeId}(hs0:0<s) (hle:ρ.le (ρ.ext st.kinds.length [.slice,.row] [.slice none 0 0,.agg #[]])) :
 Rel (st.row2 rows0 ty s) (ρ.ext st.kinds.length [.slice,.row] [.slice none 0 0,.agg #[]]) k0 w0 k a w:=
 h.went ⟨⟨_,_,_,rfl⟩,⟨_,rfl,fun u hu=>by cases hu⟩,trivial⟩ hle (h.core.freshNil (n0:=st.kinds.length) hsub hs0 hle)
theorem Core.rewrite {k0:World}{rows:List RowI}{n0:Nat}(h:Core ρ k0 w0 k w rows) {r r':RowI}(hr:r∈rows) {rows0:List RowI}(hsub:∀q∈rows0,q∈rows∧q≠r) {g n c n':Nat}{cells' xs':Array Value}{lks:List LK}{us:List Value}
 (hv:ρ.val r.v=some (.slice (some ⟨g,0,none⟩) n c)) (hty:r'.ty=r.ty) (hs:r'.s=r.s) (hle:ρ.le (ρ.ext n0 lks us))
 (hv':(ρ.ext n0 lks us).val r'.v=some (.slice (some ⟨g,0,none⟩) n' c)) (hx':(ρ.ext n0 lks us).val r'.x=some (.agg xs')) (hkv:(ρ.ext n0 lks us).kd r'.v=some .slice) (hkx:(ρ.ext n0 lks us).kd r'.x=some .row)
 (hxs:xs'.size=n'*r.s) (hnc:n'≤c) (hcs:cells'.size=c*r.s) (hpre:∀(p:Nat) u,xs'[p]?=some u→cells'[p]?=some u) (hnw:∀u∈cells'.toList,u.noWord=true) :
 Went ρ (ρ.ext n0 lks us) k0 w0 k w k (World.putBlk w g r.ty cells') rows (rows0++[r']):=by
 obtain⟨A,n1,c1,xs,h1,h2,h3,h4,h5,h6,h7,h8⟩:=h.rows.ok r hr;rw [hv]at h1;injection h1 with h1;injection h1 with e1 e2 e3;subst e2 e3;rcases h8 with ⟨rfl,_⟩|⟨g',cs,rfl,g1,g2,g3,g4,g5,g6,g7⟩
 ·cases e1
 ·injection e1 with e1;injection e1 with e1 _ _;subst e1;have hsees:=rC h.sees g2 g6 (us:=cells'.toList) hnw;rw [vt]at hsees;refine⟨Up.refl k,Below.refl _ _,hsees,h.kb,h.wb.trans ⟨rfl,rfl,rfl,by rw [kZ];exact oy _,fun q hq=>gC (by have:=h.base;omega)⟩,fun b n' hb=>gC fun e=>g7 b (by rw [←e];exact hb),by rw [kZ];exact oy _,?_,fun q _ hq _=>gC fun e=>hq r hr (by unfold aD;rw [hv,e]),kX (h.rows.sub fun q hq=>(hsub q hq).1) hle (jE fun q hq=>(hsub q hq).1) rfl fun q e=>.inr ⟨r,hr,?_⟩⟩
  rotate_left
  ·unfold aD at e ⊢;rw [hv']at e;rw [hv];exact e
  have hother:∀q∈rows0,aD ρ q≠some g:=fun q hq e=>by
   have:=h.rows.dist q (hsub q hq).1 r hr (hsub q hq).2 g e;apply this;unfold aD;rw [hv]
  refine RowsOk.snoc ⟨fun q hq=>(h.rows.ok q (hsub q hq).1).mono hle (fun b g e _=>⟨b,e⟩) (fun _ e _=>e) (fun q' _ _ hb=>gC fun e=>hother q hq (by rw [hb,e])),fun q hq q' hq' hne=>by
   rw [bG (h.rows.ok q (hsub q hq).1) hle,bG (h.rows.ok q' (hsub q' hq').1) hle]
   exact h.rows.dist q (hsub q hq).1 q' (hsub q' hq').1 hne⟩ ?_ ?_
  ·refine⟨_,n',c,xs',hv',hx',hkv,hkx,by rw [hs];exact h5,by rw [hs];exact hxs,hnc,.inr ⟨g,cells',rfl,g1,?_,by rw [hs];exact hcs,hpre,hnw,g6,g7⟩⟩;rw [hty];exact g2.put _
  ·intro q hq g' hg' hq';rw [bG (h.rows.ok q (hsub q hq).1) hle]at hq';have:aD (ρ.ext n0 lks us) r'=some g:=by unfold aD;rw [hv']
   rw [this]at hg';injection hg' with hg';subst hg';exact hother q hq hq'
theorem xB (ρ:Env) {n:Nat}(hv:∀i,n≤i→ρ.val i=none) (hk:∀i,n≤i→ρ.kd i=none):ρ.ext n [] []=ρ:=by
 unfold Env.ext;have e1:(fun i=>if i<n then ρ.val i else ([]:List Value)[i-n]?)=ρ.val:=funext fun i=>by
  by_cases e:i<n
  ·rw [og e]
  ·rw [oh e,hv i oq];rfl
 have e2:(fun i=>if i<n then ρ.kd i else ([]:List LK)[i-n]?)=ρ.kd:=funext fun i=>by
  by_cases e:i<n
  ·rw [og e]
  ·rw [oh e,hk i oq];rfl
 rw [e1,e2]
theorem aGb {k0:World}{rows:List RowI}{fam:Option FamI}(hs:Sees k w) (hkb:Below k0.heap.size k0 k) (hrows:RowsOk ρ k0.heap.size k w rows) (hfam:FamOk ρ k0.heap.size k w fam rows) {r:RowI}(hr:r∈rows) {rows0:List RowI}(hsub:∀q∈rows0,q∈rows∧q≠r) {A:Option Addr}{n c:Nat}{xs:Array Value}
 (hv:ρ.val r.v=some (.slice A n c)) (hx:ρ.val r.x=some (.agg xs)):∃k',Up k k'∧RowAt k' A xs∧Sees k' w∧Below k0.heap.size k0 k'∧(∀b n',ρ.blk b=some n'→k'.heap[n']?=k.heap[n']?)∧RowsOk ρ k0.heap.size k' w rows0∧FamOk ρ k0.heap.size k' w fam rows0:=by
 obtain⟨A',n1,c1,xs',h1,h2,h3,h4,h5,h6,h7,h8⟩:=hrows.ok r hr;rw [hv]at h1;injection h1 with h1;injection h1 with e1 e2 e3;subst e1 e2 e3;rw [hx]at h2;injection h2 with h2;injection h2 with h2;subst h2;rcases h8 with ⟨rfl,rfl⟩|⟨g,cs,rfl,g1,g2,g3,g4,g5,g6,g7⟩
 ·refine⟨k,Up.refl k,fun p u hu=>?_,hs,hkb,fun _ _ _=>rfl,hrows.sub fun q hq=>(hsub q hq).1,hfam.mono (Env.le.refl ρ) (fun b g e _=>⟨b,e⟩) (fun _ e _ _=>e) (fun _ _ _ _=>rfl) (jE fun q hq=>(hsub q hq).1)⟩;have:n=0:=oq
  subst this;have:xs.size=0:=by rw [h6];simp
  have:=(jq.1 hu).1;omega
 ·let k':World:={ k with heap:=k.heap.setIfInBounds g (.cells cs r.ty (0,0)) }
  have hoth:∀q,q≠g→k'.heap[q]?=k.heap[q]?:=fun q hq=>by
   show (k.heap.setIfInBounds g _)[q]?=_;rw [qz,oh (Ne.symm hq)]
  have hown:k'.heap[g]?=some (.cells cs r.ty (0,0)):=by
   show (k.heap.setIfInBounds g _)[g]?=_;rw [qz,og rfl,og (heap_lt g6)]
  have hsize:k'.heap.size=k.heap.size:=by simp [k']
  have hup:Up k k':=⟨rfl,rfl,rfl,by rw [hsize];exact oy _,fun q o hg hd=>by
   by_cases e:q=g
   ·subst e;rw [g6]at hg;injection hg with hg;exact absurd hg.symm hd
   ·rw [hoth q e];exact hg⟩
  have hsees:Sees k' w:=
   { os:=hs.os
     tape:=hs.tape
     output:=hs.output
     size:=by rw [hsize];exact hs.size
     live:=fun q o hg hd=>by
      by_cases e:q=g
      ·subst e;rw [hown]at hg;injection hg with hg;subst hg;exact g2
      ·rw [hoth q e]at hg;exact hs.live q o hg hd
     dark:=fun q hg=>by
      by_cases e:q=g
      ·subst e;rw [hown]at hg;injection hg with hg;exact absurd hg (eD _ _)
      ·rw [hoth q e]at hg;exact hs.dark q hg }
  have hother:∀q∈rows0,aD ρ q≠some g:=fun q hq e=>by
   have:=hrows.dist q (hsub q hq).1 r hr (hsub q hq).2 g e;apply this;unfold aD;rw [hv]
  refine⟨k',hup,fun p u hu=>⟨g,rfl,by rw [hsize];exact heap_lt g6,?_⟩,hsees,⟨hkb.os,hkb.tape,hkb.output,by rw [hsize];exact hkb.size,fun q hq=>(hoth q oq).trans (hkb.block q hq)⟩,
   fun b n' hb=>hoth n' fun e=>g7 b (by rw [←e];exact hb),⟨fun q hq=>?_,fun q hq q' hq'=>hrows.dist q (hsub q hq).1 q' (hsub q' hq').1⟩,
   hfam.mono (Env.le.refl ρ) (fun b g e _=>⟨b,e⟩) (fun q e _ hq=>(hoth q fun e'=>hq r hr (by unfold aD;rw [hv,e'])).trans e) (fun _ _ _ _=>rfl) (jE fun q hq=>(hsub q hq).1)⟩
  ·unfold World.cell?;simp only [hown];exact g4 p u hu
  ·obtain⟨A,n1,c1,xs1,q1,q2,q3,q4,q5,q6,q7,q8⟩:=hrows.ok q (hsub q hq).1;refine⟨A,n1,c1,xs1,q1,q2,q3,q4,q5,q6,q7,q8.imp id ?_⟩;rintro⟨g',cs',rfl,i1,i2,i3,i4,i5,i6,i7⟩;have hne:g'≠g:=fun e=>hother q hq (by unfold aD;rw [q1,e]);exact⟨g',cs',rfl,i1,i2,i3,i4,i5,(hoth g' hne).trans i6,i7⟩
theorem Rel.pubRow (h:Rel st ρ k0 w0 k a w) {r:RowI}(hr:r∈st.rows) {rows0:List RowI}(hsub:∀q∈rows0,q∈st.rows∧q≠r) {A:Option Addr}{n c:Nat}{xs:Array Value}
 (hv:ρ.val r.v=some (.slice A n c)) (hx:ρ.val r.x=some (.agg xs)):∃k',Up k k'∧RowAt k' A xs∧Rel { st with rows:=rows0 } ρ k0 w0 k' a w:=by
 have hkn:∀i,st.kinds.length≤i→ρ.kd i=none:=fun i hi=>by rw [h.kinds,ob hi]
 have en:=xB ρ h.vals hkn;obtain⟨k',u,r1,r2,r3,r4,r5,r6⟩:=aGb h.sees h.kb h.rows h.fam hr hsub hv hx;refine⟨k',u,r1,?_⟩;have:=h.rowStep (k':=k') (lks:=[]) (us:=[]) (rows':=rows0) trivial u r2 r3 h.wb (fun _ _ _=>rfl) r4 (by rw [en];exact Env.le.refl ρ) (by rw [en];exact r5) (by rw [en];exact r6);rw [en,qo]at this;exact this
end
