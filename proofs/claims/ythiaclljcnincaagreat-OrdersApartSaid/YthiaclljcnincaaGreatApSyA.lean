/- A symbolic executor of the model's code: rows that are made, appended to, written. -/
import Derived.Test.YthiaclljcnincaaGreatApSyR
namespace Go.Proofs.YthiaclljcnincaaGreat.Sy
open Go.RowKit
section
variable {st:St}{ρ:Env}{k0:Anc}{w0 k w:World}{a:Act}{P:Program}
def cW (st:St) (v:Nat):Option RowI:=st.rows.find? fun r=>r.v == v
def St.without (st:St) (r:RowI):List RowI:=st.rows.filter fun q=>decide (q≠r)
theorem aN {v:Nat}{r:RowI}(h:cW st v=some r):r∈st.rows∧r.v=v:=by
 unfold cW at h;exact⟨List.mem_of_find?_eq_some h,by simpa using List.find?_some h⟩
theorem cN (st:St) (r:RowI):∀q∈st.without r,q∈st.rows∧q≠r:=fun q hq=>by
 unfold St.without at hq;rw [List.mem_filter]at hq;exact⟨hq.1,by simpa using hq.2⟩
theorem aEc {u:Value}(h:u.scalar=true):u.oneCell'=true:=by
 cases u <;> first|rfl|cases h
theorem uT {w:World}{g:Nat}{ty:TypeId}{cur cs:Array Value}(h:Blk w g ty cur):w.setRow g cs=World.putBlk w g ty cs:=by
 unfold World.setRow World.putBlk
 congr 1
 apply jc;intro i;rw [yz,qz]
 by_cases e:g=i
 ·subst e;have hl:=h.lt;unfold Blk at h;simp only [h,if_true,je,hl]
 ·simp [e]
theorem aCc {z:Array Value}(hz:∀u∈z.toList,u.noWord=true) (n:Nat):∀u∈(Builtin.zeroCells z n).toList,u.noWord=true:=by
 intro u hu;unfold Builtin.zeroCells at hu;simp only [yg,xh]at hu;obtain⟨i,_,rfl⟩:=hu
 by_cases hs:z.size=0
 ·have:z=#[]:=ji hs;subst this;rfl
 ·have hl:i % z.size<z.size:=qg _ oq;rw [getElem!_pos z _ hl];exact hz _ (by simp)
theorem aMm {xs cs:Array Value}{m:Nat}(hm:xs.size=m) (h:∀(p:Nat) u,xs[p]?=some u→cs[p]?=some u) (_hl:m≤cs.size):cs.toList.take m=xs.toList:=by
 apply wj;intro i;rw [vv]
 by_cases hi:i<m
 ·rw [og hi];have:=h i xs[i] (ql oq);simp only [jk];rw [this,ql oq]
 ·rw [oh hi,ob (by simp;omega)]
theorem rV (h:Rel st ρ k0 w0 k a w) {lks:List LK}{us:List Value}:ρ.le (ρ.ext st.kinds.length lks us):=by
 have hkn:∀i,st.kinds.length≤i→ρ.kd i=none:=fun i hi=>by rw [h.kinds,ob hi]
 refine⟨fun i v h'=>?_,fun _ _ h=>h,fun i v h'=>?_,fun _ _ h=>h⟩
 ·show (if i<st.kinds.length then ρ.val i else us[i-st.kinds.length]?)=some v
  by_cases e:i<st.kinds.length
  ·rw [og e];exact h'
  ·rw [h.vals i oq]at h';cases h'
 ·show (if i<st.kinds.length then ρ.kd i else lks[i-st.kinds.length]?)=some v
  by_cases e:i<st.kinds.length
  ·rw [og e];exact h'
  ·rw [hkn i oq]at h';cases h'
theorem pK {p:Value→Prop}:∀ {l:List Value}{xs:Array Value}{o:Nat},(∀u∈xs.toList,p u)→(∀u∈l,p u)→∀u∈(over xs o l).toList,p u
 | [],_,_,h,_=>h
 | v :: l,xs,o,h,h'=>by
  unfold over;refine pK (fun u hu=>?_) (fun u hu=>h' u (by simp [hu]));rw [Array.toList_setIfInBounds]at hu;rcases kn hu with hu|hu
  ·exact h u hu
  ·rw [hu];exact h' v (by simp)
theorem aNw {l:List Value}{xs:Array Value}{o:Nat}(h:RowC xs) (h':∀u∈l,u.scalar=true∧u.noWord=true):RowC (over xs o l):=pK (p:=fun u=>u.scalar=true∧u.noWord=true) h h'
theorem Core.app {k0:World}{rows rows0:List RowI}{n0:Nat}(h:Core ρ k0 w0 k w rows) {r:RowI}(hr:r∈rows) (hwo:∀q∈rows0,q∈rows∧q≠r) {t ty:TypeId}{i:TypeInfo}{z:Value}(ht:P.underlying t=some (.slice r.ty)) (hi:P.info? r.ty=some i) (hz:i.zero=some z) (hsz:i.size=r.s) (hzs:z.cells.size=r.s)
 (hzw:∀u∈z.cells.toList,u.noWord=true) {A B:Option Addr}{n c m c2:Nat}{xs:Array Value}{news:List Value}(hv:ρ.val r.v=some (.slice A n c)) (hx:ρ.val r.x=some (.agg xs)) (hl:news.length=m*r.s)
 (hB:B=none→m=0) (hnews:∀b,B=some b→∀(j:Nat) u,news[j]?=some u→w.cell? (b.add j)=some u) (hsc:∀u∈news,u.scalar=true∧u.noWord=true) (hok:sizeOk i.bytes (n+m)) (hxsc:RowC xs) (hle:∀A' c',ρ.le (ρ.ext n0 [.slice,.row] [.slice A' (n+m) c',.agg (xs++news.toArray)])) :
 ∃A' c' w' k',(Builtin.append_ #[t,t] ty #[.slice A n c,.slice B m c2]).run P w=.ok (.slice A' (n+m) c') w'∧n+m≤c'∧
  (Went ρ (ρ.ext n0 [.slice,.row] [.slice A' (n+m) c',.agg (xs++news.toArray)]) k0 w0 k w k' w' rows (rows0++[⟨n0,n0+1,r.ty,r.s⟩])):=by
 obtain⟨A1,n1,c1,xs1,h1,h2,h3,h4,h5,h6,h7,h8⟩:=h.rows.ok r hr;rw [hv]at h1;injection h1 with h1;injection h1 with e1 e2 e3;subst e1 e2 e3;rw [hx]at h2;injection h2 with h2;injection h2 with h2;subst h2;have hone:∀u∈news,u.oneCell'=true:=fun u hu=>aEc (hsc u hu).1;have hnw:∀u∈news,u.noWord=true:=fun u hu=>(hsc u hu).2;have hrow:RowC (xs++news.toArray):=fun u hu=>by
  simp only [zd,qd]at hu;rcases hu with hu|hu
  ·exact hxsc u hu
  ·exact hsc u (by simpa using hu)
 have hszn:(xs++news.toArray).size=(n+m)*r.s:=by simp [h6,hl,Nat.add_mul]
 have hb1:(n+m)*i.bytes≤1099511627776:=by rw [oa];exact hok.1
 have hb2:n+m≤1099511627776:=hok.2
 -- a new block
 have grow:∀(old:Nat) (cap:Nat),n+m≤cap→∃k',(Went ρ (ρ.ext n0 [.slice,.row] [.slice (some ⟨w.heap.size,0,none⟩) (n+m) cap,.agg (xs++news.toArray)]) k0 w0 k w k' (w.drew.alloc (.cells (xs.toList.toArray++news.toArray++Builtin.zeroCells z.cells (cap-(n+m))) r.ty)) rows (rows0++[⟨n0,n0+1,r.ty,r.s⟩])):=by
  intro old cap hcap;obtain⟨k',u2⟩:=h.fresh (n0:=n0) (rows0:=rows0) (fun q hq=>(hwo q hq).1) (xs:=xs++news.toArray) (cells:=xs.toList.toArray++news.toArray++Builtin.zeroCells z.cells (cap-(n+m))) (n:=n+m) (c:=cap) (s:=r.s) (ty:=r.ty) (w.drawn+1)
   h5 hszn hcap (by
    simp only [vt,Array.size_append,hszn,size_zeroCells,hzs];rw [←jo]
    congr 1;omega) (fun p u hu=>by
    rw [vt,vo (jq.1 hu).1]
    exact hu) (fun u hu=>by
    simp only [vt,zd,qd]at hu;rcases hu with (hu|hu)|hu
    ·exact (hxsc u hu).2
    ·exact hnw u (by simpa using hu)
    ·exact aCc hzw _ u hu) hrow (hle _ _)
  exact⟨k',u2⟩
 rcases h8 with ⟨rfl,rfl⟩|⟨g,cs,rfl,g1,g2,g3,g4,g5,g6,g7⟩
 ·have hn0:n=0:=oq
  subst hn0;have hx0:xs=#[]:=ji (by rw [h6];simp);subst hx0
  by_cases hm:m=0
  ·subst hm;have hn:news=[]:=List.eq_nil_of_length_eq_zero (by simpa using hl);subst hn;refine⟨none,0,w,k,?_,oy _,?_⟩
   ·cases B with
    | none=>simp [Builtin.append_,run_underlying ht,sizeOf,typeInfo,hi,Builtin.lenOf,Builtin.firstCells]
    | some b=>simp [Builtin.append_,run_underlying ht,sizeOf,typeInfo,hi,Builtin.lenOf,Builtin.firstCells,loadCells,loadCellsFrom]
   ·exact h.freshNil (n0:=n0) (fun q hq=>(hwo q hq).1) h5 (hle _ _)
  ·cases B with
   | none=>exact absurd (hB rfl) hm
   | some b=>
    have hr':=run_append_nil (P:=P) w t ty r.ty i z ht hi hz b m c2 news (by rw [hsz];exact hl) (hnews b rfl) oq oq (by simp only [qc]at hb1;omega);obtain⟨k',u2⟩:=grow 0 (grownCap w m 0 r.ty) (by rw [qc];exact grownCap_ge w m 0 r.ty);refine⟨_,_,_,k',?_,by rw [qc];exact grownCap_ge w m 0 r.ty,u2⟩;simp only [qc]at hr' ⊢;simpa using hr'
 ·by_cases hroom:n+m≤c
  ·-- in place
   have hfit:n*r.s+news.length≤cs.size:=by rw [hl,g3,←jo];exact ol _ hroom
   have hrun:∃cells',(Builtin.append_ #[t,t] ty #[.slice (some ⟨g,0,none⟩) n c,.slice B m c2]).run P w=.ok (.slice (some ⟨g,0,none⟩) (n+m) c) (World.putBlk w g r.ty cells')∧cells'=(cs.toList.take (n*r.s)++news++cs.toList.drop (n*r.s+news.length)).toArray:=by
    refine⟨_,?_,rfl⟩;cases B with
    | none=>
     have hm:=hB rfl;subst hm;have hn:news=[]:=List.eq_nil_of_length_eq_zero (by simpa using hl);subst hn;have e:(cs.toList.take (n*r.s)++[]++cs.toList.drop (n*r.s+([]:List Value).length)).toArray=cs:=by simp
     rw [e,qM g2];simp [Builtin.append_,run_underlying ht,sizeOf,typeInfo,hi,Builtin.lenOf,Builtin.firstCells,h7,storeCells]
    | some b=>
     have:=run_append_room (P:=P) w t ty r.ty i ht hi g n c cs g2 b m c2 news (by rw [hsz];exact hl) (hnews b rfl) hone hroom (by rw [hsz];exact hfit);rw [hsz,uT g2]at this;exact this
   obtain⟨cells',hrun,hc'⟩:=hrun;refine⟨_,c,_,k,hrun,hroom,?_⟩;have e0:=aK (ρ:=ρ) (n:=n0) (lks:=[.slice,.row]) (us:=[.slice (some ⟨g,0,none⟩) (n+m) c,.agg (xs++news.toArray)]) 0;have e1:=aK (ρ:=ρ) (n:=n0) (lks:=[.slice,.row]) (us:=[.slice (some ⟨g,0,none⟩) (n+m) c,.agg (xs++news.toArray)]) 1;have htake:cs.toList.take (n*r.s)=xs.toList:=aMm h6 g4 (by rw [g3];exact ol _ h7)
   exact h.rewrite (n0:=n0) (r':=⟨n0,n0+1,r.ty,r.s⟩) (lks:=[.slice,.row]) hr hwo (n':=n+m) (xs':=xs++news.toArray) (cells':=cells') hv rfl rfl (hle _ _) e0.1 e1.1 e0.2 e1.2 hszn hroom (by
    rw [hc',←g3];simp only [wz,od,kz,List.length_drop,ja]
    omega) (fun p u hu=>by
    rw [hc',htake];have hp:=(jq.1 hu).1;rw [hszn]at hp;simp only [List.getElem?_toArray];rw [vf (by simp [hl,h6,←Nat.add_mul];exact hp)];have:(xs++news.toArray)[p]?=(xs.toList++news)[p]?:=by
     rw [←jk];simp
    rw [←this];exact hu) (fun u hu=>by
    rw [hc']at hu;simp only [qd]at hu;rcases hu with (hu|hu)|hu
    ·exact g5 u (List.mem_of_mem_take hu)
    ·exact hnw u hu
    ·exact g5 u (List.mem_of_mem_drop hu))
  ·cases B with
   | none=>have:=hB rfl;omega
   | some b=>
    have holds:∀(j:Nat) u,xs.toList[j]?=some u→w.cell? ((⟨g,0,none⟩:Addr).add j)=some u:=fun j u hu=>by
     rw [bK,qc,g2.cell];exact g4 j u (by simpa using hu)
    have hr':=run_append_grow (P:=P) w t ty r.ty i z ht hi hz ⟨g,0,none⟩ n c xs.toList (by rw [hsz];simpa using h6) holds b m c2 news (by rw [hsz];exact hl) (hnews b rfl) oq oq (growslice_fits oq oq);obtain⟨k',u2⟩:=grow c (grownCap w (n+m) c r.ty) (grownCap_ge w (n+m) c r.ty);exact⟨_,_,_,k',hr',grownCap_ge w (n+m) c r.ty,u2⟩
theorem Rel.app (h:Rel st ρ k0 w0 k a w) {r:RowI}(hr:r∈st.rows) {t ty:TypeId}{i:TypeInfo}{z:Value}(ht:P.underlying t=some (.slice r.ty)) (hi:P.info? r.ty=some i) (hz:i.zero=some z) (hsz:i.size=r.s) (hzs:z.cells.size=r.s)
 (hzw:∀u∈z.cells.toList,u.noWord=true) {A B:Option Addr}{n c m c2:Nat}{xs:Array Value}{news:List Value}(hv:ρ.val r.v=some (.slice A n c)) (hx:ρ.val r.x=some (.agg xs)) (hl:news.length=m*r.s)
 (hB:B=none→m=0) (hnews:∀b,B=some b→∀(j:Nat) u,news[j]?=some u→w.cell? (b.add j)=some u) (hsc:∀u∈news,u.scalar=true∧u.noWord=true) (hok:sizeOk i.bytes (n+m)) (hxsc:RowC xs) :
 ∃A' c' w' k',(Builtin.append_ #[t,t] ty #[.slice A n c,.slice B m c2]).run P w=.ok (.slice A' (n+m) c') w'∧n+m≤c'∧Up k k'∧
  (ρ.le (ρ.ext st.kinds.length [.slice,.row] [.slice A' (n+m) c',.agg (xs++news.toArray)])→Rel (st.row2 (st.without r) r.ty r.s) (ρ.ext st.kinds.length [.slice,.row] [.slice A' (n+m) c',.agg (xs++news.toArray)]) k0 w0 k' a w'):=by
 have hrow:RowC (xs++news.toArray):=fun u hu=>by
  simp only [zd,qd]at hu;rcases hu with hu|hu
  ·exact hxsc u hu
  ·exact hsc u (by simpa using hu)
 obtain⟨A',c',w',k',g1,g2,g3⟩:=h.core.app (n0:=st.kinds.length) (c2:=c2) hr (cN st r) (ty:=ty) ht hi hz hsz hzs hzw hv hx hl hB hnews hsc hok hxsc (fun _ _=>rV h);exact⟨A',c',w',k',g1,g2,g3.up,fun hle=>h.went ⟨⟨_,_,_,rfl⟩,⟨_,rfl,hrow⟩,trivial⟩ hle g3⟩
theorem Rel.mkRow (h:Rel st ρ k0 w0 k a w) {t e:TypeId}{i:TypeInfo}{z:Value}(ht:P.underlying t=some (.slice e)) (hi:P.info? e=some i) (hz:i.zero=some z) (hzs:z.cells.size=i.size) (h0:0<i.size)
 (hzw:∀u∈z.cells.toList,u.scalar=true∧u.noWord=true) {kl kc:IntKind}{N:Int}(hN:0≤N) (hok:sizeOk i.bytes N.toNat) :
 ∃k',(Instr.makeSlice t (.int kl N) (.int kc N)).run P w=.ok (.slice (some ⟨w.heap.size,0,none⟩) N.toNat N.toNat) (w.alloc (.cells (madeCells z.cells (N.toNat*i.size)) e))∧Up k k'∧
  Rel (st.row2 st.rows e i.size) (ρ.ext st.kinds.length [.slice,.row] [.slice (some ⟨w.heap.size,0,none⟩) N.toNat N.toNat,.agg (madeCells z.cells (N.toNat*i.size))]) k0 w0 k' a (w.alloc (.cells (madeCells z.cells (N.toNat*i.size)) e)):=by
 have hb1:(i.bytes:Int)*N≤281474976710656:=by
  have:=hok.1;have e:((i.bytes*N.toNat:Nat):Int)≤1099511627776:=oq
  rw [vd,Int.toNat_of_nonneg hN]at e;omega
 have hb2:=hok.2;have hrun:=run_make (P:=P) w t e i z ht hi hz kl kc N N hN (Int.le_refl _) hb1 oq;have hall:∀u∈(madeCells z.cells (N.toNat*i.size)).toList,u.scalar=true∧u.noWord=true:=by
  intro u hu;unfold madeCells at hu;simp only [yg,xh]at hu;obtain⟨j,_,rfl⟩:=hu;have hl:j % z.cells.size<z.cells.size:=qg _ oq;rw [getElem!_pos z.cells _ hl];exact hzw _ (by simp)
 obtain⟨k',u1,u2⟩:=h.fresh (rows0:=st.rows) (fun q hq=>hq) (xs:=madeCells z.cells (N.toNat*i.size)) (cells:=madeCells z.cells (N.toNat*i.size)) (n:=N.toNat) (c:=N.toNat) (s:=i.size) (ty:=e) w.drawn h0 (size_madeCells _ _) (oy _) (size_madeCells _ _)
  (fun _ _ h=>h) (fun u hu=>(hall u hu).2) hall (rV h)
 exact⟨k',hrun,u1,u2⟩
theorem Core.setRow {k0:World}{rows rows0:List RowI}{n0:Nat}{r:RowI}(h:Core ρ k0 w0 k w rows) (hwo:∀q∈rows0,q∈rows∧q≠r) (hr:r∈rows) {t:TypeId}{m:Nat}{A:Option Addr}{n c I j:Nat}{xs:Array Value}{v:Value}(hv:ρ.val r.v=some (.slice A n c)) (hx:ρ.val r.x=some (.agg xs)) (hxsc:RowC xs)
 (hI:I<n) (hsz:bT P t=some m) (hvm:v.cells.size=m) (hjm:j+m≤r.s) (hsc:∀u∈v.cells.toList,u.scalar=true∧u.noWord=true)
 (hle:ρ.le (ρ.ext n0 [.row] [.agg (over xs (I*r.s+j) v.cells.toList)])) :
 ∃g w',A=some ⟨g,0,none⟩∧(storeVar t ⟨g,I*r.s+j,none⟩ v).run P w=.ok () w'∧
  RowC (over xs (I*r.s+j) v.cells.toList)∧Went ρ (ρ.ext n0 [.row] [.agg (over xs (I*r.s+j) v.cells.toList)]) k0 w0 k w k w' rows (rows0++[{ r with x:=n0 }]):=by
 obtain⟨A1,n1,c1,xs1,h1,h2,h3,h4,h5,h6,h7,h8⟩:=h.rows.ok r hr;rw [hv]at h1;injection h1 with h1;injection h1 with e1 e2 e3;subst e1 e2 e3;rw [hx]at h2;injection h2 with h2;injection h2 with h2;subst h2;rcases h8 with ⟨rfl,rfl⟩|⟨g,cs,rfl,g1,g2,g3,g4,g5,g6,g7⟩
 ·omega
 ·have hlen:v.cells.toList.length=m:=by simpa using hvm
  have hfit:I*r.s+j+m≤n*r.s:=by
   have:(I+1)*r.s≤n*r.s:=ol _ hI;rw [jo]at this;omega
  have hfit2:n*r.s≤c*r.s:=ol _ h7;have hst:=jS (P:=P) (w:=w) (t:=t) (off:=I*r.s+j) (v:=v) g2 hsz hvm (by rw [g3];omega) fun u hu=>(hsc u hu).1;refine⟨g,_,rfl,hst,aNw hxsc hsc,?_⟩;have e0:=aK (ρ:=ρ) (n:=n0) (lks:=[.row]) (us:=[.agg (over xs (I*r.s+j) v.cells.toList)]) 0;have hov:∀(l:List Value) (xs cs:Array Value) (o:Nat),(∀(p:Nat) u,xs[p]?=some u→cs[p]?=some u)→xs.size≤cs.size→∀(p:Nat) u,(over xs o l)[p]?=some u→(over cs o l)[p]?=some u:=by
   intro l
   induction l with
   | nil=>intro xs cs o h _ p u hu;exact h p u hu
   | cons y l ih=>
    intro xs cs o h hs p u hu;unfold over at hu ⊢;refine ih _ _ _ (fun p u hu=>?_) (by simpa using hs) p u hu;rw [qz]at hu ⊢;split at hu
    ·rename_i e;rw [og e];split at hu
     ·rw [og oq];exact hu
     ·cases hu
    ·rename_i e;rw [oh e];exact h p u hu
  exact h.rewrite (r':={ r with x:=n0 }) hr hwo (n':=n) (xs':=over xs (I*r.s+j) v.cells.toList) (cells':=over cs (I*r.s+j) v.cells.toList) hv rfl rfl hle (hle.val _ _ hv) e0.1 (hle.kd _ _ h3) e0.2
   (by rw [over_size];exact h6) h7 (by rw [over_size];exact g3) (hov _ _ _ _ g4 (by rw [h6,g3];exact hfit2)) (pK g5 fun u hu=>(hsc u hu).2)
theorem Rel.setRow (h:Rel st ρ k0 w0 k a w) {r:RowI}(hr:r∈st.rows) {t:TypeId}{m:Nat}{A:Option Addr}{n c I j:Nat}{xs:Array Value}{v:Value}(hv:ρ.val r.v=some (.slice A n c)) (hx:ρ.val r.x=some (.agg xs)) (hxsc:RowC xs)
 (hI:I<n) (hsz:bT P t=some m) (hvm:v.cells.size=m) (hjm:j+m≤r.s) (hsc:∀u∈v.cells.toList,u.scalar=true∧u.noWord=true) :
 ∃g w',A=some ⟨g,0,none⟩∧(storeVar t ⟨g,I*r.s+j,none⟩ v).run P w=.ok () w'∧
  Rel { st with kinds:=st.kinds++[.row],rows:=st.without r++[{ r with x:=st.kinds.length }] } (ρ.ext st.kinds.length [.row] [.agg (over xs (I*r.s+j) v.cells.toList)]) k0 w0 k a w':=by
 obtain⟨g,w',e,h1,h2,h3⟩:=h.core.setRow (n0:=st.kinds.length) (cN st r) hr hv hx hxsc hI hsz hvm hjm hsc (rV h);exact⟨g,w',e,h1,h.went ⟨⟨_,rfl,h2⟩,trivial⟩ (rV h) h3⟩
end
