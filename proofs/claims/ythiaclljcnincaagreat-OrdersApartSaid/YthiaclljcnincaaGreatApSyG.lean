/- A symbolic executor of the model's code: rows of rows. -/
import Derived.Test.YthiaclljcnincaaGreatApSyF
namespace Go.Proofs.YthiaclljcnincaaGreat.Sy
open Go.RowKit
def aFe (cfg:Cfg) (id:Nat) (post:Bool):List Gc:=(cfg.gho.filter fun g=>g.1 == id && g.2.1 == post).flatMap (·.2.2)
def gL (st:St) (f:Option FamI) (cur:List (SC×Nat)):St:={ st with fam:=f,cur:=cur }
def bBc:SV→Option SC
 | .one (.slr v)=>some (.len (.var v))
 | .one (.lit (.slice none 0 0))=>some (.lit (.int .i64 0))
 | _=>none
def bAl (st:St) (c:SC) (i r:Tmp):Option Nat:=
 if r=i then (st.cur.find? fun p=>aM p.1 c).map (·.2) else match st.tm r with
  | .one (.slr u)=>some u
  | _=>none
def mT:List Gc→St→(St→T)→T
 | [],st,K=>K st
 | .mk t ty s :: l,st,K=>match bBc (st.tm t) with
  | some n => if 0 < s then .fmk n st.kinds.length (mT l (gL (st.vars [.row, .fam]) (some ⟨st.kinds.length, st.kinds.length + 1, ty, s⟩) []) K) else .fail "rows: size"
  | none => .fail "rows: of what"
 | .take i :: l,st,K=>match st.fam,st.tm i with
  | some f,.one c=>.ftake f.v f.x c st.kinds.length (mT l (gL { st.vars [.slice,.row,.row,.fam] with rows:=st.rows++[⟨st.kinds.length,st.kinds.length+1,f.ty,f.s⟩] } (some ⟨st.kinds.length+2,st.kinds.length+3,f.ty,f.s⟩) ((c,st.kinds.length) :: st.cur)) K)
  | _, _ => .fail "rows: take"
 | .give i r :: l,st,K=>match st.fam,st.tm i with
  | some f,.one c=>match (bAl st c i r).bind (cW st) with
   | some q => if q.ty = f.ty ∧ q.s = f.s then .fgive f.v f.x q.v q.x c st.kinds.length (mT l (gL { st.vars [.row, .fam] with rows := st.without q } (some ⟨st.kinds.length, st.kinds.length + 1, f.ty, f.s⟩) (st.cur.filter fun p => !(p.2 == q.v))) K) else .fail "rows: give"
   | none => .fail "rows: give what"
  | _, _ => .fail "rows: give"
 | .push r :: l,st,K=>match st.fam,st.tm r with
  | some f,.one (.slr u)=>match cW st u with
   | some q => if q.ty = f.ty ∧ q.s = f.s then .fpush f.v f.x q.v q.x st.kinds.length (mT l (gL { st.vars [.row, .fam] with rows := st.without q } (some ⟨st.kinds.length, st.kinds.length + 1, f.ty, f.s⟩) []) K) else .fail "rows: push"
   | none => .fail "rows: push what"
  | _, _ => .fail "rows: push"
 | .pub :: l,st,K=>match st.fam with
  | some f=>.fpub f.v f.x (mT l (gL st none []) K)
  | none => .fail "rows: none"
section
variable {st:St}{ρ:Env}{k0:Anc}{w0 k w:World}{a:Act}{P:Program}{R:Ctx}{cfg:Cfg}{base:Nat}{ty:TypeId}{s:Nat}{rows rows':List RowI}{vs xs vs' xs' cs:Array Value}{A:Option Addr}{n c J:Nat}
theorem FamOk.nil:FamOk ρ base k w none rows:=fun f hf=>by cases hf
theorem Rel.famSet (h:Rel st ρ k0 w0 k a w) {f:Option FamI}{cur:List (SC×Nat)}(hf:FamOk ρ k0.heap.size k w f st.rows):Rel (gL st f cur) ρ k0 w0 k a w:=
 ⟨h.anc,h.up,h.dep,h.env,h.kinds,h.vals,h.blks,h.inj,h.size,h.tmps,h.defers,h.sees,h.base,h.kb,h.wb,h.heap,h.mem,h.rows,hf⟩
theorem OneOk.nil:OneOk ρ base k w ty s none 0 0 #[]:=⟨fun u hu=>(by cases hu),by simp,oy _,.inl ⟨rfl,rfl⟩⟩
theorem FamB.nils (N:Nat):FamB ρ base k w ty s rows (Array.replicate N (.slice none 0 0)) (Array.replicate N (.agg #[])):=by
 have e:∀(j:Nat) v,(Array.replicate N (Value.slice none 0 0))[j]?=some v→v=.slice none 0 0∧j<N:=fun j v h=>by
  rw [vz]at h;split at h
  ·injection h with h;exact⟨h.symm,by assumption⟩
  ·cases h
 refine⟨by simp,fun j v h=>?_,fun j j' a a' n n' c c' h=>?_,fun j a n c h=>?_⟩
 ·obtain⟨rfl,hj⟩:=e j v h;exact⟨none,0,0,#[],rfl,by rw [vz,og hj],OneOk.nil⟩
 ·cases (e _ _ h).1
 ·cases (e _ _ h).1
theorem FamB.upd (h:FamB ρ base k w ty s rows vs xs) (hs:vs'.size=xs'.size) (J:Nat) (ho:OneOk ρ base k w ty s A n c cs)
 (hv:∀(j:Nat) v,vs'[j]?=some v→(j=J∧v=.slice A n c∧xs'[j]?=some (.agg cs))∨(j≠J∧vs[j]?=some v∧xs'[j]?=xs[j]?))
 (hr:∀(j:Nat) a n c,j≠J→vs[j]?=some (.slice (some a) n c)→∀r∈rows',aD ρ r≠some a.block) (h1:∀a,A=some a→∀(j:Nat) a' n' c',j≠J→vs[j]?=some (.slice (some a') n' c')→a'.block≠a.block)
 (h2:∀a,A=some a→∀r∈rows',aD ρ r≠some a.block):FamB ρ base k w ty s rows' vs' xs':=by
 refine⟨hs,fun j v hj=>?_,fun j j' a a' n n' c c' hj hj' e=>?_,fun j a n c hj=>?_⟩
 ·rcases hv j v hj with ⟨_,rfl,e⟩|⟨_,e1,e2⟩
  ·exact⟨A,n,c,cs,rfl,e,ho⟩
  ·rw [e2];exact h.one j v e1
 ·rcases hv j _ hj with ⟨e1,e2,_⟩|⟨e1,e2,_⟩ <;> rcases hv j' _ hj' with ⟨e3,e4,_⟩|⟨e3,e4,_⟩
  ·rw [e1,e3]
  ·injection e2 with e2;exact absurd e.symm (h1 a e2.symm j' a' _ _ e3 e4)
  ·injection e4 with e4;exact absurd e (h1 a' e4.symm j a _ _ e1 e2)
  ·exact h.inj _ _ _ _ _ _ _ _ e2 e4 e
 ·rcases hv j _ hj with ⟨_,e2,_⟩|⟨e1,e2,_⟩
  ·injection e2 with e2;exact h2 a e2.symm
  ·exact hr j a n c e1 e2
theorem aGo {v x:Value}(hs:vs.size=xs.size) (J:Nat):(vs.setIfInBounds J v).size=(xs.setIfInBounds J x).size∧∀(j:Nat) u,(vs.setIfInBounds J v)[j]?=some u→(j=J∧u=v∧(xs.setIfInBounds J x)[j]?=some x)∨(j≠J∧vs[j]?=some u∧(xs.setIfInBounds J x)[j]?=xs[j]?):=by
 refine⟨by simp [hs],fun j u h=>?_⟩;rw [Array.getElem?_setIfInBounds]at h ⊢
 by_cases e:J=j
 ·subst e;rw [og rfl]at h ⊢;split at h
  ·rename_i hl;injection h with h;exact .inl ⟨rfl,h.symm,og oq⟩
  ·cases h
 ·rw [oh e]at h ⊢;exact .inr ⟨fun e'=>e e'.symm,h,rfl⟩
theorem aRa {v x:Value}(hs:vs.size=xs.size):(vs.push v).size=(xs.push x).size∧∀(j:Nat) u,(vs.push v)[j]?=some u→(j=vs.size∧u=v∧(xs.push x)[j]?=some x)∨(j≠vs.size∧vs[j]?=some u∧(xs.push x)[j]?=xs[j]?):=by
 refine⟨by simp [hs],fun j u h=>?_⟩;rw [Array.getElem?_push]at h ⊢
 by_cases e:j=vs.size
 ·rw [og e]at h;injection h with h;exact .inl ⟨e,h.symm,by rw [og oq]⟩
 ·rw [oh e]at h;exact .inr ⟨e,h,by rw [oh oq]⟩
theorem zZ {v:Array Value}(hx:FamC xs) (hv:RowC v) (J:Nat):FamC (xs.setIfInBounds J (.agg v)):=fun u hu=>by
 rw [xq]at hu;rcases kn hu with hu|hu
 ·exact hx u hu
 ·exact⟨v,hu,hv⟩
theorem aBg {v:Value}(hx:RowC xs) (hv:v.scalar=true∧v.noWord=true) (J:Nat):RowC (xs.setIfInBounds J v):=fun u hu=>by
 rw [xq]at hu;rcases kn hu with hu|hu
 ·exact hx u hu
 ·rw [hu];exact hv
theorem aHr {v:Array Value}(hx:FamC xs) (hv:RowC v):FamC (xs.push (.agg v)):=fun u hu=>by
 rw [Array.toList_push]at hu;rcases qd.1 hu with hu|hu
 ·exact hx u hu
 ·exact⟨v,qt.1 hu,hv⟩
theorem aKe {v:Value}(hx:RowC xs) (hv:v.scalar=true∧v.noWord=true):RowC (xs.push v):=fun u hu=>by
 rw [Array.toList_push]at hu;rcases qd.1 hu with hu|hu
 ·exact hx u hu
 ·rw [qt.1 hu];exact hv
theorem Rel.famAt (h:Rel st ρ k0 w0 k a w) {f:FamI}(hf:st.fam=some f):∃vs xs:Array Value,ρ.val f.v=some (.agg vs)∧ρ.val f.x=some (.agg xs)∧RowC vs∧FamC xs∧0<f.s∧FamB ρ k0.heap.size k w f.ty f.s st.rows vs xs:=by
 obtain⟨vs,xs,h1,h2,h3,h4,h5,h6⟩:=h.fam f hf;obtain⟨_,e1,e2⟩:=h.env _ _ _ h3 h1;obtain⟨_,e3,e4⟩:=h.env _ _ _ h4 h2;injection e1 with e1;injection e3 with e3;subst e1 e3;exact⟨vs,xs,h1,h2,e2,e4,h5,h6⟩
theorem FamB.ext (h:FamB ρ base k w ty s rows vs xs) {m:Nat}{lks:List LK}{us:List Value}(hr:∀r∈rows,aD (ρ.ext m lks us) r=aD ρ r):FamB (ρ.ext m lks us) base k w ty s rows vs xs:=
 h.mono (fun b g e _=>⟨b,e⟩) (fun _ e _ _=>e) (fun _ _ _ _=>rfl) fun r hr' g e=>.inr ⟨r,hr',by rw [←hr r hr'];exact e⟩
theorem tD {m i:Nat}{lks:List LK}{us:List Value}(h1:us[i]?=some (.agg vs)) (h2:us[i+1]?=some (.agg xs)) (h3:lks[i]?=some .row) (h4:lks[i+1]?=some .fam) (h0:0<s) (h:FamB (ρ.ext m lks us) base k w ty s rows vs xs) :
 FamOk (ρ.ext m lks us) base k w (some ⟨m+i,m+i+1,ty,s⟩) rows:=fun f hf=>by
 injection hf with hf;subst hf;have a0:=aK (ρ:=ρ) (n:=m) (lks:=lks) (us:=us) i;have a1:=aK (ρ:=ρ) (n:=m) (lks:=lks) (us:=us) (i+1);exact⟨vs,xs,a0.1.trans h1,a1.1.trans h2,a0.2.trans h3,a1.2.trans h4,h0,h⟩
theorem Rel.pubFam (h:Rel st ρ k0 w0 k a w) (hB:FamB ρ k0.heap.size k w ty s st.rows vs xs):∃k',Up k k'∧(∀(j:Nat) (A:Option Addr) (n c:Nat) (cs:Array Value),vs[j]?=some (.slice A n c)→xs[j]?=some (.agg cs)→RowAt k' A cs)∧Rel (gL st none []) ρ k0 w0 k' a w:=by
 classical
 let I (g:Nat):Prop:=∃(j:Nat) (a:Addr) (n c:Nat),vs[j]?=some (.slice (some a) n c)∧a.block=g
 let k':World:={ k with heap:=k.heap.mapIdx fun g o=>if I g then (w.heap[g]?).getD o else o }
 have hk:∀g:Nat,k'.heap[g]?=(k.heap[g]?).map fun o=>if I g then (w.heap[g]?).getD o else o:=fun g=>by
  show (k.heap.mapIdx _)[g]?=_;rw [Array.getElem?_mapIdx]
 have one:∀g,I g→∃cs,k0.heap.size≤g∧Blk w g ty cs∧k.heap[g]?=some dead∧(∀b,ρ.blk b≠some g)∧∀r∈st.rows,aD ρ r≠some g:=fun g hg=>by
  obtain⟨j,a,n,c,e,rfl⟩:=hg;obtain⟨A,n',c',cs,e1,_,_,_,_,h8⟩:=hB.one j _ e;injection e1 with e1 _ _;subst e1;rcases h8 with ⟨h8,_⟩|⟨g,cs',h8,g1,g2,_,_,_,g6,g7⟩
  ·cases h8
  ·injection h8 with h8;subst h8;exact⟨cs',g1,g2,g6,g7,hB.far j _ n c e⟩
 have hin:∀g,I g→∃cs,k'.heap[g]?=some (.cells cs ty (0,0))∧Blk w g ty cs:=fun g hg=>by
  obtain⟨cs,_,g2,g3,_⟩:=one g hg;refine⟨cs,?_,g2⟩;have e:w.heap[g]?=some (.cells cs ty (0,0)):=g2;rw [hk,g3,je,og hg,e];rfl
 have hoth:∀g,¬ I g→k'.heap[g]?=k.heap[g]?:=fun g hg=>by
  rw [hk];cases e:k.heap[g]? with
  | none=>rfl
  | some o=>rw [je,oh hg]
 have hsize:k'.heap.size=k.heap.size:=by simp [k']
 have hup:Up k k':=⟨rfl,rfl,rfl,by rw [hsize];exact oy _,fun q o hq hd=>by
  by_cases e:I q
  ·obtain⟨_,_,_,g3,_⟩:=one q e;rw [g3]at hq;injection hq with hq;exact absurd hq.symm hd
  ·rw [hoth q e];exact hq⟩
 have hsees:Sees k' w:=
  { os:=h.sees.os
    tape:=h.sees.tape
    output:=h.sees.output
    size:=by rw [hsize];exact h.sees.size
    live:=fun q o hq hd=>by
     by_cases e:I q
     ·obtain⟨cs,g1,g2⟩:=hin q e;rw [g1]at hq;injection hq with hq;subst hq;exact g2
     ·rw [hoth q e]at hq;exact h.sees.live q o hq hd
    dark:=fun q hq=>by
     by_cases e:I q
     ·obtain⟨cs,g1,g2⟩:=hin q e;rw [g1]at hq;injection hq with hq;exact absurd hq (eD _ _)
     ·rw [hoth q e]at hq;exact h.sees.dark q hq }
 refine⟨k',hup,fun j A n c cs e1 e2 p u hu=>?_,?_⟩
 ·obtain⟨A',n',c',cs',e3,e4,_,o2,o3,h8⟩:=hB.one j _ e1;injection e3 with e3 e5 e6;subst e3 e5 e6;rw [e2]at e4;injection e4 with e4;injection e4 with e4;subst e4;rcases h8 with ⟨rfl,rfl⟩|⟨g,cs'',rfl,_,g2,_,g4,_⟩
  ·have hn:n=0:=oq
   subst hn;have:=(jq.1 hu).1;simp at o2;simp [o2]at this
  ·obtain⟨ds,d1,d2⟩:=hin g ⟨j,_,_,_,e1,rfl⟩;have e:Obj.cells ds ty (0,0)=.cells cs'' ty (0,0):=by
    have d2:w.heap[g]?=some (.cells ds ty (0,0)):=d2;have g2:w.heap[g]?=some (.cells cs'' ty (0,0)):=g2;rw [d2]at g2;injection g2
   rw [e]at d1;refine⟨g,rfl,heap_lt d1,?_⟩;unfold World.cell?;simp only [d1];exact g4 p u hu
 ·have hkn:∀i,st.kinds.length≤i→ρ.kd i=none:=fun i hi=>by rw [h.kinds,ob hi]
  have en:=xB ρ h.vals hkn;have h0:=h.famSet (f:=none) (cur:=[]) FamOk.nil;have:=h0.rowStep (k':=k') (lks:=[]) (us:=[]) (rows':=st.rows) trivial hup hsees ⟨h.kb.os,h.kb.tape,h.kb.output,by rw [hsize];exact h.kb.size,fun q hq=>(hoth q fun e=>by obtain⟨_,g1,_⟩:=one q e;omega).trans (h.kb.block q hq)⟩ h.wb (fun _ _ _=>rfl)
   (fun b n' hb=>hoth n' fun e=>by obtain⟨_,_,_,_,g4,_⟩:=one n' e;exact g4 b hb) (by
     show ρ.le (ρ.ext st.kinds.length [] [])
     rw [en];exact Env.le.refl ρ) (by
     show RowsOk (ρ.ext st.kinds.length [] []) _ _ _ _;rw [en];refine⟨fun q hq=>?_,h.rows.dist⟩;obtain⟨A,n1,c1,xs1,q1,q2,q3,q4,q5,q6,q7,q8⟩:=h.rows.ok q hq;refine⟨A,n1,c1,xs1,q1,q2,q3,q4,q5,q6,q7,q8.imp id ?_⟩;rintro⟨g',cs',rfl,i1,i2,i3,i4,i5,i6,i7⟩;have hne:¬ I g':=fun e=>by
      obtain⟨_,_,_,_,_,g5⟩:=one g' e;exact g5 q hq (by unfold aD;rw [q1])
     exact⟨g',cs',rfl,i1,i2,i3,i4,i5,(hoth g' hne).trans i6,i7⟩) FamOk.nil
  have e:(gL st none []).kinds.length=st.kinds.length:=rfl;rw [e,en]at this;have e2:(gL st none []).kinds++[]=st.kinds:=qo _;rw [e2]at this;exact this
theorem aPv (N:Nat) {v:Value}(hv:v.scalar=true∧v.noWord=true):RowC (Array.replicate N v):=fun u hu=>by
 rw [Array.toList_replicate]at hu;rw [List.eq_of_mem_replicate hu];exact hv
theorem aMj (N:Nat):FamC (Array.replicate N (.agg #[])):=fun u hu=>by
 rw [Array.toList_replicate]at hu;exact⟨#[],List.eq_of_mem_replicate hu,fun u hu=>(by cases hu)⟩
theorem uY {ρ:Env}{r:RowI}{A:Option Addr}{n c g:Nat}(h:ρ.val r.v=some (.slice A n c)) (e:aD ρ r=some g):∃a,A=some a∧a.block=g:=by
 unfold aD at e;rw [h]at e;cases A with
 | none=>cases e
 | some a=>injection e with e;exact⟨a,rfl,e⟩
theorem wN {ρ:Env}{r:RowI}{a:Addr}{n c:Nat}(h:ρ.val r.v=some (.slice (some a) n c)):aD ρ r=some a.block:=by
 unfold aD;rw [h]
theorem aAg {cur:List (SC×Nat)}(h:Rel st ρ k0 w0 k a w) {f:FamI}{q:RowI}{J:Nat}(hB:FamB ρ k0.heap.size k w f.ty f.s st.rows vs xs) (h0:0<f.s) (hq:q∈st.rows) (q1:ρ.val q.v=some (.slice A n c)) (ho:OneOk ρ k0.heap.size k w f.ty f.s A n c cs)
 (up:vs'.size=xs'.size∧∀(j:Nat) u,vs'[j]?=some u→(j=J∧u=.slice A n c∧xs'[j]?=some (.agg cs))∨(j≠J∧vs[j]?=some u∧xs'[j]?=xs[j]?)) (hv:RowC vs') (hx:FamC xs') :
 Rel (gL { st.vars [.row,.fam] with rows:=st.without q } (some ⟨st.kinds.length,st.kinds.length+1,f.ty,f.s⟩) cur) (ρ.ext st.kinds.length [.row,.fam] [.agg vs',.agg xs']) k0 w0 k a w:=by
 have hle:=h.ext_le [.row,.fam] [.agg vs',.agg xs'];have hbl:∀r∈st.rows,aD (ρ.ext st.kinds.length [.row,.fam] [.agg vs',.agg xs']) r=aD ρ r:=fun r hr=>bG (h.rows.ok r hr) hle;have hBe:=hB.ext (m:=st.kinds.length) (lks:=[.row,.fam]) (us:=[.agg vs',.agg xs']) hbl;have sub:=cN st q;have h2:=(h.famSet (f:=none) (cur:=[]) FamOk.nil).rowStep (k':=k) (w':=w) (lks:=[.row,.fam]) (us:=[.agg vs',.agg xs']) (rows':=st.without q)
  ⟨⟨_,rfl,hv⟩,⟨_,rfl,hx⟩,trivial⟩ (Up.refl k) h.sees h.kb h.wb (fun _ _ _=>rfl) (fun _ _ _=>rfl) hle ((h.rows.sub fun r hr=>(sub r hr).1).mono hle (fun b g e _=>⟨b,e⟩) (fun _ e _=>e) (fun _ _ _=>rfl)) FamOk.nil
 refine h2.famSet (tD (i:=0) rfl rfl rfl rfl h0 (hBe.upd up.1 J ho up.2 (fun j a m d _ e r hr=>hBe.far _ _ _ _ e r (sub r hr).1) (fun a e j a' m d _ ev eb=>?_) fun a e r hr er=>?_))
 ·subst e;exact hBe.far _ _ _ _ ev q hq (by rw [hbl q hq,wN q1,eb])
 ·subst e;rw [hbl r (sub r hr).1]at er;exact h.rows.dist r (sub r hr).1 q hq (sub r hr).2 _ er (wN q1)
theorem fA {K:St→T}:∀ {l:List Gc}{st:St}{ρ:Env}{k:World},Rel st ρ k0 w0 k a w→(mT l st K).den P R ρ.bare k→∃st' ρ' k',Rel st' ρ' k0 w0 k' a w∧(K st').den P R ρ'.bare k'
 | [],st,ρ,k,h,hT=>⟨st,ρ,k,h,hT⟩
 | .mk t ty s :: l,st,ρ,k,h,hT=>by
  unfold mT at hT;split at hT
  ·split at hT
   ·rename_i hs;unfold T.den at hT;split at hT
    ·rename_i N _;have h1:=(h.famSet (f:=none) (cur:=[]) FamOk.nil).vars (lks:=[.row,.fam]) (us:=[.agg (Array.replicate N.toNat (.slice none 0 0)),.agg (Array.replicate N.toNat (.agg #[]))]) ⟨⟨_,rfl,aPv _ ⟨rfl,rfl⟩⟩,⟨_,rfl,aMj _⟩,trivial⟩ h.sees (Below.refl _ _) (Below.refl _ _);exact fA (st:=gL (st.vars [.row,.fam]) (some ⟨st.kinds.length,st.kinds.length+1,ty,s⟩) []) (h1.famSet (tD (i:=0) rfl rfl rfl rfl hs (FamB.nils _))) (hT _ _ rfl rfl)
    ·exact hT.elim
   ·exact hT.elim
  ·exact hT.elim
 | .take i :: l,st,ρ,k,h,hT=>by
  unfold mT at hT;split at hT
  ·rename_i f c hf hc;obtain⟨vs,xs,e1,e2,hvC,hxC,h0,hB⟩:=h.famAt hf;unfold T.den at hT;split at hT
   ·rename_i vs0 xs0 _ I d1 d2 d3;have d1:ρ.val f.v=some (.agg vs0):=d1;have d2:ρ.val f.x=some (.agg xs0):=d2;rw [e1]at d1;injection d1 with d1;injection d1 with d1;subst d1;rw [e2]at d2;injection d2 with d2;injection d2 with d2;subst d2;obtain⟨A,n,c',cs,ho,hin,hj⟩:∃A n c' cs,OneOk ρ k0.heap.size k w f.ty f.s A n c' cs∧(I.toNat<vs.size→vs[I.toNat]?=some (.slice A n c')∧xs[I.toNat]?=some (.agg cs))∧∀a,A=some a→vs[I.toNat]?=some (.slice A n c'):=by
     by_cases hlt:I.toNat<vs.size
     ·have hj:=ql hlt;obtain⟨A,n,c',cs,ev,ex,ho⟩:=hB.one _ _ hj;rw [ev]at hj;exact⟨A,n,c',cs,ho,fun _=>⟨hj,ex⟩,fun _ _=>hj⟩
     ·exact⟨none,0,0,#[],OneOk.nil,fun h=>absurd h hlt,fun a e=>by cases e⟩
    have hT:=hT A n c' cs _ _ hin rfl rfl;have hle:=h.ext_le [.slice,.row,.row,.fam] [.slice A n c',.agg cs,.agg (vs.setIfInBounds I.toNat (.slice none 0 0)),.agg (xs.setIfInBounds I.toNat (.agg #[]))];have n0:=aK (ρ:=ρ) (n:=st.kinds.length) (lks:=[.slice,.row,.row,.fam]) (us:=[.slice A n c',.agg cs,.agg (vs.setIfInBounds I.toNat (.slice none 0 0)),.agg (xs.setIfInBounds I.toNat (.agg #[]))]) 0;have n1:=aK (ρ:=ρ) (n:=st.kinds.length) (lks:=[.slice,.row,.row,.fam]) (us:=[.slice A n c',.agg cs,.agg (vs.setIfInBounds I.toNat (.slice none 0 0)),.agg (xs.setIfInBounds I.toNat (.agg #[]))]) 1;have hBe:=hB.ext (m:=st.kinds.length) (lks:=[.slice,.row,.row,.fam]) (us:=[.slice A n c',.agg cs,.agg (vs.setIfInBounds I.toNat (.slice none 0 0)),.agg (xs.setIfInBounds I.toNat (.agg #[]))]) fun r hr=>bG (h.rows.ok r hr) hle;have hrows:=RowsOk.snoc (h.rows.mono hle (fun b g e _=>⟨b,e⟩) (fun _ e _=>e) (fun _ _ _=>rfl)) (r:=⟨st.kinds.length,st.kinds.length+1,f.ty,f.s⟩) ⟨A,n,c',cs,n0.1,n1.1,n0.2,n1.2,h0,ho.2.1,ho.2.2.1,ho.2.2.2⟩ fun r' hr' g hg hg'=>by
     obtain⟨a,rfl,rfl⟩:=uY n0.1 hg;exact hBe.far _ _ _ _ (hj a rfl) r' hr' hg'
    have h2:=(h.famSet (f:=none) (cur:=[]) FamOk.nil).rowStep (k':=k) (w':=w) (lks:=[.slice,.row,.row,.fam]) (us:=[.slice A n c',.agg cs,.agg (vs.setIfInBounds I.toNat (.slice none 0 0)),.agg (xs.setIfInBounds I.toNat (.agg #[]))])
     ⟨⟨_,_,_,rfl⟩,⟨_,rfl,ho.1⟩,⟨_,rfl,aBg hvC ⟨rfl,rfl⟩ _⟩,⟨_,rfl,zZ hxC (fun u hu=>by cases hu) _⟩,trivial⟩ (Up.refl k) h.sees h.kb h.wb (fun _ _ _=>rfl) (fun _ _ _=>rfl) hle hrows FamOk.nil
    have up:=aGo (v:=.slice none 0 0) (x:=.agg #[]) hB.size I.toNat
    have hB':=hBe.upd (rows':=st.rows++[⟨st.kinds.length,st.kinds.length+1,f.ty,f.s⟩]) up.1 I.toNat (A:=none) (n:=0) (c:=0) (cs:=#[]) OneOk.nil up.2 (fun j a m d hne hv r' hr' e=>by
     rcases qd.1 hr' with hr'|hr'
     ·exact hBe.far _ _ _ _ hv r' hr' e
     ·rw [qt.1 hr']at e;obtain⟨a',rfl,e'⟩:=uY n0.1 e
      exact hne (hBe.inj _ _ _ _ _ _ _ _ hv (hj a' rfl) e'.symm)) (fun a e=>by cases e) (fun a e=>by cases e)
    exact fA (st:=gL { st.vars [.slice,.row,.row,.fam] with rows:=st.rows++[⟨st.kinds.length,st.kinds.length+1,f.ty,f.s⟩] } (some ⟨st.kinds.length+2,st.kinds.length+3,f.ty,f.s⟩) ((c,st.kinds.length) :: st.cur))
     (h2.famSet (tD (i:=2) rfl rfl rfl rfl h0 hB')) hT
   ·exact hT.elim
  ·exact hT.elim
 | .give i r :: l,st,ρ,k,h,hT=>by
  unfold mT at hT;split at hT
  ·rename_i f c hf hc;split at hT
   ·rename_i q hq;split at hT
    ·rename_i hqs;obtain⟨u,_,hq⟩:=qp.1 hq;have hq1:=(aN hq).1;obtain⟨vs,xs,e1,e2,hvC,hxC,h0,hB⟩:=h.famAt hf;obtain⟨A,n,c',cs,q1,q2,q3,q4,q5,q6,q7,q8⟩:=h.rows.ok q hq1;obtain⟨_,e3,hcs⟩:=h.env _ _ _ q4 q2;injection e3 with e3;subst e3;unfold T.den at hT;split at hT
     ·rename_i vs0 xs0 a0 b0 _ I d1 d2 d3 d4 d5;have d1:ρ.val f.v=some (.agg vs0):=d1;have d2:ρ.val f.x=some (.agg xs0):=d2;have d3:ρ.val q.v=some a0:=d3;have d4:ρ.val q.x=some b0:=d4;rw [e1]at d1;injection d1 with d1;injection d1 with d1;subst d1;rw [e2]at d2;injection d2 with d2;injection d2 with d2;subst d2;rw [q1]at d3;injection d3 with d3;subst d3;rw [q2]at d4;injection d4 with d4;subst d4;exact fA (aAg h hB h0 hq1 q1 ⟨hcs,by rw [←hqs.2];exact q6,q7,by rw [←hqs.1,←hqs.2];exact q8⟩ (aGo hB.size I.toNat) (aBg hvC ⟨rfl,rfl⟩ _) (zZ hxC hcs _)) (hT _ _ rfl rfl)
     ·exact hT.elim
    ·exact hT.elim
   ·exact hT.elim
  ·exact hT.elim
 | .push r :: l,st,ρ,k,h,hT=>by
  unfold mT at hT;split at hT
  ·rename_i f u hf hu;split at hT
   ·rename_i q hq;split at hT
    ·rename_i hqs;obtain⟨hq1,hq2⟩:=aN hq;obtain⟨vs,xs,e1,e2,hvC,hxC,h0,hB⟩:=h.famAt hf;obtain⟨A,n,c',cs,q1,q2,q3,q4,q5,q6,q7,q8⟩:=h.rows.ok q hq1;obtain⟨_,e3,hcs⟩:=h.env _ _ _ q4 q2;injection e3 with e3;subst e3;unfold T.den at hT;split at hT
     ·rename_i vs0 xs0 a0 b0 d1 d2 d3 d4;have d1:ρ.val f.v=some (.agg vs0):=d1;have d2:ρ.val f.x=some (.agg xs0):=d2;have d3:ρ.val q.v=some a0:=d3;have d4:ρ.val q.x=some b0:=d4;rw [e1]at d1;injection d1 with d1;injection d1 with d1;subst d1;rw [e2]at d2;injection d2 with d2;injection d2 with d2;subst d2;rw [q1]at d3;injection d3 with d3;subst d3;rw [q2]at d4;injection d4 with d4;subst d4;exact fA (aAg h hB h0 hq1 q1 ⟨hcs,by rw [←hqs.2];exact q6,q7,by rw [←hqs.1,←hqs.2];exact q8⟩ (aRa hB.size) (aKe hvC ⟨rfl,rfl⟩) (aHr hxC hcs)) (hT _ _ rfl rfl)
     ·exact hT.elim
    ·exact hT.elim
   ·exact hT.elim
  ·exact hT.elim
 | .pub :: l,st,ρ,k,h,hT=>by
  unfold mT at hT;split at hT
  ·rename_i f hf;obtain⟨vs,xs,e1,e2,_,_,_,hB⟩:=h.famAt hf;unfold T.den at hT;split at hT
   ·rename_i vs0 xs0 d1 d2;have d1:ρ.val f.v=some (.agg vs0):=d1;have d2:ρ.val f.x=some (.agg xs0):=d2;rw [e1]at d1;injection d1 with d1;injection d1 with d1;subst d1;rw [e2]at d2;injection d2 with d2;injection d2 with d2;subst d2;obtain⟨k',u1,u2,u3⟩:=h.pubFam hB;exact fA u3.at (hT k' u1 u2)
   ·exact hT.elim
  ·exact hT.elim
end
