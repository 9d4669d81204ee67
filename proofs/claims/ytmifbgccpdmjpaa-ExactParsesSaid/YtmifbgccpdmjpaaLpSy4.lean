/- A symbolic executor of the model's code: lists of cells, operands. -/
import Derived.Test.YtmifbgccpdmjpaaLpSy3
namespace Go.Proofs.Ytmifbgccpdmjpaa.Sy
open Go.RowKit
theorem dF {ρ:Env}{c:SC}(h:c.isRun=true) (cs:List SC):aC ρ (c :: cs)=(match dP ρ c,aC ρ cs with
 | some l,some us=>some (l++us)
 | _,_=>none):=by
 cases c <;> first|rfl|cases h
theorem bM {ρ:Env}{c:SC}(h:c.isRun=false) (hn:∀i m,c=.seg i m→False) (cs:List SC):aC ρ (c :: cs)=if c.scalar then (match c.den ρ,aC ρ cs with
 | some v,some us=>some (v :: us)
 | _,_=>none) else none:=by
 cases c <;> first|rfl|exact (hn _ _ rfl).elim|cases h
theorem nP (xs:Array Value) (p m:Nat):(fM xs p m).length=m:=by simp [fM]
theorem aCw {q:Value→Prop}{xs:Array Value}{p m:Nat}(h:∀u∈xs.toList,q u) (h0:q (.bool false)):∀u∈fM xs p m,q u:=by
 intro u hu;unfold fM at hu;obtain⟨i,_,rfl⟩:=xy.1 hu;cases hx:xs[p+i]? with
 | none=>exact h0
 | some v=>exact h v (by rw [qo];exact Array.mem_of_getElem? hx)
theorem wU {q:Value→Prop}:∀ {l:List Value}{xs:Array Value}{o:Nat},(∀u∈xs.toList,q u)→(∀u∈l,q u)→∀u∈(over xs o l).toList,q u
 | [],_,_,h,_=>h
 | v :: l,xs,o,h,h'=>by
  unfold over;refine wU (fun u hu=>?_) fun u hu=>h' u (List.mem_cons_of_mem _ hu);rw [xt]at hu;rcases List.mem_or_eq_of_mem_set hu with hu|hu
  ·exact h u hu
  ·rw [hu];exact h' v (List.mem_cons_self ..)
theorem aBo {vs:Array Value}{p:Nat}{v:Value}(h:xT vs p=some v):vs[p]?=some v:=by
 unfold xT at h;split at h <;> simp_all
theorem vR {vs:Array Value}{p:Nat}{v:Value}(h:xT vs p=some v):v.scalar=true:=by
 unfold xT at h;split at h
 ·cases h
 ·cases h
 ·rename_i h1 h2;cases v <;> first|rfl|exact absurd h (by first|exact h1 _|exact h2 _)
theorem aCs {o:Option Value}{us:List Value}(h:yQ o=some us):us.length=1∧∀u∈us,u.scalar=true∧u.noWord=true:=by
 unfold yQ at h;split at h
 ·split at h
  ·rename_i hc;injection h with h;subst h;simpa [Bool.and_eq_true] using hc
  ·cases h
 ·cases h
theorem aDj {ρ:Env}(hE:ρ.Ok):∀ {c:SC}{us:List Value},dP ρ c=some us→us.length=c.width∧∀u∈us,u.scalar=true∧u.noWord=true:=by
 intro c
 induction c with
 | part x N i s j m _=>
  intro us h;simp only [dP]at h;split at h
  ·rename_i vs k kk I h1 h2 h3;split at h
   ·injection h with h;subst h;obtain⟨cs,e,e1,e2⟩:=hE _ _ _ h2 h1;injection e with e;subst e;exact⟨nP _ _ _,aCw e2 ⟨rfl,rfl⟩⟩
   ·cases h
  ·cases h
 | upd x N i s j y _ ih=>
  intro us h;simp only [dP]at h;split at h
  ·rename_i vs k kk I us' h1 h2 h3 h4;split at h
   ·rename_i hk;injection h with h;subst h;obtain⟨cs,e,e1,e2⟩:=hE _ _ _ h2 h1;injection e with e;subst e;refine⟨?_,wU e2 (ih h4).2⟩;rw [vz,eW,e1,hk];rfl
   ·cases h
  ·cases h
 | seg x m=>
  intro us h;simp only [dP]at h;split at h
  ·rename_i vs k h1 h2;split at h
   ·rename_i hk;injection h with h;subst h;obtain⟨cs,e,e1,e2⟩:=hE _ _ _ h2 h1;injection e with e;subst e;exact⟨by rw [vz,e1,hk];rfl,e2⟩
   ·cases h
  ·cases h
 | cat a b iha ihb=>
  intro us h;simp only [dP]at h;split at h
  ·rename_i u v h1 h2;injection h with h;subst h;obtain⟨a1,a2⟩:=iha h1;obtain⟨b1,b2⟩:=ihb h2;refine⟨by rw [od,a1,b1];rfl,fun x hx=>?_⟩;rcases qs.1 hx with hx|hx
   ·exact a2 x hx
   ·exact b2 x hx
  ·cases h
 | _=>intro us h;exact aCs h
theorem oD {ρ:Env}{c:SC}(hc:c.scalar=false) {us:List Value}(h:aC ρ [c]=some us):dP ρ c=some us:=by
 cases c with
 | part x N i s j m=>
  simp only [aC]at h;split at h
  ·rename_i h1 h2;injection h2 with h2;injection h with h;subst h2;rw [jj]at h;subst h;exact h1
  ·cases h
 | upd x N i s j y=>
  simp only [aC]at h;split at h
  ·rename_i h1 h2;injection h2 with h2;injection h with h;subst h2;rw [jj]at h;subst h;exact h1
  ·cases h
 | seg x m=>
  simp only [aC]at h;split at h
  ·rename_i vs k us' h1 h2 h3;injection h3 with h3;subst h3;simp only [dP,h1,h2];rw [jj]at h;exact h
  ·cases h
 | _=>
  rw [bM rfl (fun i m e=>by cases e)]at h;rw [oh (by rw [hc];simp)]at h;cases h
theorem tK (vs:Array Value) (p m a:Nat) (h:a≤m):fM vs p m=fM vs p a++fM vs (p+a) (m-a):=by
 apply xr;intro q;unfold fM;simp only [jo,jc,List.length_map,List.length_range]
 by_cases h1:q<a
 ·rw [og h1,vj h1,vj oq]
 ·rw [oh h1]
  by_cases h2:q<m
  ·rw [vj h2,vj oq];simp only [jl]
   congr 3
   omega
  ·rw [om (by simpa using js h2),om (by simp;omega)];rfl
theorem uO (vs:Array Value):fM vs 0 vs.size=vs.toList:=by
 apply xr;intro q;unfold fM;simp only [jc,qe]
 by_cases h1:q<vs.size
 ·rw [vj h1,qy (by simpa using h1)];simp [Array.getElem?_eq_getElem h1]
 ·rw [om (by simpa using js h1),om (by simpa using js h1)];rfl
theorem aBp {ρ:Env}(hE:ρ.Ok) {c c1 c2:SC}{a:Nat}{us:List Value}(h:aJf c a=some (c1,c2)) (ha:a≤c.width) (hu:aC ρ [c]=some us):aC ρ [c1]=some (us.take a)∧aC ρ [c2]=some (us.drop a):=by
 have hr:=oD (by cases c <;> first|rfl|cases h) hu
 cases c with
 | part x N i s j m=>
  simp only [aJf]at h;injection h with h;injection h with h1 h2;subst h1 h2;simp only [SC.width]at ha;simp only [dP]at hr;split at hr
  ·rename_i vs k kk I e1 e2 e3;split at hr
   ·rename_i hk;injection hr with hr;rw [tK _ _ m a ha]at hr;subst hr;simp only [aC,dP,e1,e2,e3,hk,if_true,jj];have hl:(fM vs (I.toNat*s+j) a).length=a:=nP _ _ _;constructor
    ·rw [List.take_append_of_le_length oq,jt oq]
    ·rw [List.drop_append,hl,List.drop_of_length_le oq,xn,List.drop_zero,xc,wy]
   ·cases hr
  ·cases hr
 | seg x N=>
  simp only [aJf]at h;injection h with h;injection h with h1 h2;subst h1 h2;simp only [SC.width]at ha;simp only [dP]at hr;split at hr
  ·rename_i vs k e1 e2;split at hr
   ·rename_i hk;injection hr with hr;obtain⟨cs,e,e3,_⟩:=hE _ _ _ e2 e1;injection e with e;subst e;have hsz:vs.size=N:=by rw [e3,hk]
    rw [←uO,hsz,tK _ _ N a ha]at hr;subst hr;simp only [aC,dP,e1,e2,SC.den,hk,if_true,jj,Int.toNat_zero,kz,qe];have hl:(fM vs 0 a).length=a:=nP _ _ _;constructor
    ·rw [List.take_append_of_le_length oq,jt oq]
    ·rw [List.drop_append,hl,List.drop_of_length_le oq,xn,List.drop_zero,xc]
   ·cases hr
  ·cases hr
 | _=>cases h
theorem cC {ρ:Env}{c:SC}{cs:List SC}{vs:List Value}(h:aC ρ (c :: cs)=some vs) :
 ∃us ws,aC ρ [c]=some us∧aC ρ cs=some ws∧vs=us++ws:=by
 by_cases hrun:c.isRun=true
 ·rw [dF hrun]at h ⊢;split at h
  ·rename_i l us h1 h2;injection h with h;exact⟨l,us,by simp only [h1,aC,jj],h2,h.symm⟩
  ·cases h
 have hrun:c.isRun=false:=by simpa using hrun
 by_cases hseg:∃i m,c=.seg i m
 ·obtain⟨i,m,rfl⟩:=hseg;simp only [aC]at h ⊢;split at h
  ·rename_i avs k us h1 h2 h3;split at h
   ·rename_i hm;injection h with h;exact⟨avs.toList,us,by simp [h1,h2,hm],h3,h.symm⟩
   ·cases h
  ·cases h
 ·have hn:∀i m,c=.seg i m→False:=fun i m e=>hseg ⟨i,m,e⟩;rw [bM hrun hn]at h ⊢;split at h
  ·rename_i hs;split at h
   ·rename_i v us h1 h2;injection h with h;exact⟨[v],us,by simp only [hs,h1,aC,if_true],h2,by rw [←h];rfl⟩
   ·cases h
  ·cases h
theorem dE {ρ:Env}{c:SC}{cs:List SC}{us ws:List Value}(h:aC ρ [c]=some us) (h':aC ρ cs=some ws):aC ρ (c :: cs)=some (us++ws):=by
 by_cases hrun:c.isRun=true
 ·rw [dF hrun]at h ⊢;split at h
  ·rename_i l us' h1 h2;simp only [aC]at h2;injection h2 with h2;injection h with h;simp only [h1,h',←h,←h2,jj]
  ·cases h
 have hrun:c.isRun=false:=by simpa using hrun
 by_cases hseg:∃i m,c=.seg i m
 ·obtain⟨i,m,rfl⟩:=hseg;simp only [aC]at h ⊢;split at h
  ·rename_i avs k us' h1 h2 h3;injection h3 with h3;split at h
   ·rename_i hm;injection h with h;simp [h1,h2,h',hm,←h,←h3]
   ·cases h
  ·cases h
 ·have hn:∀i m,c=.seg i m→False:=fun i m e=>hseg ⟨i,m,e⟩;rw [bM hrun hn]at h ⊢;split at h
  ·rename_i hs;split at h
   ·rename_i v us' h1 h2;injection h with h;simp only [aC]at h2;injection h2 with h2;subst h2 h;simp only [hs,h1,h',if_true];rfl
   ·cases h
  ·cases h
theorem gT {ρ:Env}:∀ {l r:List SC}{us ws:List Value},aC ρ l=some us→aC ρ r=some ws→aC ρ (l++r)=some (us++ws)
 | [],r,us,ws,h,h'=>by simp only [aC]at h;injection h with h;subst h;simpa using h'
 | c :: l,r,us,ws,h,h'=>by
  obtain⟨a,b,h1,h2,rfl⟩:=cC h;rw [List.cons_append,vv];exact dE h1 (gT h2 h')
theorem lA {ρ:Env}(hE:ρ.Ok) {c:SC}{us:List Value}(h:aC ρ [c]=some us) :
 (us.length=c.width∧∀u∈us,u.scalar=true∧u.noWord=true)∨(∃v,c.scalar=true∧c.den ρ=some v∧us=[v]):=by
 by_cases hrun:c.isRun=true
 ·rw [dF hrun]at h;split at h
  ·rename_i l us' h1 h2;simp only [aC]at h2;injection h2 with h2;injection h with h;subst h2;rw [jj]at h;subst h;exact .inl (aDj hE h1)
  ·cases h
 have hrun:c.isRun=false:=by simpa using hrun
 by_cases hseg:∃i m,c=.seg i m
 ·obtain⟨i,m,rfl⟩:=hseg;simp only [aC]at h;split at h
  ·rename_i avs k us' h1 h2 h3;injection h3 with h3;split at h
   ·rename_i hm;injection h with h;obtain⟨cs,e,e1,e2⟩:=hE _ _ _ h2 h1;injection e with e;subst e;subst h3;rw [jj]at h;subst h;exact .inl ⟨by simpa [SC.width] using (by omega:avs.size=m),e2⟩
   ·cases h
  ·cases h
 ·have hn:∀i m,c=.seg i m→False:=fun i m e=>hseg ⟨i,m,e⟩;rw [bM hrun hn]at h;split at h
  ·rename_i hs;split at h
   ·rename_i v us' h1 h2;injection h with h;simp only [aC]at h2;injection h2 with h2;subst h2;exact .inr ⟨v,hs,h1,h.symm⟩
   ·cases h
  ·cases h
theorem fZ {ρ:Env}(hE:ρ.Ok) {c:SC}{us:List Value}(h:aC ρ [c]=some us):us.length=c.width:=by
 rcases lA hE h with ⟨hm,_⟩|⟨v,hs,_,rfl⟩
 ·exact hm
 ·cases c <;> first|rfl|(cases hs;done)
theorem cN {ρ:Env}(hE:ρ.Ok):∀ {cs:List SC}{vs:List Value},aC ρ cs=some vs→vs.length=widths cs
 | [],vs,h=>by simp only [aC]at h;injection h with h;subst h;rfl
 | c :: cs,vs,h=>by
  obtain⟨a,b,h1,h2,rfl⟩:=cC h;rw [od,fZ hE h1,cN hE h2,widths]
theorem fJ {ρ:Env}(hE:ρ.Ok):∀ {cs:List SC}{o:Nat}{l r:List SC}{vs:List Value},iS o cs=some (l,r)→aC ρ cs=some vs→
 aC ρ l=some (vs.take o)∧aC ρ r=some (vs.drop o)∧o≤vs.length
 | cs,0,l,r,vs,h,hv=>by
  simp only [iS]at h;injection h with h;injection h with h1 h2;subst h1 h2;exact⟨by simp [aC],by simpa using hv,jm _⟩
 | [],o+1,l,r,vs,h,hv=>by simp [iS]at h
 | c :: cs,o+1,l,r,vs,h,hv=>by
  simp only [iS]at h;split at h
  ·cases h
  split at h
  ·rename_i hw0 hw;split at h
   ·rename_i l' r' hs;injection h with h;injection h with h1 h2;subst h1 h2;obtain⟨a,b,h1,h2,rfl⟩:=cC hv;obtain⟨i1,i2,i3⟩:=fJ hE hs h2;have hl:=fZ hE h1;refine⟨?_,?_,?_⟩
    ·have:=dE h1 i1;rw [this,List.take_append,jt (show a.length≤o+1 by omega),hl]
    ·rw [i2,List.drop_append,List.drop_of_length_le (show a.length≤o+1 by omega),hl];rfl
    ·rw [od];omega
   ·cases h
  ·rename_i hw0 hw;split at h
   ·rename_i c1 c2 hc;injection h with h;injection h with h1 h2;subst h1 h2;obtain⟨a,b,g1,g2,rfl⟩:=cC hv;have hl:=fZ hE g1;obtain⟨k1,k2⟩:=aBp hE hc oq g1;refine⟨?_,?_,by rw [od];omega⟩
    ·rw [k1,List.take_append_of_le_length oq]
    ·rw [dE k2 g2,List.drop_append_of_le_length oq]
   ·cases h
theorem dY {ρ:Env}(hE:ρ.Ok) {cs l:List SC}{o m:Nat}{vs:List Value}(h:rY o m cs=some l) (hv:aC ρ cs=some vs) :
 aC ρ l=some ((vs.drop o).take m)∧o+m≤vs.length:=by
 unfold rY at h;split at h
 ·rename_i l1 r1 h1;split at h
  ·rename_i l2 r2 h2;injection h with h;subst h;obtain⟨_,i2,i3⟩:=fJ hE h1 hv;obtain⟨j1,_,j3⟩:=fJ hE h2 i2;exact⟨j1,by rw [zm]at j3;omega⟩
  ·cases h
 ·cases h
theorem mK:∀(l:List Value) (cs:Array Value) (o:Nat),o+l.length≤cs.size→(over cs o l).toList=cs.toList.take o++l++cs.toList.drop (o+l.length)
 | [],cs,o,h=>by simp [over]
 | v :: l,cs,o,h=>by
  simp only [ot]at h;unfold over;rw [mK l _ _ (by simp;omega)];simp only [xt,ot];have hl:o<cs.toList.length:=by simpa using (by omega:o<cs.size)
  have hl2:cs.toList.length=cs.size:=vz;rw [List.take_set,List.drop_set_of_lt oq,List.take_succ_eq_append_getElem hl];have e:(List.take o cs.toList++[cs.toList[o]]).set o v=List.take o cs.toList++[v]:=by
   rw [List.set_append_right _ _ (by rw [zp];omega),zp];have:o-min o cs.toList.length=0:=oq
   rw [this];rfl
  rw [e];have e2:o+1+l.length=o+(l.length+1):=oq
  simp [e2]
theorem lF {ρ:Env}(hE:ρ.Ok) {cs new l:List SC}{o:Nat}{vs us:List Value}(h:qW o new cs=some l) (hv:aC ρ cs=some vs) (hu:aC ρ new=some us) :
 aC ρ l=some (over vs.toArray o us).toList∧o+us.length≤vs.length:=by
 unfold qW at h;split at h
 ·rename_i l1 r1 h1;split at h
  ·rename_i l2 r2 h2;injection h with h;subst h;obtain⟨i1,i2,i3⟩:=fJ hE h1 hv;obtain⟨_,j2,j3⟩:=fJ hE h2 i2;have hlen:=cN hE hu;rw [zm]at j3;have hle:o+us.length≤vs.length:=oq
   refine⟨?_,hle⟩;rw [mK _ _ _ (by simpa using hle)];have:=gT (gT i1 hu) j2;rw [this,List.drop_drop,hlen]
  ·cases h
 ·cases h
theorem vK {cl:Nat}{op:BinOp}{a b v:Value}(h:nD cl op a b=some v):v.scalar=true:=by
 unfold nD at h;split at h
 ·split at h
  ·split at h <;> first|(injection h with h;subst h;rfl)|cases h
  ·cases h
 all_goals first|(injection h with h;subst h;rfl)|(split at h <;> first|(injection h with h;subst h;rfl)|(split at h <;> first|(injection h with h;subst h;rfl)|cases h)|cases h)|cases h
theorem vI {cl:Nat}{op:BinOp}{a b v:Value}(h:dQ cl op a b=some v):v.scalar=true:=by
 unfold dQ at h;split at h
 ·split at h
  ·injection h with h;subst h;rfl
  ·injection h with h;subst h;rfl
  ·split at h
   ·split at h <;> first|(injection h with h;subst h;rfl)|cases h
   ·cases h
 ·split at h <;> first|(injection h with h;subst h;rfl)|cases h
 ·split at h <;> first|(injection h with h;subst h;rfl)|cases h
 ·exact vK h
theorem uF {x:Option Value}{v:Value}(h:flat x=some v):x=some v∧v.scalar=true:=by
 unfold flat at h;split at h
 ·cases h
 ·cases h
 ·rename_i h1 h2;refine⟨h,?_⟩;subst h;cases v <;> first|rfl|exact (h1 _ rfl).elim|exact (h2 _ rfl).elim
theorem dG {s j:Nat}{x y v:Value}(h:gZ s j x y=some v):∃b o n c k i,x=.slice (some ⟨b,o,none⟩) n c∧y=.int k i∧0≤i∧i<n∧v=.pointer (some ⟨b,o+i.toNat*s+j,none⟩):=by
 unfold gZ at h;split at h
 ·split at h
  ·rename_i hr;injection h with h;exact⟨_,_,_,_,_,_,rfl,rfl,hr.1,hr.2,h.symm⟩
  ·cases h
 ·cases h
theorem pQ {s:Nat}{x y z v:Value}(h:slcD s x y z=some v):∃A n c k lo k' hi,x=.slice A n c∧y=.int k lo∧z=.int k' hi∧0≤lo∧lo≤hi∧hi≤c∧
 v=.slice (if c=lo.toNat then A else A.map fun a=>a.add (lo.toNat*s)) (hi.toNat-lo.toNat) (c-lo.toNat):=by
 unfold slcD at h;split at h
 ·split at h
  ·rename_i hr;injection h with h;exact⟨_,_,_,_,_,_,_,rfl,rfl,rfl,hr.1,hr.2.1,hr.2.2,h.symm⟩
  ·cases h
 ·cases h
theorem lK {ρ:Env}:∀ {c:SC}{v:Value},c.scalar=true→c.den ρ=some v→v.scalar=true:=by
 intro c
 induction c with
 | var i=>
  intro v _ h;simp only [SC.den]at h;split at h
  ·cases h
  ·cases h
  ·rename_i h1 h2;cases v <;> first|rfl|exact absurd h (by first|exact h1 _|exact h2 _)
 | lit u=>intro v hs h;simp only [SC.den]at h;injection h with h;subst h;exact hs
 | ptr b o=>intro v _ h;simp only [SC.den]at h;split at h <;> cases h;rfl
 | sl b o n c=>intro v _ h;simp only [SC.den]at h;split at h <;> cases h;rfl
 | seg i m=>intro v hs h;cases hs
 | part x N i s j m _=>intro v hs h;cases hs
 | upd x N i s j y _ _=>intro v hs h;cases hs
 | cat a b _ _=>intro v hs h;cases hs
 | fn f caps=>intro v _ h;simp only [SC.den]at h;split at h <;> cases h;rfl
 | fnb f b c=>intro v _ h;simp only [SC.den]at h;split at h <;> cases h;rfl
 | bin cl op a b iha ihb=>intro v _ h;simp only [SC.den]at h;split at h <;> first|exact vI h|cases h
 | pick c a b ihc iha ihb=>
  intro v hs h;simp only [SC.scalar,qc]at hs;simp only [SC.den]at h;split at h
  ·rename_i x y z h1 h2 h3;obtain⟨c0,rfl,rfl⟩:=mN h;split
   ·exact iha hs.1 h2
   ·exact ihb hs.2 h3
  ·cases h
 | idx a b _ _=>intro v _ h;simp only [SC.den]at h;(split at h <;> first|(unfold pE at h;split at h <;> cases h;rfl)|cases h)
 | le a b _ _=>intro v _ h;simp only [SC.den]at h;(split at h <;> first|(unfold leD at h;split at h <;> cases h;rfl)|cases h)
 | fit a b _ _=>intro v _ h;simp only [SC.den]at h;(split at h <;> first|(unfold aJp at h;split at h <;> cases h;rfl)|cases h)
 | byte a b _ _=>intro v _ h;simp only [SC.den]at h;(split at h <;> first|(unfold aAc at h;split at h <;> cases h;rfl)|cases h)
 | sub a b c _ _ _=>intro v _ h;simp only [SC.den]at h;(split at h <;> first|(unfold aLb at h;split at h <;> cases h;rfl)|cases h)
 | not a _=>intro v _ h;simp only [SC.den,ql]at h;obtain⟨x,_,h⟩:=h;unfold wO at h;split at h <;> cases h;rfl
 | neg a _=>intro v _ h;simp only [SC.den,ql]at h;obtain⟨x,_,h⟩:=h;unfold aCo at h;split at h <;> cases h <;> rfl
 | conv k a _=>intro v _ h;simp only [SC.den,ql]at h;obtain⟨x,_,h⟩:=h;unfold sL at h;split at h <;> cases h;rfl
 | len a _=>intro v _ h;simp only [SC.den,ql]at h;obtain⟨x,_,h⟩:=h;unfold lB at h;split at h <;> cases h <;> rfl
 | isSl st a _=>intro v _ h;simp only [SC.den,ql]at h;obtain⟨x,_,h⟩:=h;unfold wF at h;split at h <;> cases h <;> rfl
 | nz a _=>intro v _ h;simp only [SC.den,ql]at h;obtain⟨x,_,h⟩:=h;unfold nzD at h;split at h <;> cases h;rfl
 | cap a _=>intro v _ h;simp only [SC.den,ql]at h;obtain⟨x,_,h⟩:=h;unfold aMu at h;split at h <;> cases h;rfl
 | slr i=>
  intro v _ h;simp only [SC.den]at h;split at h
  ·cases h
  ·cases h
  ·rename_i h1 h2;cases v <;> first|rfl|exact absurd h (by first|exact h1 _|exact h2 _)
 | psl p o n c=>intro v _ h;simp only [SC.den]at h;split at h <;> cases h;rfl
 | cel x i s _=>intro v _ h;simp only [SC.den]at h;split at h;· exact vR h
                ·cases h
 | elem a i s j _ _=>intro v _ h;simp only [SC.den]at h;split at h;· (obtain⟨_,_,_,_,_,_,_,_,_,_,rfl⟩:=dG h;rfl)
                     ·cases h
 | slc a lo hi s _ _ _=>intro v _ h;simp only [SC.den]at h;split at h;· (obtain⟨_,_,_,_,_,_,_,_,_,_,_,_,_,rfl⟩:=pQ h;rfl)
                        ·cases h
theorem iQ {v:Value}(h:v.scalar=true):v.cells=#[v]:=by
 cases v <;> first|rfl|(simp [Value.scalar]at h)
theorem kP {ρ:Env}{c:SC}(hc:c.scalar=true):aC ρ [c]=(c.den ρ).map (fun v=>[v]):=by
 rw [bM (by cases c <;> first|rfl|cases hc) (fun i m e=>by rw [e]at hc;cases hc)]
 simp only [hc,if_true,aC];cases c.den ρ <;> rfl
theorem cD {ρ:Env}(hE:ρ.Ok):∀ {cs:List SC}{vs:List Value},aC ρ cs=some vs→∀u∈vs,u.scalar=true
 | [],vs,h=>by simp only [aC]at h;injection h with h;subst h;simp
 | c :: cs,vs,h=>by
  obtain⟨a,b,h1,h2,rfl⟩:=cC h;intro u hu;rcases qs.1 hu with hu|hu
  ·rcases lA hE h1 with ⟨_,hm⟩|⟨v,hs,hd,rfl⟩
   ·exact (hm u hu).1
   ·simp at hu;subst hu;exact lK hs hd
  ·exact cD hE h2 u hu
theorem cells?_spec {ρ:Env}{sv:SV}{cs:List SC}{v:Value}(h:sv.cells?=some cs) (hv:sv.den ρ=some v):aC ρ cs=some v.cells.toList:=by
 cases sv with
 | one c=>
  simp only [SV.cells?]at h;split at h
  ·rename_i hc;injection h with h;subst h;simp only [SV.den]at hv;rw [kP hc,hv,iQ (lK hc hv)];rfl
  ·cases h
 | agg l=>
  simp only [SV.cells?]at h;injection h with h;subst h;simp only [bO,SV.den]at hv;split at hv
  ·rename_i vs h1;injection hv with hv;subst hv;rw [h1];simp [Value.cells]
  ·cases hv
 | _=>cases h
theorem gM {ρ:Env}:∀(l:List Value),(∀v∈l,v.scalar=true)→aC ρ (l.map .lit)=some l
 | [],_=>rfl
 | v :: l,h=>by
  have:=h v (by simp);simp [aC,SC.den,SC.scalar,this,gM l (fun u hu=>h u (by simp [hu]))]
theorem wP {ρ:Env}{v:Value}(h:pO v≠.top):(pO v).den ρ=some v:=by
 unfold pO at h ⊢;split at h
 ·rename_i cs;split at h
  ·rename_i hs;simp only [hs,if_true,SV.den,bO];rw [gM _ (fun v hv=>Array.all_eq_true'.1 hs v (by simpa using hv))]
  ·exact absurd rfl h
 ·rename_i vs;split at h
  ·rename_i hs;have:vs=#[]:=je hs;subst this;simp [SV.den,gG]
  ·exact absurd rfl h
 ·rename_i x h1 h2;rfl
def Ok (ρ:Env) (sv:SV) (v:Value):Prop:=sv=.top∨sv.den ρ=some v
theorem fX {ρ:Env}{tm:Tmp→SV}{a:Act}{x:Operand}(h:∀t,x=.tmp t→Ok ρ (tm t) (a.tmps.getD t undef)) (hx:opnd tm x≠.top) :
 (opnd tm x).den ρ=some (a.eval x):=by
 cases x with
 | tmp t=>exact (h t rfl).resolve_left hx
 | const v=>exact wP hx
 | func f=>rfl
 | global g=>exact absurd rfl hx
theorem lG {P:Program}{ρ:Env}(hE:ρ.Ok) {t:TypeId}{cs:List SC}{off:Nat}{sv:SV}{vs:List Value}(h:mM P t cs off=some sv) (hv:aC ρ cs=some vs) :
 (∃m,cZ P t=some true∧bN P t=some m∧off+m≤vs.length∧sv.den ρ=some (.agg (vs.toArray.extract off (off+m))))∨
 (∃m v,cZ P t=some false∧bN P t=some m∧vs[off]?=some v∧sv.den ρ=some v):=by
 unfold mM at h;split at h
 ·rename_i m h1 h2;cases hc:rY off m cs with
  | none=>simp [hc]at h
  | some l=>
   simp only [hc,jl]at h;injection h with h;subst h;obtain⟨i1,i2⟩:=dY hE hc hv;refine .inl ⟨m,h1,h2,i2,?_⟩;simp only [bO,SV.den,i1];simp [List.extract_eq_take_drop]
 ·rename_i m h1 h2;split at h
  ·rename_i c hc;split at h
   ·rename_i hs;injection h with h;subst h;obtain⟨i1,i2⟩:=dY hE hc hv;rw [kP hs]at i1;have hlt:off<vs.length:=oq
    refine .inr ⟨m,vs[off],h1,h2,by simp [hlt],?_⟩;cases hd:c.den ρ with
    | none=>rw [hd]at i1;cases i1
    | some v=>
     rw [hd]at i1;rw [xl hlt]at i1;simp only [jl,List.take_succ_cons,List.take_zero]at i1;injection i1 with i1;injection i1 with i1;simp only [SV.den,hd,i1]
   ·cases h
  ·cases h
 ·cases h
def aEr:BinOp→Bool
 | .eql | .neq | .lss | .leq | .gtr | .geq=>true
 | _=>false
def wordless (kd:Nat→Option LK):SC→Bool
 | .var i=>match kd i with
  | some (.int .u64)=>false
  | some _=>true
  | none=>false
 | .lit v=>v.noWord
 | .bin 0 op a _=>aEr op || wordless kd a
 | .bin 8 _ _ b=>wordless kd b
 | .bin 10 _ _ b=>wordless kd b
 | .neg a=>wordless kd a
 | .conv k _=>k != .u64
 | .pick _ a b=>wordless kd a && wordless kd b
 | .slr i=>match kd i with
  | some .slice=>true
  | _=>false
 | .upd _ _ _ _ _ y=>wordless kd y
 | .cat a b=>wordless kd a && wordless kd b
 | .cel _ _ _ _=>false
 | _=>true
theorem vJ {cl:Nat}{op:BinOp}{x y v:Value}(h:nD cl op x y=some v) (hy:cl=8∨cl=10→y.noWord=true):v.noWord=true:=by
 unfold nD at h;split at h
 ·split at h
  ·split at h <;> first|(injection h with h;subst h;rfl)|cases h
  ·cases h
 case h_6=>
  injection h with h;subst h;have:=hy (.inl rfl);rename_i d _;cases d <;> first|rfl|cases this
 case h_8=>
  injection h with h;subst h;exact hy (.inr rfl)
 all_goals first|(injection h with h;subst h;rfl)|(split at h <;> first|(injection h with h;subst h;rfl)|(split at h <;> first|(injection h with h;subst h;rfl)|cases h)|cases h)|cases h
theorem vH {cl:Nat}{op:BinOp}{x y v:Value}(h:dQ cl op x y=some v) (hx:cl=0→aEr op=true∨x.noWord=true) (hy:cl=8∨cl=10→y.noWord=true):v.noWord=true:=by
 unfold dQ at h;split at h
 ·rename_i k i k' j;have hx:=hx rfl;have hk:aEr op=true∨∀n,(Value.int k n).noWord=true:=by
   rcases hx with hx|hx
   ·exact .inl hx
   ·refine .inr fun n=>?_;cases k <;> first|rfl|cases hx
  cases op <;> simp only at h
  all_goals (try split at h)
  all_goals (try cases h)
  all_goals first|rfl|(rcases hk with hk|hk <;> first|exact hk _|cases hk)
 ·cases op <;> simp only at h <;> cases h <;> rfl
 ·cases op <;> simp only at h <;> cases h <;> rfl
 ·exact vJ h hy
theorem vB {ρ:Env}(hE:ρ.Ok):∀ {c:SC}{v:Value},wordless ρ.kd c=true→c.den ρ=some v→v.noWord=true:=by
 intro c
 induction c with
 | var i=>
  intro v hw h;simp only [SC.den]at h;split at h
  ·cases h
  ·cases h
  ·rename_i h1 h2;simp only [wordless]at hw;split at hw
   ·cases hw
   ·rename_i k hne hk;have:=hE i k v hk h;cases k with
    | bool=>obtain⟨b,rfl⟩:=this;rfl
    | int k=>obtain⟨b,rfl⟩:=this;cases k <;> first|rfl|exact (hne rfl).elim
    | str=>obtain⟨b,rfl⟩:=this;rfl
    | slice=>obtain⟨A,n,c,rfl⟩:=this;rfl
    | any=>exact this.2
    | seg m=>obtain⟨b,rfl,_⟩:=this;rfl
    | row=>obtain⟨b,rfl,_⟩:=this;rfl
    | map=>obtain⟨b,rfl⟩:=this;rfl
    | flt k=>obtain⟨b,rfl⟩:=this;rfl
    | cpx k=>obtain⟨a,b,rfl⟩:=this;rfl
   ·cases hw
 | lit u=>intro v hw h;simp only [SC.den]at h;injection h with h;subst h;exact hw
 | ptr b o=>intro v _ h;simp only [SC.den]at h;split at h <;> cases h;rfl
 | sl b o n c=>intro v _ h;simp only [SC.den]at h;split at h <;> cases h;rfl
 | seg i m=>intro v _ h;cases h
 | part x N i s j m _=>intro v _ h;cases h
 | upd x N i s j y _ _=>intro v _ h;cases h
 | cat a b _ _=>intro v _ h;cases h
 | fn f caps=>intro v _ h;simp only [SC.den]at h;split at h <;> cases h;rfl
 | fnb f b c=>intro v _ h;simp only [SC.den]at h;split at h <;> cases h;rfl
 | bin cl op a b iha ihb=>
  intro v hw h;simp only [SC.den]at h;split at h
  ·rename_i x y h1 h2;refine vH h (fun hc=>?_) fun hc=>?_
   ·subst hc;simp only [wordless,zh]at hw;exact hw.imp id (fun hw=>iha hw h1)
   ·rcases hc with rfl|rfl <;> exact ihb hw h2
  ·cases h
 | pick c a b ihc iha ihb=>
  intro v hw h;simp only [wordless,qc]at hw;simp only [SC.den]at h;split at h
  ·rename_i x y z h1 h2 h3;obtain⟨c0,rfl,rfl⟩:=mN h;split
   ·exact iha hw.1 h2
   ·exact ihb hw.2 h3
  ·cases h
 | neg a ih=>
  intro v hw h;simp only [SC.den,ql]at h;obtain⟨x,h1,h⟩:=h;have:=ih hw h1;unfold aCo at h;split at h <;> cases h
  ·rename_i k n;cases k <;> first|rfl|cases this
  ·rfl
 | conv k a _=>
  intro v hw h;simp only [SC.den,ql]at h;obtain⟨x,_,h⟩:=h;unfold sL at h;split at h <;> cases h;cases k <;> first|rfl|(simp [wordless]at hw)
 | idx a b _ _=>intro v _ h;simp only [SC.den]at h;(split at h <;> first|(unfold pE at h;split at h <;> cases h;rfl)|cases h)
 | le a b _ _=>intro v _ h;simp only [SC.den]at h;(split at h <;> first|(unfold leD at h;split at h <;> cases h;rfl)|cases h)
 | fit a b _ _=>intro v _ h;simp only [SC.den]at h;(split at h <;> first|(unfold aJp at h;split at h <;> cases h;rfl)|cases h)
 | byte a b _ _=>intro v _ h;simp only [SC.den]at h;(split at h <;> first|(unfold aAc at h;split at h <;> cases h;rfl)|cases h)
 | sub a b c _ _ _=>intro v _ h;simp only [SC.den]at h;(split at h <;> first|(unfold aLb at h;split at h <;> cases h;rfl)|cases h)
 | not a _=>intro v _ h;simp only [SC.den,ql]at h;obtain⟨x,_,h⟩:=h;unfold wO at h;split at h <;> cases h;rfl
 | len a _=>intro v _ h;simp only [SC.den,ql]at h;obtain⟨x,_,h⟩:=h;unfold lB at h;split at h <;> cases h <;> rfl
 | isSl st a _=>intro v _ h;simp only [SC.den,ql]at h;obtain⟨x,_,h⟩:=h;unfold wF at h;split at h <;> cases h <;> rfl
 | nz a _=>intro v _ h;simp only [SC.den,ql]at h;obtain⟨x,_,h⟩:=h;unfold nzD at h;split at h <;> cases h;rfl
 | cap a _=>intro v _ h;simp only [SC.den,ql]at h;obtain⟨x,_,h⟩:=h;unfold aMu at h;split at h <;> cases h;rfl
 | psl p o n c=>intro v _ h;simp only [SC.den]at h;split at h <;> cases h;rfl
 | cel x i s k _=>intro v hw;cases hw
 | slr i=>
  intro v hw h;simp only [SC.den]at h;split at h
  ·cases h
  ·cases h
  ·simp only [wordless]at hw;split at hw
   ·rename_i hk;obtain⟨A,n,c,rfl⟩:=hE i _ v hk h;rfl
   ·cases hw
 | elem a i s j _ _=>intro v _ h;simp only [SC.den]at h;split at h;· (obtain⟨_,_,_,_,_,_,_,_,_,_,rfl⟩:=dG h;rfl)
                     ·cases h
 | slc a lo hi s _ _ _=>intro v _ h;simp only [SC.den]at h;split at h;· (obtain⟨_,_,_,_,_,_,_,_,_,_,_,_,_,rfl⟩:=pQ h;rfl)
                        ·cases h
theorem bT {ρ:Env}(hE:ρ.Ok):∀ {cs:List SC}{vs:List Value},cs.all (wordless ρ.kd)=true→aC ρ cs=some vs→∀u∈vs,u.noWord=true
 | [],vs,_,h=>by simp only [aC]at h;injection h with h;subst h;simp
 | c :: cs,vs,hw,h=>by
  obtain⟨a,b,h1,h2,rfl⟩:=cC h;simp only [wu,qc]at hw;intro u hu;rcases qs.1 hu with hu|hu
  ·rcases lA hE h1 with ⟨_,hm⟩|⟨v,hs,hd,rfl⟩
   ·exact (hm u hu).2
   ·simp at hu;subst hu;exact vB hE hw.1 hd
  ·exact bT hE hw.2 h2 u hu
