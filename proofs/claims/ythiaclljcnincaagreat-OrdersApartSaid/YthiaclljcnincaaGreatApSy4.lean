/- A symbolic executor of the model's code: lists of cells, operands. -/
import Derived.Test.YthiaclljcnincaaGreatApSy3
namespace Go.Proofs.YthiaclljcnincaaGreat.Sy
open Go.RowKit
theorem eW {ρ:Env}{c:SC}(h:c.isRun=true) (cs:List SC):aC ρ (c :: cs)=(match eJ ρ c,aC ρ cs with
 | some l,some us=>some (l++us)
 | _,_=>none):=by
 cases c <;> first|rfl|cases h
theorem cF {ρ:Env}{c:SC}(h:c.isRun=false) (hn:∀i m,c=.seg i m→False) (cs:List SC):aC ρ (c :: cs)=if c.scalar then (match c.den ρ,aC ρ cs with
 | some v,some us=>some (v :: us)
 | _,_=>none) else none:=by
 cases c <;> first|rfl|exact (hn _ _ rfl).elim|cases h
theorem pL (xs:Array Value) (p m:Nat):(pickL xs p m).length=m:=by simp [pickL]
theorem aJd {q:Value→Prop}{xs:Array Value}{p m:Nat}(h:∀u∈xs.toList,q u) (h0:q (.bool false)):∀u∈pickL xs p m,q u:=by
 intro u hu;unfold pickL at hu;obtain⟨i,_,rfl⟩:=xh.1 hu;cases hx:xs[p+i]? with
 | none=>exact h0
 | some v=>exact h v (by rw [jz];exact Array.mem_of_getElem? hx)
theorem aAx {q:Value→Prop}:∀ {l:List Value}{xs:Array Value}{o:Nat},(∀u∈xs.toList,q u)→(∀u∈l,q u)→∀u∈(over xs o l).toList,q u
 | [],_,_,h,_=>h
 | v :: l,xs,o,h,h'=>by
  unfold over;refine aAx (fun u hu=>?_) fun u hu=>h' u (List.mem_cons_of_mem _ hu);rw [xq]at hu;rcases kn hu with hu|hu
  ·exact h u hu
  ·rw [hu];exact h' v (List.mem_cons_self ..)
theorem aGz {vs:Array Value}{p:Nat}{v:Value}(h:aCd vs p=some v):vs[p]?=some v:=by
 unfold aCd at h;split at h <;> simp_all
theorem zM {vs:Array Value}{p:Nat}{v:Value}(h:aCd vs p=some v):v.scalar=true:=by
 unfold aCd at h;split at h
 ·cases h
 ·cases h
 ·rename_i h1 h2;cases v <;> first|rfl|exact absurd h (by first|exact h1 _|exact h2 _)
theorem aIq {o:Option Value}{us:List Value}(h:aDh o=some us):us.length=1∧∀u∈us,u.scalar=true∧u.noWord=true:=by
 unfold aDh at h;split at h
 ·split at h
  ·rename_i hc;injection h with h;subst h;simpa [Bool.and_eq_true] using hc
  ·cases h
 ·cases h
theorem aKi {ρ:Env}(hE:ρ.Ok):∀ {c:SC}{us:List Value},eJ ρ c=some us→us.length=c.width∧∀u∈us,u.scalar=true∧u.noWord=true:=by
 intro c
 induction c with
 | part x N i s j m _=>
  intro us h;simp only [eJ]at h;split at h
  ·rename_i vs k kk I h1 h2 h3;split at h
   ·injection h with h;subst h;obtain⟨cs,e,e1,e2⟩:=hE _ _ _ h2 h1;injection e with e;subst e;exact⟨pL _ _ _,aJd e2 ⟨rfl,rfl⟩⟩
   ·cases h
  ·cases h
 | upd x N i s j y _ ih=>
  intro us h;simp only [eJ]at h;split at h
  ·rename_i vs k kk I us' h1 h2 h3 h4;split at h
   ·rename_i hk;injection h with h;subst h;obtain⟨cs,e,e1,e2⟩:=hE _ _ _ h2 h1;injection e with e;subst e;refine⟨?_,aAx e2 (ih h4).2⟩;rw [ja,over_size,e1,hk];rfl
   ·cases h
  ·cases h
 | seg x m=>
  intro us h;simp only [eJ]at h;split at h
  ·rename_i vs k h1 h2;split at h
   ·rename_i hk;injection h with h;subst h;obtain⟨cs,e,e1,e2⟩:=hE _ _ _ h2 h1;injection e with e;subst e;exact⟨by rw [ja,e1,hk];rfl,e2⟩
   ·cases h
  ·cases h
 | cat a b iha ihb=>
  intro us h;simp only [eJ]at h;split at h
  ·rename_i u v h1 h2;injection h with h;subst h;obtain⟨a1,a2⟩:=iha h1;obtain⟨b1,b2⟩:=ihb h2;refine⟨by rw [od,a1,b1];rfl,fun x hx=>?_⟩;rcases qd.1 hx with hx|hx
   ·exact a2 x hx
   ·exact b2 x hx
  ·cases h
 | _=>intro us h;exact aIq h
theorem qC {ρ:Env}{c:SC}(hc:c.scalar=false) {us:List Value}(h:aC ρ [c]=some us):eJ ρ c=some us:=by
 cases c with
 | part x N i s j m=>
  simp only [aC]at h;split at h
  ·rename_i h1 h2;injection h2 with h2;injection h with h;subst h2;rw [qo]at h;subst h;exact h1
  ·cases h
 | upd x N i s j y=>
  simp only [aC]at h;split at h
  ·rename_i h1 h2;injection h2 with h2;injection h with h;subst h2;rw [qo]at h;subst h;exact h1
  ·cases h
 | seg x m=>
  simp only [aC]at h;split at h
  ·rename_i vs k us' h1 h2 h3;injection h3 with h3;subst h3;simp only [eJ,h1,h2];rw [qo]at h;exact h
  ·cases h
 | _=>
  rw [cF rfl (fun i m e=>by cases e)]at h;rw [oh (by rw [hc];simp)]at h;cases h
theorem wC (vs:Array Value) (p m a:Nat) (h:a≤m):pickL vs p m=pickL vs p a++pickL vs (p+a) (m-a):=by
 apply wj;intro q;unfold pickL;simp only [jn,jb,List.length_map,List.length_range]
 by_cases h1:q<a
 ·rw [og h1,xz h1,xz oq]
 ·rw [oh h1]
  by_cases h2:q<m
  ·rw [xz h2,xz oq];simp only [je]
   congr 3
   omega
  ·rw [ob (by simpa using zw h2),ob (by simp;omega)];rfl
theorem xT (vs:Array Value):pickL vs 0 vs.size=vs.toList:=by
 apply wj;intro q;unfold pickL;simp only [jb,qc]
 by_cases h1:q<vs.size
 ·rw [xz h1,qi (by simpa using h1)];simp [Array.getElem?_eq_getElem h1]
 ·rw [ob (by simpa using zw h1),ob (by simpa using zw h1)];rfl
theorem aHc {ρ:Env}(hE:ρ.Ok) {c c1 c2:SC}{a:Nat}{us:List Value}(h:aTc c a=some (c1,c2)) (ha:a≤c.width) (hu:aC ρ [c]=some us):aC ρ [c1]=some (us.take a)∧aC ρ [c2]=some (us.drop a):=by
 have hr:=qC (by cases c <;> first|rfl|cases h) hu
 cases c with
 | part x N i s j m=>
  simp only [aTc]at h;injection h with h;injection h with h1 h2;subst h1 h2;simp only [SC.width]at ha;simp only [eJ]at hr;split at hr
  ·rename_i vs k kk I e1 e2 e3;split at hr
   ·rename_i hk;injection hr with hr;rw [wC _ _ m a ha]at hr;subst hr;simp only [aC,eJ,e1,e2,e3,hk,if_true,qo];have hl:(pickL vs (I.toNat*s+j) a).length=a:=pL _ _ _;constructor
    ·rw [List.take_append_of_le_length oq,wm oq]
    ·rw [List.drop_append,hl,List.drop_of_length_le oq,Nat.sub_self,List.drop_zero,wn,xr]
   ·cases hr
  ·cases hr
 | seg x N=>
  simp only [aTc]at h;injection h with h;injection h with h1 h2;subst h1 h2;simp only [SC.width]at ha;simp only [eJ]at hr;split at hr
  ·rename_i vs k e1 e2;split at hr
   ·rename_i hk;injection hr with hr;obtain⟨cs,e,e3,_⟩:=hE _ _ _ e2 e1;injection e with e;subst e;have hsz:vs.size=N:=by rw [e3,hk]
    rw [←xT,hsz,wC _ _ N a ha]at hr;subst hr;simp only [aC,eJ,e1,e2,SC.den,hk,if_true,qo,Int.toNat_zero,xf,qc];have hl:(pickL vs 0 a).length=a:=pL _ _ _;constructor
    ·rw [List.take_append_of_le_length oq,wm oq]
    ·rw [List.drop_append,hl,List.drop_of_length_le oq,Nat.sub_self,List.drop_zero,wn]
   ·cases hr
  ·cases hr
 | _=>cases h
theorem cM {ρ:Env}{c:SC}{cs:List SC}{vs:List Value}(h:aC ρ (c :: cs)=some vs) :
 ∃us ws,aC ρ [c]=some us∧aC ρ cs=some ws∧vs=us++ws:=by
 by_cases hrun:c.isRun=true
 ·rw [eW hrun]at h ⊢;split at h
  ·rename_i l us h1 h2;injection h with h;exact⟨l,us,by simp only [h1,aC,qo],h2,h.symm⟩
  ·cases h
 have hrun:c.isRun=false:=by simpa using hrun
 by_cases hseg:∃i m,c=.seg i m
 ·obtain⟨i,m,rfl⟩:=hseg;simp only [aC]at h ⊢;split at h
  ·rename_i avs k us h1 h2 h3;split at h
   ·rename_i hm;injection h with h;exact⟨avs.toList,us,by simp [h1,h2,hm],h3,h.symm⟩
   ·cases h
  ·cases h
 ·have hn:∀i m,c=.seg i m→False:=fun i m e=>hseg ⟨i,m,e⟩;rw [cF hrun hn]at h ⊢;split at h
  ·rename_i hs;split at h
   ·rename_i v us h1 h2;injection h with h;exact⟨[v],us,by simp only [hs,h1,aC,if_true],h2,by rw [←h];rfl⟩
   ·cases h
  ·cases h
theorem dT {ρ:Env}{c:SC}{cs:List SC}{us ws:List Value}(h:aC ρ [c]=some us) (h':aC ρ cs=some ws):aC ρ (c :: cs)=some (us++ws):=by
 by_cases hrun:c.isRun=true
 ·rw [eW hrun]at h ⊢;split at h
  ·rename_i l us' h1 h2;simp only [aC]at h2;injection h2 with h2;injection h with h;simp only [h1,h',←h,←h2,qo]
  ·cases h
 have hrun:c.isRun=false:=by simpa using hrun
 by_cases hseg:∃i m,c=.seg i m
 ·obtain⟨i,m,rfl⟩:=hseg;simp only [aC]at h ⊢;split at h
  ·rename_i avs k us' h1 h2 h3;injection h3 with h3;split at h
   ·rename_i hm;injection h with h;simp [h1,h2,h',hm,←h,←h3]
   ·cases h
  ·cases h
 ·have hn:∀i m,c=.seg i m→False:=fun i m e=>hseg ⟨i,m,e⟩;rw [cF hrun hn]at h ⊢;split at h
  ·rename_i hs;split at h
   ·rename_i v us' h1 h2;injection h with h;simp only [aC]at h2;injection h2 with h2;subst h2 h;simp only [hs,h1,h',if_true];rfl
   ·cases h
  ·cases h
theorem iW {ρ:Env}:∀ {l r:List SC}{us ws:List Value},aC ρ l=some us→aC ρ r=some ws→aC ρ (l++r)=some (us++ws)
 | [],r,us,ws,h,h'=>by simp only [aC]at h;injection h with h;subst h;simpa using h'
 | c :: l,r,us,ws,h,h'=>by
  obtain⟨a,b,h1,h2,rfl⟩:=cM h;rw [List.cons_append,List.append_assoc];exact dT h1 (iW h2 h')
theorem mQ {ρ:Env}(hE:ρ.Ok) {c:SC}{us:List Value}(h:aC ρ [c]=some us) :
 (us.length=c.width∧∀u∈us,u.scalar=true∧u.noWord=true)∨(∃v,c.scalar=true∧c.den ρ=some v∧us=[v]):=by
 by_cases hrun:c.isRun=true
 ·rw [eW hrun]at h;split at h
  ·rename_i l us' h1 h2;simp only [aC]at h2;injection h2 with h2;injection h with h;subst h2;rw [qo]at h;subst h;exact .inl (aKi hE h1)
  ·cases h
 have hrun:c.isRun=false:=by simpa using hrun
 by_cases hseg:∃i m,c=.seg i m
 ·obtain⟨i,m,rfl⟩:=hseg;simp only [aC]at h;split at h
  ·rename_i avs k us' h1 h2 h3;injection h3 with h3;split at h
   ·rename_i hm;injection h with h;obtain⟨cs,e,e1,e2⟩:=hE _ _ _ h2 h1;injection e with e;subst e;subst h3;rw [qo]at h;subst h;exact .inl ⟨by simpa [SC.width] using (by omega:avs.size=m),e2⟩
   ·cases h
  ·cases h
 ·have hn:∀i m,c=.seg i m→False:=fun i m e=>hseg ⟨i,m,e⟩;rw [cF hrun hn]at h;split at h
  ·rename_i hs;split at h
   ·rename_i v us' h1 h2;injection h with h;simp only [aC]at h2;injection h2 with h2;subst h2;exact .inr ⟨v,hs,h1,h.symm⟩
   ·cases h
  ·cases h
theorem iC {ρ:Env}(hE:ρ.Ok) {c:SC}{us:List Value}(h:aC ρ [c]=some us):us.length=c.width:=by
 rcases mQ hE h with ⟨hm,_⟩|⟨v,hs,_,rfl⟩
 ·exact hm
 ·cases c <;> first|rfl|(cases hs;done)
theorem cQ {ρ:Env}(hE:ρ.Ok):∀ {cs:List SC}{vs:List Value},aC ρ cs=some vs→vs.length=widths cs
 | [],vs,h=>by simp only [aC]at h;injection h with h;subst h;rfl
 | c :: cs,vs,h=>by
  obtain⟨a,b,h1,h2,rfl⟩:=cM h;rw [od,iC hE h1,cQ hE h2,widths]
theorem gJ {ρ:Env}(hE:ρ.Ok):∀ {cs:List SC}{o:Nat}{l r:List SC}{vs:List Value},jX o cs=some (l,r)→aC ρ cs=some vs→
 aC ρ l=some (vs.take o)∧aC ρ r=some (vs.drop o)∧o≤vs.length
 | cs,0,l,r,vs,h,hv=>by
  simp only [jX]at h;injection h with h;injection h with h1 h2;subst h1 h2;exact⟨by simp [aC],by simpa using hv,jx _⟩
 | [],o+1,l,r,vs,h,hv=>by simp [jX]at h
 | c :: cs,o+1,l,r,vs,h,hv=>by
  simp only [jX]at h;split at h
  ·cases h
  split at h
  ·rename_i hw0 hw;split at h
   ·rename_i l' r' hs;injection h with h;injection h with h1 h2;subst h1 h2;obtain⟨a,b,h1,h2,rfl⟩:=cM hv;obtain⟨i1,i2,i3⟩:=gJ hE hs h2;have hl:=iC hE h1;refine⟨?_,?_,?_⟩
    ·have:=dT h1 i1;rw [this,List.take_append,wm (show a.length≤o+1 by omega),hl]
    ·rw [i2,List.drop_append,List.drop_of_length_le (show a.length≤o+1 by omega),hl];rfl
    ·rw [od];omega
   ·cases h
  ·rename_i hw0 hw;split at h
   ·rename_i c1 c2 hc;injection h with h;injection h with h1 h2;subst h1 h2;obtain⟨a,b,g1,g2,rfl⟩:=cM hv;have hl:=iC hE g1;obtain⟨k1,k2⟩:=aHc hE hc oq g1;refine⟨?_,?_,by rw [od];omega⟩
    ·rw [k1,List.take_append_of_le_length oq]
    ·rw [dT k2 g2,List.drop_append_of_le_length oq]
   ·cases h
theorem fE {ρ:Env}(hE:ρ.Ok) {cs l:List SC}{o m:Nat}{vs:List Value}(h:cutW o m cs=some l) (hv:aC ρ cs=some vs) :
 aC ρ l=some ((vs.drop o).take m)∧o+m≤vs.length:=by
 unfold cutW at h;split at h
 ·rename_i l1 r1 h1;split at h
  ·rename_i l2 r2 h2;injection h with h;subst h;obtain⟨_,i2,i3⟩:=gJ hE h1 hv;obtain⟨j1,_,j3⟩:=gJ hE h2 i2;exact⟨j1,by rw [List.length_drop]at j3;omega⟩
  ·cases h
 ·cases h
theorem over_eq:∀(l:List Value) (cs:Array Value) (o:Nat),o+l.length≤cs.size→(over cs o l).toList=cs.toList.take o++l++cs.toList.drop (o+l.length)
 | [],cs,o,h=>by simp [over]
 | v :: l,cs,o,h=>by
  simp only [qk]at h;unfold over;rw [over_eq l _ _ (by simp;omega)];simp only [xq,qk];have hl:o<cs.toList.length:=by simpa using (by omega:o<cs.size)
  have hl2:cs.toList.length=cs.size:=ja;rw [List.take_set,List.drop_set_of_lt oq,List.take_succ_eq_append_getElem hl];have e:(List.take o cs.toList++[cs.toList[o]]).set o v=List.take o cs.toList++[v]:=by
   rw [List.set_append_right _ _ (by rw [kz];omega),kz];have:o-min o cs.toList.length=0:=oq
   rw [this];rfl
  rw [e];have e2:o+1+l.length=o+(l.length+1):=oq
  simp [e2]
theorem mZ {ρ:Env}(hE:ρ.Ok) {cs new l:List SC}{o:Nat}{vs us:List Value}(h:tP o new cs=some l) (hv:aC ρ cs=some vs) (hu:aC ρ new=some us) :
 aC ρ l=some (over vs.toArray o us).toList∧o+us.length≤vs.length:=by
 unfold tP at h;split at h
 ·rename_i l1 r1 h1;split at h
  ·rename_i l2 r2 h2;injection h with h;subst h;obtain⟨i1,i2,i3⟩:=gJ hE h1 hv;obtain⟨_,j2,j3⟩:=gJ hE h2 i2;have hlen:=cQ hE hu;rw [List.length_drop]at j3;have hle:o+us.length≤vs.length:=oq
   refine⟨?_,hle⟩;rw [over_eq _ _ _ (by simpa using hle)];have:=iW (iW i1 hu) j2;rw [this,List.drop_drop,hlen]
  ·cases h
 ·cases h
theorem zH {cl:Nat}{op:BinOp}{a b v:Value}(h:mO cl op a b=some v):v.scalar=true:=by
 unfold mO at h;split at h
 ·split at h
  ·split at h <;> first|(injection h with h;subst h;rfl)|cases h
  ·cases h
 all_goals first|(injection h with h;subst h;rfl)|(split at h <;> first|(injection h with h;subst h;rfl)|(split at h <;> first|(injection h with h;subst h;rfl)|cases h)|cases h)|cases h
theorem zF {cl:Nat}{op:BinOp}{a b v:Value}(h:eL cl op a b=some v):v.scalar=true:=by
 unfold eL at h;split at h
 ·split at h
  ·injection h with h;subst h;rfl
  ·injection h with h;subst h;rfl
  ·split at h
   ·split at h <;> first|(injection h with h;subst h;rfl)|cases h
   ·cases h
 ·split at h <;> first|(injection h with h;subst h;rfl)|cases h
 ·split at h <;> first|(injection h with h;subst h;rfl)|cases h
 ·exact zH h
theorem rW {x:Option Value}{v:Value}(h:flat x=some v):x=some v∧v.scalar=true:=by
 unfold flat at h;split at h
 ·cases h
 ·cases h
 ·rename_i h1 h2;refine⟨h,?_⟩;subst h;cases v <;> first|rfl|exact (h1 _ rfl).elim|exact (h2 _ rfl).elim
theorem dU {s j:Nat}{x y v:Value}(h:kG s j x y=some v):∃b o n c k i,x=.slice (some ⟨b,o,none⟩) n c∧y=.int k i∧0≤i∧i<n∧v=.pointer (some ⟨b,o+i.toNat*s+j,none⟩):=by
 unfold kG at h;split at h
 ·split at h
  ·rename_i hr;injection h with h;exact⟨_,_,_,_,_,_,rfl,rfl,hr.1,hr.2,h.symm⟩
  ·cases h
 ·cases h
theorem sE {s:Nat}{x y z v:Value}(h:slcD s x y z=some v):∃A n c k lo k' hi,x=.slice A n c∧y=.int k lo∧z=.int k' hi∧0≤lo∧lo≤hi∧hi≤c∧
 v=.slice (if c=lo.toNat then A else A.map fun a=>a.add (lo.toNat*s)) (hi.toNat-lo.toNat) (c-lo.toNat):=by
 unfold slcD at h;split at h
 ·split at h
  ·rename_i hr;injection h with h;exact⟨_,_,_,_,_,_,_,rfl,rfl,rfl,hr.1,hr.2.1,hr.2.2,h.symm⟩
  ·cases h
 ·cases h
theorem jU {ρ:Env}:∀ {c:SC}{v:Value},c.scalar=true→c.den ρ=some v→v.scalar=true:=by
 intro c
 induction c with
 | var i=>
  intro v _ h;simp only [SC.den]at h;split at h
  ·cases h
  ·cases h
  ·rename_i h1 h2;cases v <;> first|rfl|exact absurd h (by first|exact h1 _|exact h2 _)
 | lit u=>intro v hs h;simp only [SC.den]at h;injection h with h;subst h;exact hs
 | ptr b o=>intro v _ h;simp only [SC.den]at h;split at h <;> cases h;rfl
 | sl b o n c=>intro v _ h;simp only [SC.den]at h;split at h <;> cases h;rfl
 | seg i m=>intro v hs h;cases hs
 | part x N i s j m _=>intro v hs h;cases hs
 | upd x N i s j y _ _=>intro v hs h;cases hs
 | cat a b _ _=>intro v hs h;cases hs
 | fn f caps=>intro v _ h;simp only [SC.den]at h;split at h <;> cases h;rfl
 | fnb f b c=>intro v _ h;simp only [SC.den]at h;split at h <;> cases h;rfl
 | bin cl op a b iha ihb=>intro v _ h;simp only [SC.den]at h;split at h <;> first|exact zF h|cases h
 | pick c a b ihc iha ihb=>
  intro v hs h;simp only [SC.scalar,qf]at hs;simp only [SC.den]at h;split at h
  ·rename_i x y z h1 h2 h3;obtain⟨c0,rfl,rfl⟩:=oJ h;split
   ·exact iha hs.1 h2
   ·exact ihb hs.2 h3
  ·cases h
 | idx a b _ _=>intro v _ h;simp only [SC.den]at h;(split at h <;> first|(unfold tJ at h;split at h <;> cases h;rfl)|cases h)
 | le a b _ _=>intro v _ h;simp only [SC.den]at h;(split at h <;> first|(unfold leD at h;split at h <;> cases h;rfl)|cases h)
 | fit a b _ _=>intro v _ h;simp only [SC.den]at h;(split at h <;> first|(unfold aTk at h;split at h <;> cases h;rfl)|cases h)
 | byte a b _ _=>intro v _ h;simp only [SC.den]at h;(split at h <;> first|(unfold aEw at h;split at h <;> cases h;rfl)|cases h)
 | sub a b c _ _ _=>intro v _ h;simp only [SC.den]at h;(split at h <;> first|(unfold aVl at h;split at h <;> cases h;rfl)|cases h)
 | not a _=>intro v _ h;simp only [SC.den,qp]at h;obtain⟨x,_,h⟩:=h;unfold aDc at h;split at h <;> cases h;rfl
 | neg a _=>intro v _ h;simp only [SC.den,qp]at h;obtain⟨x,_,h⟩:=h;unfold aNj at h;split at h <;> cases h <;> rfl
 | conv k a _=>intro v _ h;simp only [SC.den,qp]at h;obtain⟨x,_,h⟩:=h;unfold zQ at h;split at h <;> cases h;rfl
 | len a _=>intro v _ h;simp only [SC.den,qp]at h;obtain⟨x,_,h⟩:=h;unfold oA at h;split at h <;> cases h <;> rfl
 | isSl st a _=>intro v _ h;simp only [SC.den,qp]at h;obtain⟨x,_,h⟩:=h;unfold aAi at h;split at h <;> cases h <;> rfl
 | nz a _=>intro v _ h;simp only [SC.den,qp]at h;obtain⟨x,_,h⟩:=h;unfold nzD at h;split at h <;> cases h;rfl
 | cap a _=>intro v _ h;simp only [SC.den,qp]at h;obtain⟨x,_,h⟩:=h;unfold aXv at h;split at h <;> cases h;rfl
 | slr i=>
  intro v _ h;simp only [SC.den]at h;split at h
  ·cases h
  ·cases h
  ·rename_i h1 h2;cases v <;> first|rfl|exact absurd h (by first|exact h1 _|exact h2 _)
 | psl p o n c=>intro v _ h;simp only [SC.den]at h;split at h <;> cases h;rfl
 | cel x i s _=>intro v _ h;simp only [SC.den]at h;split at h;· exact zM h
                ·cases h
 | elem a i s j _ _=>intro v _ h;simp only [SC.den]at h;split at h;· (obtain⟨_,_,_,_,_,_,_,_,_,_,rfl⟩:=dU h;rfl)
                     ·cases h
 | slc a lo hi s _ _ _=>intro v _ h;simp only [SC.den]at h;split at h;· (obtain⟨_,_,_,_,_,_,_,_,_,_,_,_,_,rfl⟩:=sE h;rfl)
                        ·cases h
theorem jT {v:Value}(h:v.scalar=true):v.cells=#[v]:=by
 cases v <;> first|rfl|(simp [Value.scalar]at h)
theorem lZ {ρ:Env}{c:SC}(hc:c.scalar=true):aC ρ [c]=(c.den ρ).map (fun v=>[v]):=by
 rw [cF (by cases c <;> first|rfl|cases hc) (fun i m e=>by rw [e]at hc;cases hc)]
 simp only [hc,if_true,aC];cases c.den ρ <;> rfl
theorem cD {ρ:Env}(hE:ρ.Ok):∀ {cs:List SC}{vs:List Value},aC ρ cs=some vs→∀u∈vs,u.scalar=true
 | [],vs,h=>by simp only [aC]at h;injection h with h;subst h;simp
 | c :: cs,vs,h=>by
  obtain⟨a,b,h1,h2,rfl⟩:=cM h;intro u hu;rcases qd.1 hu with hu|hu
  ·rcases mQ hE h1 with ⟨_,hm⟩|⟨v,hs,hd,rfl⟩
   ·exact (hm u hu).1
   ·simp at hu;subst hu;exact jU hs hd
  ·exact cD hE h2 u hu
theorem cells?_spec {ρ:Env}{sv:SV}{cs:List SC}{v:Value}(h:sv.cells?=some cs) (hv:sv.den ρ=some v):aC ρ cs=some v.cells.toList:=by
 cases sv with
 | one c=>
  simp only [SV.cells?]at h;split at h
  ·rename_i hc;injection h with h;subst h;simp only [SV.den]at hv;rw [lZ hc,hv,jT (jU hc hv)];rfl
  ·cases h
 | agg l=>
  simp only [SV.cells?]at h;injection h with h;subst h;simp only [bU,SV.den]at hv;split at hv
  ·rename_i vs h1;injection hv with hv;subst hv;rw [h1];simp [Value.cells]
  ·cases hv
 | _=>cases h
theorem iP {ρ:Env}:∀(l:List Value),(∀v∈l,v.scalar=true)→aC ρ (l.map .lit)=some l
 | [],_=>rfl
 | v :: l,h=>by
  have:=h v (by simp);simp [aC,SC.den,SC.scalar,this,iP l (fun u hu=>h u (by simp [hu]))]
theorem aAt {ρ:Env}{v:Value}(h:sA v≠.top):(sA v).den ρ=some v:=by
 unfold sA at h ⊢;split at h
 ·rename_i cs;split at h
  ·rename_i hs;simp only [hs,if_true,SV.den,bU];rw [iP _ (fun v hv=>Array.all_eq_true'.1 hs v (by simpa using hv))]
  ·exact absurd rfl h
 ·rename_i vs;split at h
  ·rename_i hs;have:vs=#[]:=ji hs;subst this;simp [SV.den,iI]
  ·exact absurd rfl h
 ·rename_i x h1 h2;rfl
def Ok (ρ:Env) (sv:SV) (v:Value):Prop:=sv=.top∨sv.den ρ=some v
theorem iA {ρ:Env}{tm:Tmp→SV}{a:Act}{x:Operand}(h:∀t,x=.tmp t→Ok ρ (tm t) (a.tmps.getD t undef)) (hx:opnd tm x≠.top) :
 (opnd tm x).den ρ=some (a.eval x):=by
 cases x with
 | tmp t=>exact (h t rfl).resolve_left hx
 | const v=>exact aAt hx
 | func f=>rfl
 | global g=>exact absurd rfl hx
theorem nA {P:Program}{ρ:Env}(hE:ρ.Ok) {t:TypeId}{cs:List SC}{off:Nat}{sv:SV}{vs:List Value}(h:oI P t cs off=some sv) (hv:aC ρ cs=some vs) :
 (∃m,dD P t=some true∧bT P t=some m∧off+m≤vs.length∧sv.den ρ=some (.agg (vs.toArray.extract off (off+m))))∨
 (∃m v,dD P t=some false∧bT P t=some m∧vs[off]?=some v∧sv.den ρ=some v):=by
 unfold oI at h;split at h
 ·rename_i m h1 h2;cases hc:cutW off m cs with
  | none=>simp [hc]at h
  | some l=>
   simp only [hc,je]at h;injection h with h;subst h;obtain⟨i1,i2⟩:=fE hE hc hv;refine .inl ⟨m,h1,h2,i2,?_⟩;simp only [bU,SV.den,i1];simp [List.extract_eq_take_drop]
 ·rename_i m h1 h2;split at h
  ·rename_i c hc;split at h
   ·rename_i hs;injection h with h;subst h;obtain⟨i1,i2⟩:=fE hE hc hv;rw [lZ hs]at i1;have hlt:off<vs.length:=oq
    refine .inr ⟨m,vs[off],h1,h2,by simp [hlt],?_⟩;cases hd:c.den ρ with
    | none=>rw [hd]at i1;cases i1
    | some v=>
     rw [hd]at i1;rw [ko hlt]at i1;simp only [je,List.take_succ_cons,List.take_zero]at i1;injection i1 with i1;injection i1 with i1;simp only [SV.den,hd,i1]
   ·cases h
  ·cases h
 ·cases h
def aLt:BinOp→Bool
 | .eql | .neq | .lss | .leq | .gtr | .geq=>true
 | _=>false
def wordless (kd:Nat→Option LK):SC→Bool
 | .var i=>match kd i with
  | some (.int .u64)=>false
  | some _=>true
  | none=>false
 | .lit v=>v.noWord
 | .bin 0 op a _=>aLt op || wordless kd a
 | .bin 8 _ _ b=>wordless kd b
 | .bin 10 _ _ b=>wordless kd b
 | .neg a=>wordless kd a
 | .conv k _=>k != .u64
 | .pick _ a b=>wordless kd a && wordless kd b
 | .slr i=>match kd i with
  | some .slice=>true
  | _=>false
 | .upd _ _ _ _ _ y=>wordless kd y
 | .cat a b=>wordless kd a && wordless kd b
 | .cel _ _ _ _=>false
 | _=>true
theorem zG {cl:Nat}{op:BinOp}{x y v:Value}(h:mO cl op x y=some v) (hy:cl=8∨cl=10→y.noWord=true):v.noWord=true:=by
 unfold mO at h;split at h
 ·split at h
  ·split at h <;> first|(injection h with h;subst h;rfl)|cases h
  ·cases h
 case h_6=>
  injection h with h;subst h;have:=hy (.inl rfl);rename_i d _;cases d <;> first|rfl|cases this
 case h_8=>
  injection h with h;subst h;exact hy (.inr rfl)
 all_goals first|(injection h with h;subst h;rfl)|(split at h <;> first|(injection h with h;subst h;rfl)|(split at h <;> first|(injection h with h;subst h;rfl)|cases h)|cases h)|cases h
theorem zE {cl:Nat}{op:BinOp}{x y v:Value}(h:eL cl op x y=some v) (hx:cl=0→aLt op=true∨x.noWord=true) (hy:cl=8∨cl=10→y.noWord=true):v.noWord=true:=by
 unfold eL at h;split at h
 ·rename_i k i k' j;have hx:=hx rfl;have hk:aLt op=true∨∀n,(Value.int k n).noWord=true:=by
   rcases hx with hx|hx
   ·exact .inl hx
   ·refine .inr fun n=>?_;cases k <;> first|rfl|cases hx
  cases op <;> simp only at h
  all_goals (try split at h)
  all_goals (try cases h)
  all_goals first|rfl|(rcases hk with hk|hk <;> first|exact hk _|cases hk)
 ·cases op <;> simp only at h <;> cases h <;> rfl
 ·cases op <;> simp only at h <;> cases h <;> rfl
 ·exact zG h hy
theorem yR {ρ:Env}(hE:ρ.Ok):∀ {c:SC}{v:Value},wordless ρ.kd c=true→c.den ρ=some v→v.noWord=true:=by
 intro c
 induction c with
 | var i=>
  intro v hw h;simp only [SC.den]at h;split at h
  ·cases h
  ·cases h
  ·rename_i h1 h2;simp only [wordless]at hw;split at hw
   ·cases hw
   ·rename_i k hne hk;have:=hE i k v hk h;cases k with
    | bool=>obtain⟨b,rfl⟩:=this;rfl
    | int k=>obtain⟨b,rfl⟩:=this;cases k <;> first|rfl|exact (hne rfl).elim
    | str=>obtain⟨b,rfl⟩:=this;rfl
    | slice=>obtain⟨A,n,c,rfl⟩:=this;rfl
    | any=>exact this.2
    | seg m=>obtain⟨b,rfl,_⟩:=this;rfl
    | row=>obtain⟨b,rfl,_⟩:=this;rfl
    | fam=>obtain⟨b,rfl,_⟩:=this;rfl
    | map=>obtain⟨b,rfl⟩:=this;rfl
    | flt k=>obtain⟨b,rfl⟩:=this;rfl
    | cpx k=>obtain⟨a,b,rfl⟩:=this;rfl
   ·cases hw
 | lit u=>intro v hw h;simp only [SC.den]at h;injection h with h;subst h;exact hw
 | ptr b o=>intro v _ h;simp only [SC.den]at h;split at h <;> cases h;rfl
 | sl b o n c=>intro v _ h;simp only [SC.den]at h;split at h <;> cases h;rfl
 | seg i m=>intro v _ h;cases h
 | part x N i s j m _=>intro v _ h;cases h
 | upd x N i s j y _ _=>intro v _ h;cases h
 | cat a b _ _=>intro v _ h;cases h
 | fn f caps=>intro v _ h;simp only [SC.den]at h;split at h <;> cases h;rfl
 | fnb f b c=>intro v _ h;simp only [SC.den]at h;split at h <;> cases h;rfl
 | bin cl op a b iha ihb=>
  intro v hw h;simp only [SC.den]at h;split at h
  ·rename_i x y h1 h2;refine zE h (fun hc=>?_) fun hc=>?_
   ·subst hc;simp only [wordless,we]at hw;exact hw.imp id (fun hw=>iha hw h1)
   ·rcases hc with rfl|rfl <;> exact ihb hw h2
  ·cases h
 | pick c a b ihc iha ihb=>
  intro v hw h;simp only [wordless,qf]at hw;simp only [SC.den]at h;split at h
  ·rename_i x y z h1 h2 h3;obtain⟨c0,rfl,rfl⟩:=oJ h;split
   ·exact iha hw.1 h2
   ·exact ihb hw.2 h3
  ·cases h
 | neg a ih=>
  intro v hw h;simp only [SC.den,qp]at h;obtain⟨x,h1,h⟩:=h;have:=ih hw h1;unfold aNj at h;split at h <;> cases h
  ·rename_i k n;cases k <;> first|rfl|cases this
  ·rfl
 | conv k a _=>
  intro v hw h;simp only [SC.den,qp]at h;obtain⟨x,_,h⟩:=h;unfold zQ at h;split at h <;> cases h;cases k <;> first|rfl|(simp [wordless]at hw)
 | idx a b _ _=>intro v _ h;simp only [SC.den]at h;(split at h <;> first|(unfold tJ at h;split at h <;> cases h;rfl)|cases h)
 | le a b _ _=>intro v _ h;simp only [SC.den]at h;(split at h <;> first|(unfold leD at h;split at h <;> cases h;rfl)|cases h)
 | fit a b _ _=>intro v _ h;simp only [SC.den]at h;(split at h <;> first|(unfold aTk at h;split at h <;> cases h;rfl)|cases h)
 | byte a b _ _=>intro v _ h;simp only [SC.den]at h;(split at h <;> first|(unfold aEw at h;split at h <;> cases h;rfl)|cases h)
 | sub a b c _ _ _=>intro v _ h;simp only [SC.den]at h;(split at h <;> first|(unfold aVl at h;split at h <;> cases h;rfl)|cases h)
 | not a _=>intro v _ h;simp only [SC.den,qp]at h;obtain⟨x,_,h⟩:=h;unfold aDc at h;split at h <;> cases h;rfl
 | len a _=>intro v _ h;simp only [SC.den,qp]at h;obtain⟨x,_,h⟩:=h;unfold oA at h;split at h <;> cases h <;> rfl
 | isSl st a _=>intro v _ h;simp only [SC.den,qp]at h;obtain⟨x,_,h⟩:=h;unfold aAi at h;split at h <;> cases h <;> rfl
 | nz a _=>intro v _ h;simp only [SC.den,qp]at h;obtain⟨x,_,h⟩:=h;unfold nzD at h;split at h <;> cases h;rfl
 | cap a _=>intro v _ h;simp only [SC.den,qp]at h;obtain⟨x,_,h⟩:=h;unfold aXv at h;split at h <;> cases h;rfl
 | psl p o n c=>intro v _ h;simp only [SC.den]at h;split at h <;> cases h;rfl
 | cel x i s k _=>intro v hw;cases hw
 | slr i=>
  intro v hw h;simp only [SC.den]at h;split at h
  ·cases h
  ·cases h
  ·simp only [wordless]at hw;split at hw
   ·rename_i hk;obtain⟨A,n,c,rfl⟩:=hE i _ v hk h;rfl
   ·cases hw
 | elem a i s j _ _=>intro v _ h;simp only [SC.den]at h;split at h;· (obtain⟨_,_,_,_,_,_,_,_,_,_,rfl⟩:=dU h;rfl)
                     ·cases h
 | slc a lo hi s _ _ _=>intro v _ h;simp only [SC.den]at h;split at h;· (obtain⟨_,_,_,_,_,_,_,_,_,_,_,_,_,rfl⟩:=sE h;rfl)
                        ·cases h
theorem bO {ρ:Env}(hE:ρ.Ok):∀ {cs:List SC}{vs:List Value},cs.all (wordless ρ.kd)=true→aC ρ cs=some vs→∀u∈vs,u.noWord=true
 | [],vs,_,h=>by simp only [aC]at h;injection h with h;subst h;simp
 | c :: cs,vs,hw,h=>by
  obtain⟨a,b,h1,h2,rfl⟩:=cM h;simp only [List.all_cons,qf]at hw;intro u hu;rcases qd.1 hu with hu|hu
  ·rcases mQ hE h1 with ⟨_,hm⟩|⟨v,hs,hd,rfl⟩
   ·exact (hm u hu).2
   ·simp at hu;subst hu;exact yR hE hw.1 hd
  ·exact bO hE hw.2 h2 u hu
