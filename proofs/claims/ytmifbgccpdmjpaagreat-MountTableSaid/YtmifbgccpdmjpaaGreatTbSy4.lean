/- A symbolic executor of the model's code: lists of cells, operands. -/
import Derived.Test.YtmifbgccpdmjpaaGreatTbSy3
namespace Go.Proofs.YtmifbgccpdmjpaaGreat.Sy
open Go.RowKit
theorem dU {ρ:Env}{c:SC}(h:c.isRun=true) (cs:List SC):aC ρ (c :: cs)=(match eG ρ c,aC ρ cs with
 | some l,some us=>some (l++us)
 | _,_=>none):=by
 cases c <;> first|rfl|cases h
theorem bT {ρ:Env}{c:SC}(h:c.isRun=false) (hn:∀i m,c=.seg i m→False) (cs:List SC):aC ρ (c :: cs)=if c.scalar then (match c.den ρ,aC ρ cs with
 | some v,some us=>some (v :: us)
 | _,_=>none) else none:=by
 cases c <;> first|rfl|exact (hn _ _ rfl).elim|cases h
theorem pH (xs:Array Value) (p m:Nat):(pickL xs p m).length=m:=by simp [pickL]
theorem aIy {q:Value→Prop}{xs:Array Value}{p m:Nat}(h:∀u∈xs.toList,q u) (h0:q (.bool false)):∀u∈pickL xs p m,q u:=by
 intro u hu;unfold pickL at hu;obtain⟨i,_,rfl⟩:=xf.1 hu;cases hx:xs[p+i]? with
 | none=>exact h0
 | some v=>exact h v (by rw [jz];exact Array.mem_of_getElem? hx)
theorem aAt {q:Value→Prop}:∀ {l:List Value}{xs:Array Value}{o:Nat},(∀u∈xs.toList,q u)→(∀u∈l,q u)→∀u∈(over xs o l).toList,q u
 | [],_,_,h,_=>h
 | v :: l,xs,o,h,h'=>by
  unfold over;refine aAt (fun u hu=>?_) fun u hu=>h' u (List.mem_cons_of_mem _ hu);rw [vt]at hu;rcases ki hu with hu|hu
  ·exact h u hu
  ·rw [hu];exact h' v (List.mem_cons_self ..)
theorem aHd {vs:Array Value}{p:Nat}{v:Value}(h:aCe vs p=some v):vs[p]?=some v:=by
 unfold aCe at h;split at h <;> simp_all
theorem zE {vs:Array Value}{p:Nat}{v:Value}(h:aCe vs p=some v):v.scalar=true:=by
 unfold aCe at h;split at h
 ·cases h
 ·cases h
 ·rename_i h1 h2;cases v <;> first|rfl|exact absurd h (by first|exact h1 _|exact h2 _)
theorem aIp {o:Option Value}{us:List Value}(h:aDc o=some us):us.length=1∧∀u∈us,u.scalar=true∧u.noWord=true:=by
 unfold aDc at h;split at h
 ·split at h
  ·rename_i hc;injection h with h;subst h;simpa [Bool.and_eq_true] using hc
  ·cases h
 ·cases h
theorem aKd {ρ:Env}(hE:ρ.Ok):∀ {c:SC}{us:List Value},eG ρ c=some us→us.length=c.width∧∀u∈us,u.scalar=true∧u.noWord=true:=by
 intro c
 induction c with
 | part x N i s j m _=>
  intro us h;simp only [eG]at h;split at h
  ·rename_i vs k kk I h1 h2 h3;split at h
   ·injection h with h;subst h;obtain⟨cs,e,e1,e2⟩:=hE _ _ _ h2 h1;injection e with e;subst e;exact⟨pH _ _ _,aIy e2 ⟨rfl,rfl⟩⟩
   ·cases h
  ·cases h
 | upd x N i s j y _ ih=>
  intro us h;simp only [eG]at h;split at h
  ·rename_i vs k kk I us' h1 h2 h3 h4;split at h
   ·rename_i hk;injection h with h;subst h;obtain⟨cs,e,e1,e2⟩:=hE _ _ _ h2 h1;injection e with e;subst e;refine⟨?_,aAt e2 (ih h4).2⟩;rw [zb,over_size,e1,hk];rfl
   ·cases h
  ·cases h
 | seg x m=>
  intro us h;simp only [eG]at h;split at h
  ·rename_i vs k h1 h2;split at h
   ·rename_i hk;injection h with h;subst h;obtain⟨cs,e,e1,e2⟩:=hE _ _ _ h2 h1;injection e with e;subst e;exact⟨by rw [zb,e1,hk];rfl,e2⟩
   ·cases h
  ·cases h
 | cat a b iha ihb=>
  intro us h;simp only [eG]at h;split at h
  ·rename_i u v h1 h2;injection h with h;subst h;obtain⟨a1,a2⟩:=iha h1;obtain⟨b1,b2⟩:=ihb h2;refine⟨by rw [og,a1,b1];rfl,fun x hx=>?_⟩;rcases ql.1 hx with hx|hx
   ·exact a2 x hx
   ·exact b2 x hx
  ·cases h
 | _=>intro us h;exact aIp h
theorem pY {ρ:Env}{c:SC}(hc:c.scalar=false) {us:List Value}(h:aC ρ [c]=some us):eG ρ c=some us:=by
 cases c with
 | part x N i s j m=>
  simp only [aC]at h;split at h
  ·rename_i h1 h2;injection h2 with h2;injection h with h;subst h2;rw [qn]at h;subst h;exact h1
  ·cases h
 | upd x N i s j y=>
  simp only [aC]at h;split at h
  ·rename_i h1 h2;injection h2 with h2;injection h with h;subst h2;rw [qn]at h;subst h;exact h1
  ·cases h
 | seg x m=>
  simp only [aC]at h;split at h
  ·rename_i vs k us' h1 h2 h3;injection h3 with h3;subst h3;simp only [eG,h1,h2];rw [qn]at h;exact h
  ·cases h
 | _=>
  rw [bT rfl (fun i m e=>by cases e)]at h;rw [oh (by rw [hc];simp)]at h;cases h
theorem vW (vs:Array Value) (p m a:Nat) (h:a≤m):pickL vs p m=pickL vs p a++pickL vs (p+a) (m-a):=by
 apply wv;intro q;unfold pickL;simp only [jb,jl,List.length_map,List.length_range]
 by_cases h1:q<a
 ·rw [od h1,vp h1,vp oq]
 ·rw [oh h1]
  by_cases h2:q<m
  ·rw [vp h2,vp oq];simp only [jm]
   congr 3
   omega
  ·rw [ot (by simpa using js h2),ot (by simp;omega)];rfl
theorem xE (vs:Array Value):pickL vs 0 vs.size=vs.toList:=by
 apply wv;intro q;unfold pickL;simp only [jl,qt]
 by_cases h1:q<vs.size
 ·rw [vp h1,qi (by simpa using h1)];simp [Array.getElem?_eq_getElem h1]
 ·rw [ot (by simpa using js h1),ot (by simpa using js h1)];rfl
theorem aHf {ρ:Env}(hE:ρ.Ok) {c c1 c2:SC}{a:Nat}{us:List Value}(h:aTl c a=some (c1,c2)) (ha:a≤c.width) (hu:aC ρ [c]=some us):aC ρ [c1]=some (us.take a)∧aC ρ [c2]=some (us.drop a):=by
 have hr:=pY (by cases c <;> first|rfl|cases h) hu
 cases c with
 | part x N i s j m=>
  simp only [aTl]at h;injection h with h;injection h with h1 h2;subst h1 h2;simp only [SC.width]at ha;simp only [eG]at hr;split at hr
  ·rename_i vs k kk I e1 e2 e3;split at hr
   ·rename_i hk;injection hr with hr;rw [vW _ _ m a ha]at hr;subst hr;simp only [aC,eG,e1,e2,e3,hk,if_true,qn];have hl:(pickL vs (I.toNat*s+j) a).length=a:=pH _ _ _;constructor
    ·rw [List.take_append_of_le_length oq,yz oq]
    ·rw [List.drop_append,hl,List.drop_of_length_le oq,ww,List.drop_zero,yx,wy]
   ·cases hr
  ·cases hr
 | seg x N=>
  simp only [aTl]at h;injection h with h;injection h with h1 h2;subst h1 h2;simp only [SC.width]at ha;simp only [eG]at hr;split at hr
  ·rename_i vs k e1 e2;split at hr
   ·rename_i hk;injection hr with hr;obtain⟨cs,e,e3,_⟩:=hE _ _ _ e2 e1;injection e with e;subst e;have hsz:vs.size=N:=by rw [e3,hk]
    rw [←xE,hsz,vW _ _ N a ha]at hr;subst hr;simp only [aC,eG,e1,e2,SC.den,hk,if_true,qn,Int.toNat_zero,xg,qt];have hl:(pickL vs 0 a).length=a:=pH _ _ _;constructor
    ·rw [List.take_append_of_le_length oq,yz oq]
    ·rw [List.drop_append,hl,List.drop_of_length_le oq,ww,List.drop_zero,yx]
   ·cases hr
  ·cases hr
 | _=>cases h
theorem cM {ρ:Env}{c:SC}{cs:List SC}{vs:List Value}(h:aC ρ (c :: cs)=some vs) :
 ∃us ws,aC ρ [c]=some us∧aC ρ cs=some ws∧vs=us++ws:=by
 by_cases hrun:c.isRun=true
 ·rw [dU hrun]at h ⊢;split at h
  ·rename_i l us h1 h2;injection h with h;exact⟨l,us,by simp only [h1,aC,qn],h2,h.symm⟩
  ·cases h
 have hrun:c.isRun=false:=by simpa using hrun
 by_cases hseg:∃i m,c=.seg i m
 ·obtain⟨i,m,rfl⟩:=hseg;simp only [aC]at h ⊢;split at h
  ·rename_i avs k us h1 h2 h3;split at h
   ·rename_i hm;injection h with h;exact⟨avs.toList,us,by simp [h1,h2,hm],h3,h.symm⟩
   ·cases h
  ·cases h
 ·have hn:∀i m,c=.seg i m→False:=fun i m e=>hseg ⟨i,m,e⟩;rw [bT hrun hn]at h ⊢;split at h
  ·rename_i hs;split at h
   ·rename_i v us h1 h2;injection h with h;exact⟨[v],us,by simp only [hs,h1,aC,if_true],h2,by rw [←h];rfl⟩
   ·cases h
  ·cases h
theorem dT {ρ:Env}{c:SC}{cs:List SC}{us ws:List Value}(h:aC ρ [c]=some us) (h':aC ρ cs=some ws):aC ρ (c :: cs)=some (us++ws):=by
 by_cases hrun:c.isRun=true
 ·rw [dU hrun]at h ⊢;split at h
  ·rename_i l us' h1 h2;simp only [aC]at h2;injection h2 with h2;injection h with h;simp only [h1,h',←h,←h2,qn]
  ·cases h
 have hrun:c.isRun=false:=by simpa using hrun
 by_cases hseg:∃i m,c=.seg i m
 ·obtain⟨i,m,rfl⟩:=hseg;simp only [aC]at h ⊢;split at h
  ·rename_i avs k us' h1 h2 h3;injection h3 with h3;split at h
   ·rename_i hm;injection h with h;simp [h1,h2,h',hm,←h,←h3]
   ·cases h
  ·cases h
 ·have hn:∀i m,c=.seg i m→False:=fun i m e=>hseg ⟨i,m,e⟩;rw [bT hrun hn]at h ⊢;split at h
  ·rename_i hs;split at h
   ·rename_i v us' h1 h2;injection h with h;simp only [aC]at h2;injection h2 with h2;subst h2 h;simp only [hs,h1,h',if_true];rfl
   ·cases h
  ·cases h
theorem iI {ρ:Env}:∀ {l r:List SC}{us ws:List Value},aC ρ l=some us→aC ρ r=some ws→aC ρ (l++r)=some (us++ws)
 | [],r,us,ws,h,h'=>by simp only [aC]at h;injection h with h;subst h;simpa using h'
 | c :: l,r,us,ws,h,h'=>by
  obtain⟨a,b,h1,h2,rfl⟩:=cM h;rw [List.cons_append,jf];exact dT h1 (iI h2 h')
theorem mP {ρ:Env}(hE:ρ.Ok) {c:SC}{us:List Value}(h:aC ρ [c]=some us) :
 (us.length=c.width∧∀u∈us,u.scalar=true∧u.noWord=true)∨(∃v,c.scalar=true∧c.den ρ=some v∧us=[v]):=by
 by_cases hrun:c.isRun=true
 ·rw [dU hrun]at h;split at h
  ·rename_i l us' h1 h2;simp only [aC]at h2;injection h2 with h2;injection h with h;subst h2;rw [qn]at h;subst h;exact .inl (aKd hE h1)
  ·cases h
 have hrun:c.isRun=false:=by simpa using hrun
 by_cases hseg:∃i m,c=.seg i m
 ·obtain⟨i,m,rfl⟩:=hseg;simp only [aC]at h;split at h
  ·rename_i avs k us' h1 h2 h3;injection h3 with h3;split at h
   ·rename_i hm;injection h with h;obtain⟨cs,e,e1,e2⟩:=hE _ _ _ h2 h1;injection e with e;subst e;subst h3;rw [qn]at h;subst h;exact .inl ⟨by simpa [SC.width] using (by omega:avs.size=m),e2⟩
   ·cases h
  ·cases h
 ·have hn:∀i m,c=.seg i m→False:=fun i m e=>hseg ⟨i,m,e⟩;rw [bT hrun hn]at h;split at h
  ·rename_i hs;split at h
   ·rename_i v us' h1 h2;injection h with h;simp only [aC]at h2;injection h2 with h2;subst h2;exact .inr ⟨v,hs,h1,h.symm⟩
   ·cases h
  ·cases h
theorem gR {ρ:Env}(hE:ρ.Ok) {c:SC}{us:List Value}(h:aC ρ [c]=some us):us.length=c.width:=by
 rcases mP hE h with ⟨hm,_⟩|⟨v,hs,_,rfl⟩
 ·exact hm
 ·cases c <;> first|rfl|(cases hs;done)
theorem cX {ρ:Env}(hE:ρ.Ok):∀ {cs:List SC}{vs:List Value},aC ρ cs=some vs→vs.length=widths cs
 | [],vs,h=>by simp only [aC]at h;injection h with h;subst h;rfl
 | c :: cs,vs,h=>by
  obtain⟨a,b,h1,h2,rfl⟩:=cM h;rw [og,gR hE h1,cX hE h2,widths]
theorem gC {ρ:Env}(hE:ρ.Ok):∀ {cs:List SC}{o:Nat}{l r:List SC}{vs:List Value},jR o cs=some (l,r)→aC ρ cs=some vs→
 aC ρ l=some (vs.take o)∧aC ρ r=some (vs.drop o)∧o≤vs.length
 | cs,0,l,r,vs,h,hv=>by
  simp only [jR]at h;injection h with h;injection h with h1 h2;subst h1 h2;exact⟨by simp [aC],by simpa using hv,zk _⟩
 | [],o+1,l,r,vs,h,hv=>by simp [jR]at h
 | c :: cs,o+1,l,r,vs,h,hv=>by
  simp only [jR]at h;split at h
  ·cases h
  split at h
  ·rename_i hw0 hw;split at h
   ·rename_i l' r' hs;injection h with h;injection h with h1 h2;subst h1 h2;obtain⟨a,b,h1,h2,rfl⟩:=cM hv;obtain⟨i1,i2,i3⟩:=gC hE hs h2;have hl:=gR hE h1;refine⟨?_,?_,?_⟩
    ·have:=dT h1 i1;rw [this,List.take_append,yz (show a.length≤o+1 by omega),hl]
    ·rw [i2,List.drop_append,List.drop_of_length_le (show a.length≤o+1 by omega),hl];rfl
    ·rw [og];omega
   ·cases h
  ·rename_i hw0 hw;split at h
   ·rename_i c1 c2 hc;injection h with h;injection h with h1 h2;subst h1 h2;obtain⟨a,b,g1,g2,rfl⟩:=cM hv;have hl:=gR hE g1;obtain⟨k1,k2⟩:=aHf hE hc oq g1;refine⟨?_,?_,by rw [og];omega⟩
    ·rw [k1,List.take_append_of_le_length oq]
    ·rw [dT k2 g2,List.drop_append_of_le_length oq]
   ·cases h
theorem eV {ρ:Env}(hE:ρ.Ok) {cs l:List SC}{o m:Nat}{vs:List Value}(h:uH o m cs=some l) (hv:aC ρ cs=some vs) :
 aC ρ l=some ((vs.drop o).take m)∧o+m≤vs.length:=by
 unfold uH at h;split at h
 ·rename_i l1 r1 h1;split at h
  ·rename_i l2 r2 h2;injection h with h;subst h;obtain⟨_,i2,i3⟩:=gC hE h1 hv;obtain⟨j1,_,j3⟩:=gC hE h2 i2;exact⟨j1,by rw [List.length_drop]at j3;omega⟩
  ·cases h
 ·cases h
theorem over_eq:∀(l:List Value) (cs:Array Value) (o:Nat),o+l.length≤cs.size→(over cs o l).toList=cs.toList.take o++l++cs.toList.drop (o+l.length)
 | [],cs,o,h=>by simp [over]
 | v :: l,cs,o,h=>by
  simp only [om]at h;unfold over;rw [over_eq l _ _ (by simp;omega)];simp only [vt,om];have hl:o<cs.toList.length:=by simpa using (by omega:o<cs.size)
  have hl2:cs.toList.length=cs.size:=zb;rw [List.take_set,List.drop_set_of_lt oq,List.take_succ_eq_append_getElem hl];have e:(List.take o cs.toList++[cs.toList[o]]).set o v=List.take o cs.toList++[v]:=by
   rw [List.set_append_right _ _ (by rw [xx];omega),xx];have:o-min o cs.toList.length=0:=oq
   rw [this];rfl
  rw [e];have e2:o+1+l.length=o+(l.length+1):=oq
  simp [e2]
theorem mW {ρ:Env}(hE:ρ.Ok) {cs new l:List SC}{o:Nat}{vs us:List Value}(h:tC o new cs=some l) (hv:aC ρ cs=some vs) (hu:aC ρ new=some us) :
 aC ρ l=some (over vs.toArray o us).toList∧o+us.length≤vs.length:=by
 unfold tC at h;split at h
 ·rename_i l1 r1 h1;split at h
  ·rename_i l2 r2 h2;injection h with h;subst h;obtain⟨i1,i2,i3⟩:=gC hE h1 hv;obtain⟨_,j2,j3⟩:=gC hE h2 i2;have hlen:=cX hE hu;rw [List.length_drop]at j3;have hle:o+us.length≤vs.length:=oq
   refine⟨?_,hle⟩;rw [over_eq _ _ _ (by simpa using hle)];have:=iI (iI i1 hu) j2;rw [this,List.drop_drop,hlen]
  ·cases h
 ·cases h
theorem yX {cl:Nat}{op:BinOp}{a b v:Value}(h:oT cl op a b=some v):v.scalar=true:=by
 unfold oT at h;split at h
 ·split at h
  ·split at h <;> first|(injection h with h;subst h;rfl)|cases h
  ·cases h
 all_goals first|(injection h with h;subst h;rfl)|(split at h <;> first|(injection h with h;subst h;rfl)|(split at h <;> first|(injection h with h;subst h;rfl)|cases h)|cases h)|cases h
theorem yV {cl:Nat}{op:BinOp}{a b v:Value}(h:eH cl op a b=some v):v.scalar=true:=by
 unfold eH at h;split at h
 ·split at h
  ·injection h with h;subst h;rfl
  ·injection h with h;subst h;rfl
  ·split at h
   ·split at h <;> first|(injection h with h;subst h;rfl)|cases h
   ·cases h
 ·split at h <;> first|(injection h with h;subst h;rfl)|cases h
 ·split at h <;> first|(injection h with h;subst h;rfl)|cases h
 ·exact yX h
theorem wT {x:Option Value}{v:Value}(h:flat x=some v):x=some v∧v.scalar=true:=by
 unfold flat at h;split at h
 ·cases h
 ·cases h
 ·rename_i h1 h2;refine⟨h,?_⟩;subst h;cases v <;> first|rfl|exact (h1 _ rfl).elim|exact (h2 _ rfl).elim
theorem dV {s j:Nat}{x y v:Value}(h:iQ s j x y=some v):∃b o n c k i,x=.slice (some ⟨b,o,none⟩) n c∧y=.int k i∧0≤i∧i<n∧v=.pointer (some ⟨b,o+i.toNat*s+j,none⟩):=by
 unfold iQ at h;split at h
 ·split at h
  ·rename_i hr;injection h with h;exact⟨_,_,_,_,_,_,rfl,rfl,hr.1,hr.2,h.symm⟩
  ·cases h
 ·cases h
theorem rW {s:Nat}{x y z v:Value}(h:slcD s x y z=some v):∃A n c k lo k' hi,x=.slice A n c∧y=.int k lo∧z=.int k' hi∧0≤lo∧lo≤hi∧hi≤c∧
 v=.slice (if c=lo.toNat then A else A.map fun a=>a.add (lo.toNat*s)) (hi.toNat-lo.toNat) (c-lo.toNat):=by
 unfold slcD at h;split at h
 ·split at h
  ·rename_i hr;injection h with h;exact⟨_,_,_,_,_,_,_,rfl,rfl,rfl,hr.1,hr.2.1,hr.2.2,h.symm⟩
  ·cases h
 ·cases h
theorem jO {ρ:Env}:∀ {c:SC}{v:Value},c.scalar=true→c.den ρ=some v→v.scalar=true:=by
 intro c
 induction c with
 | var i=>
  intro v _ h;simp only [SC.den]at h;split at h
  ·cases h
  ·cases h
  ·rename_i h1 h2;cases v <;> first|rfl|exact absurd h (by first|exact h1 _|exact h2 _)
 | lit u=>intro v hs h;simp only [SC.den]at h;injection h with h;subst h;exact hs
 | ptr b o=>intro v _ h;simp only [SC.den]at h;split at h <;> cases h;rfl
 | sl b o n c=>intro v _ h;simp only [SC.den]at h;split at h <;> cases h;rfl
 | seg i m=>intro v hs h;cases hs
 | part x N i s j m _=>intro v hs h;cases hs
 | upd x N i s j y _ _=>intro v hs h;cases hs
 | cat a b _ _=>intro v hs h;cases hs
 | fn f caps=>intro v _ h;simp only [SC.den]at h;split at h <;> cases h;rfl
 | fnb f b c=>intro v _ h;simp only [SC.den]at h;split at h <;> cases h;rfl
 | bin cl op a b iha ihb=>intro v _ h;simp only [SC.den]at h;split at h <;> first|exact yV h|cases h
 | pick c a b ihc iha ihb=>
  intro v hs h;simp only [SC.scalar,qf]at hs;simp only [SC.den]at h;split at h
  ·rename_i x y z h1 h2 h3;obtain⟨c0,rfl,rfl⟩:=oC h;split
   ·exact iha hs.1 h2
   ·exact ihb hs.2 h3
  ·cases h
 | idx a b _ _=>intro v _ h;simp only [SC.den]at h;(split at h <;> first|(unfold rF at h;split at h <;> cases h;rfl)|cases h)
 | le a b _ _=>intro v _ h;simp only [SC.den]at h;(split at h <;> first|(unfold leD at h;split at h <;> cases h;rfl)|cases h)
 | fit a b _ _=>intro v _ h;simp only [SC.den]at h;(split at h <;> first|(unfold aTs at h;split at h <;> cases h;rfl)|cases h)
 | byte a b _ _=>intro v _ h;simp only [SC.den]at h;(split at h <;> first|(unfold aEx at h;split at h <;> cases h;rfl)|cases h)
 | sub a b c _ _ _=>intro v _ h;simp only [SC.den]at h;(split at h <;> first|(unfold aWf at h;split at h <;> cases h;rfl)|cases h)
 | not a _=>intro v _ h;simp only [SC.den,qb]at h;obtain⟨x,_,h⟩:=h;unfold aAp at h;split at h <;> cases h;rfl
 | neg a _=>intro v _ h;simp only [SC.den,qb]at h;obtain⟨x,_,h⟩:=h;unfold aIj at h;split at h <;> cases h <;> rfl
 | conv k a _=>intro v _ h;simp only [SC.den,qb]at h;obtain⟨x,_,h⟩:=h;unfold uW at h;split at h <;> cases h;rfl
 | len a _=>intro v _ h;simp only [SC.den,qb]at h;obtain⟨x,_,h⟩:=h;unfold mS at h;split at h <;> cases h <;> rfl
 | isSl st a _=>intro v _ h;simp only [SC.den,qb]at h;obtain⟨x,_,h⟩:=h;unfold aAc at h;split at h <;> cases h <;> rfl
 | nz a _=>intro v _ h;simp only [SC.den,qb]at h;obtain⟨x,_,h⟩:=h;unfold nzD at h;split at h <;> cases h;rfl
 | cap a _=>intro v _ h;simp only [SC.den,qb]at h;obtain⟨x,_,h⟩:=h;unfold aYn at h;split at h <;> cases h;rfl
 | slr i=>
  intro v _ h;simp only [SC.den]at h;split at h
  ·cases h
  ·cases h
  ·rename_i h1 h2;cases v <;> first|rfl|exact absurd h (by first|exact h1 _|exact h2 _)
 | psl p o n c=>intro v _ h;simp only [SC.den]at h;split at h <;> cases h;rfl
 | cel x i s _=>intro v _ h;simp only [SC.den]at h;split at h;· exact zE h
                ·cases h
 | elem a i s j _ _=>intro v _ h;simp only [SC.den]at h;split at h;· (obtain⟨_,_,_,_,_,_,_,_,_,_,rfl⟩:=dV h;rfl)
                     ·cases h
 | slc a lo hi s _ _ _=>intro v _ h;simp only [SC.den]at h;split at h;· (obtain⟨_,_,_,_,_,_,_,_,_,_,_,_,_,rfl⟩:=rW h;rfl)
                        ·cases h
theorem jN {v:Value}(h:v.scalar=true):v.cells=#[v]:=by
 cases v <;> first|rfl|(simp [Value.scalar]at h)
theorem mE {ρ:Env}{c:SC}(hc:c.scalar=true):aC ρ [c]=(c.den ρ).map (fun v=>[v]):=by
 rw [bT (by cases c <;> first|rfl|cases hc) (fun i m e=>by rw [e]at hc;cases hc)]
 simp only [hc,if_true,aC];cases c.den ρ <;> rfl
theorem cN {ρ:Env}(hE:ρ.Ok):∀ {cs:List SC}{vs:List Value},aC ρ cs=some vs→∀u∈vs,u.scalar=true
 | [],vs,h=>by simp only [aC]at h;injection h with h;subst h;simp
 | c :: cs,vs,h=>by
  obtain⟨a,b,h1,h2,rfl⟩:=cM h;intro u hu;rcases ql.1 hu with hu|hu
  ·rcases mP hE h1 with ⟨_,hm⟩|⟨v,hs,hd,rfl⟩
   ·exact (hm u hu).1
   ·simp at hu;subst hu;exact jO hs hd
  ·exact cN hE h2 u hu
theorem cells?_spec {ρ:Env}{sv:SV}{cs:List SC}{v:Value}(h:sv.cells?=some cs) (hv:sv.den ρ=some v):aC ρ cs=some v.cells.toList:=by
 cases sv with
 | one c=>
  simp only [SV.cells?]at h;split at h
  ·rename_i hc;injection h with h;subst h;simp only [SV.den]at hv;rw [mE hc,hv,jN (jO hc hv)];rfl
  ·cases h
 | agg l=>
  simp only [SV.cells?]at h;injection h with h;subst h;simp only [bV,SV.den]at hv;split at hv
  ·rename_i vs h1;injection hv with hv;subst hv;rw [h1];simp [Value.cells]
  ·cases hv
 | _=>cases h
theorem iB {ρ:Env}:∀(l:List Value),(∀v∈l,v.scalar=true)→aC ρ (l.map .lit)=some l
 | [],_=>rfl
 | v :: l,h=>by
  have:=h v (by simp);simp [aC,SC.den,SC.scalar,this,iB l (fun u hu=>h u (by simp [hu]))]
theorem aAq {ρ:Env}{v:Value}(h:rS v≠.top):(rS v).den ρ=some v:=by
 unfold rS at h ⊢;split at h
 ·rename_i cs;split at h
  ·rename_i hs;simp only [hs,if_true,SV.den,bV];rw [iB _ (fun v hv=>Array.all_eq_true'.1 hs v (by simpa using hv))]
  ·exact absurd rfl h
 ·rename_i vs;split at h
  ·rename_i hs;have:vs=#[]:=zj hs;subst this;simp [SV.den,hC]
  ·exact absurd rfl h
 ·rename_i x h1 h2;rfl
def Ok (ρ:Env) (sv:SV) (v:Value):Prop:=sv=.top∨sv.den ρ=some v
theorem gP {ρ:Env}{tm:Tmp→SV}{a:Act}{x:Operand}(h:∀t,x=.tmp t→Ok ρ (tm t) (a.tmps.getD t undef)) (hx:opnd tm x≠.top) :
 (opnd tm x).den ρ=some (a.eval x):=by
 cases x with
 | tmp t=>exact (h t rfl).resolve_left hx
 | const v=>exact aAq hx
 | func f=>rfl
 | global g=>exact absurd rfl hx
theorem mX {P:Program}{ρ:Env}(hE:ρ.Ok) {t:TypeId}{cs:List SC}{off:Nat}{sv:SV}{vs:List Value}(h:oB P t cs off=some sv) (hv:aC ρ cs=some vs) :
 (∃m,dA P t=some true∧bU P t=some m∧off+m≤vs.length∧sv.den ρ=some (.agg (vs.toArray.extract off (off+m))))∨
 (∃m v,dA P t=some false∧bU P t=some m∧vs[off]?=some v∧sv.den ρ=some v):=by
 unfold oB at h;split at h
 ·rename_i m h1 h2;cases hc:uH off m cs with
  | none=>simp [hc]at h
  | some l=>
   simp only [hc,jm]at h;injection h with h;subst h;obtain⟨i1,i2⟩:=eV hE hc hv;refine .inl ⟨m,h1,h2,i2,?_⟩;simp only [bV,SV.den,i1];simp [List.extract_eq_take_drop]
 ·rename_i m h1 h2;split at h
  ·rename_i c hc;split at h
   ·rename_i hs;injection h with h;subst h;obtain⟨i1,i2⟩:=eV hE hc hv;rw [mE hs]at i1;have hlt:off<vs.length:=oq
    refine .inr ⟨m,vs[off],h1,h2,by simp [hlt],?_⟩;cases hd:c.den ρ with
    | none=>rw [hd]at i1;cases i1
    | some v=>
     rw [hd]at i1;rw [ko hlt]at i1;simp only [jm,List.take_succ_cons,List.take_zero]at i1;injection i1 with i1;injection i1 with i1;simp only [SV.den,hd,i1]
   ·cases h
  ·cases h
 ·cases h
def aLn:BinOp→Bool
 | .eql | .neq | .lss | .leq | .gtr | .geq=>true
 | _=>false
def wordless (kd:Nat→Option LK):SC→Bool
 | .var i=>match kd i with
  | some (.int .u64)=>false
  | some _=>true
  | none=>false
 | .lit v=>v.noWord
 | .bin 0 op a _=>aLn op || wordless kd a
 | .bin 8 _ _ b=>wordless kd b
 | .bin 10 _ _ b=>wordless kd b
 | .neg a=>wordless kd a
 | .conv k _=>k != .u64
 | .pick _ a b=>wordless kd a && wordless kd b
 | .slr i=>match kd i with
  | some .slice=>true
  | _=>false
 | .upd _ _ _ _ _ y=>wordless kd y
 | .cat a b=>wordless kd a && wordless kd b
 | .cel _ _ _ _=>false
 | _=>true
theorem yW {cl:Nat}{op:BinOp}{x y v:Value}(h:oT cl op x y=some v) (hy:cl=8∨cl=10→y.noWord=true):v.noWord=true:=by
 unfold oT at h;split at h
 ·split at h
  ·split at h <;> first|(injection h with h;subst h;rfl)|cases h
  ·cases h
 case h_6=>
  injection h with h;subst h;have:=hy (.inl rfl);rename_i d _;cases d <;> first|rfl|cases this
 case h_8=>
  injection h with h;subst h;exact hy (.inr rfl)
 all_goals first|(injection h with h;subst h;rfl)|(split at h <;> first|(injection h with h;subst h;rfl)|(split at h <;> first|(injection h with h;subst h;rfl)|cases h)|cases h)|cases h
theorem yU {cl:Nat}{op:BinOp}{x y v:Value}(h:eH cl op x y=some v) (hx:cl=0→aLn op=true∨x.noWord=true) (hy:cl=8∨cl=10→y.noWord=true):v.noWord=true:=by
 unfold eH at h;split at h
 ·rename_i k i k' j;have hx:=hx rfl;have hk:aLn op=true∨∀n,(Value.int k n).noWord=true:=by
   rcases hx with hx|hx
   ·exact .inl hx
   ·refine .inr fun n=>?_;cases k <;> first|rfl|cases hx
  cases op <;> simp only at h
  all_goals (try split at h)
  all_goals (try cases h)
  all_goals first|rfl|(rcases hk with hk|hk <;> first|exact hk _|cases hk)
 ·cases op <;> simp only at h <;> cases h <;> rfl
 ·cases op <;> simp only at h <;> cases h <;> rfl
 ·exact yW h hy
theorem yI {ρ:Env}(hE:ρ.Ok):∀ {c:SC}{v:Value},wordless ρ.kd c=true→c.den ρ=some v→v.noWord=true:=by
 intro c
 induction c with
 | var i=>
  intro v hw h;simp only [SC.den]at h;split at h
  ·cases h
  ·cases h
  ·rename_i h1 h2;simp only [wordless]at hw;split at hw
   ·cases hw
   ·rename_i k hne hk;have:=hE i k v hk h;cases k with
    | bool=>obtain⟨b,rfl⟩:=this;rfl
    | int k=>obtain⟨b,rfl⟩:=this;cases k <;> first|rfl|exact (hne rfl).elim
    | str=>obtain⟨b,rfl⟩:=this;rfl
    | slice=>obtain⟨A,n,c,rfl⟩:=this;rfl
    | any=>exact this.2
    | seg m=>obtain⟨b,rfl,_⟩:=this;rfl
    | row=>obtain⟨b,rfl,_⟩:=this;rfl
    | fam=>obtain⟨b,rfl,_⟩:=this;rfl
    | map=>obtain⟨b,rfl⟩:=this;rfl
    | flt k=>obtain⟨b,rfl⟩:=this;rfl
    | cpx k=>obtain⟨a,b,rfl⟩:=this;rfl
   ·cases hw
 | lit u=>intro v hw h;simp only [SC.den]at h;injection h with h;subst h;exact hw
 | ptr b o=>intro v _ h;simp only [SC.den]at h;split at h <;> cases h;rfl
 | sl b o n c=>intro v _ h;simp only [SC.den]at h;split at h <;> cases h;rfl
 | seg i m=>intro v _ h;cases h
 | part x N i s j m _=>intro v _ h;cases h
 | upd x N i s j y _ _=>intro v _ h;cases h
 | cat a b _ _=>intro v _ h;cases h
 | fn f caps=>intro v _ h;simp only [SC.den]at h;split at h <;> cases h;rfl
 | fnb f b c=>intro v _ h;simp only [SC.den]at h;split at h <;> cases h;rfl
 | bin cl op a b iha ihb=>
  intro v hw h;simp only [SC.den]at h;split at h
  ·rename_i x y h1 h2;refine yU h (fun hc=>?_) fun hc=>?_
   ·subst hc;simp only [wordless,zt]at hw;exact hw.imp id (fun hw=>iha hw h1)
   ·rcases hc with rfl|rfl <;> exact ihb hw h2
  ·cases h
 | pick c a b ihc iha ihb=>
  intro v hw h;simp only [wordless,qf]at hw;simp only [SC.den]at h;split at h
  ·rename_i x y z h1 h2 h3;obtain⟨c0,rfl,rfl⟩:=oC h;split
   ·exact iha hw.1 h2
   ·exact ihb hw.2 h3
  ·cases h
 | neg a ih=>
  intro v hw h;simp only [SC.den,qb]at h;obtain⟨x,h1,h⟩:=h;have:=ih hw h1;unfold aIj at h;split at h <;> cases h
  ·rename_i k n;cases k <;> first|rfl|cases this
  ·rfl
 | conv k a _=>
  intro v hw h;simp only [SC.den,qb]at h;obtain⟨x,_,h⟩:=h;unfold uW at h;split at h <;> cases h;cases k <;> first|rfl|(simp [wordless]at hw)
 | idx a b _ _=>intro v _ h;simp only [SC.den]at h;(split at h <;> first|(unfold rF at h;split at h <;> cases h;rfl)|cases h)
 | le a b _ _=>intro v _ h;simp only [SC.den]at h;(split at h <;> first|(unfold leD at h;split at h <;> cases h;rfl)|cases h)
 | fit a b _ _=>intro v _ h;simp only [SC.den]at h;(split at h <;> first|(unfold aTs at h;split at h <;> cases h;rfl)|cases h)
 | byte a b _ _=>intro v _ h;simp only [SC.den]at h;(split at h <;> first|(unfold aEx at h;split at h <;> cases h;rfl)|cases h)
 | sub a b c _ _ _=>intro v _ h;simp only [SC.den]at h;(split at h <;> first|(unfold aWf at h;split at h <;> cases h;rfl)|cases h)
 | not a _=>intro v _ h;simp only [SC.den,qb]at h;obtain⟨x,_,h⟩:=h;unfold aAp at h;split at h <;> cases h;rfl
 | len a _=>intro v _ h;simp only [SC.den,qb]at h;obtain⟨x,_,h⟩:=h;unfold mS at h;split at h <;> cases h <;> rfl
 | isSl st a _=>intro v _ h;simp only [SC.den,qb]at h;obtain⟨x,_,h⟩:=h;unfold aAc at h;split at h <;> cases h <;> rfl
 | nz a _=>intro v _ h;simp only [SC.den,qb]at h;obtain⟨x,_,h⟩:=h;unfold nzD at h;split at h <;> cases h;rfl
 | cap a _=>intro v _ h;simp only [SC.den,qb]at h;obtain⟨x,_,h⟩:=h;unfold aYn at h;split at h <;> cases h;rfl
 | psl p o n c=>intro v _ h;simp only [SC.den]at h;split at h <;> cases h;rfl
 | cel x i s k _=>intro v hw;cases hw
 | slr i=>
  intro v hw h;simp only [SC.den]at h;split at h
  ·cases h
  ·cases h
  ·simp only [wordless]at hw;split at hw
   ·rename_i hk;obtain⟨A,n,c,rfl⟩:=hE i _ v hk h;rfl
   ·cases hw
 | elem a i s j _ _=>intro v _ h;simp only [SC.den]at h;split at h;· (obtain⟨_,_,_,_,_,_,_,_,_,_,rfl⟩:=dV h;rfl)
                     ·cases h
 | slc a lo hi s _ _ _=>intro v _ h;simp only [SC.den]at h;split at h;· (obtain⟨_,_,_,_,_,_,_,_,_,_,_,_,_,rfl⟩:=rW h;rfl)
                        ·cases h
theorem cC {ρ:Env}(hE:ρ.Ok):∀ {cs:List SC}{vs:List Value},cs.all (wordless ρ.kd)=true→aC ρ cs=some vs→∀u∈vs,u.noWord=true
 | [],vs,_,h=>by simp only [aC]at h;injection h with h;subst h;simp
 | c :: cs,vs,hw,h=>by
  obtain⟨a,b,h1,h2,rfl⟩:=cM h;simp only [yy,qf]at hw;intro u hu;rcases ql.1 hu with hu|hu
  ·rcases mP hE h1 with ⟨_,hm⟩|⟨v,hs,hd,rfl⟩
   ·exact (hm u hu).2
   ·simp at hu;subst hu;exact yI hE hw.1 hd
  ·exact cC hE hw.2 h2 u hu
