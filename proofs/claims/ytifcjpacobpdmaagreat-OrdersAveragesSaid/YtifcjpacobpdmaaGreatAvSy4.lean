/- A symbolic executor of the model's code: lists of cells, operands. -/
import Derived.Test.YtifcjpacobpdmaaGreatAvSy3
namespace Go.Proofs.YtifcjpacobpdmaaGreat.Sy
open Go.RowKit
theorem dH {ρ:Env}{c:SC}(h:c.isRun=true) (cs:List SC):aC ρ (c :: cs)=(match fB ρ c,aC ρ cs with
 | some l,some us=>some (l++us)
 | _,_=>none):=by
 cases c <;> first|rfl|cases h
theorem bR {ρ:Env}{c:SC}(h:c.isRun=false) (hn:∀i m,c=.seg i m→False) (cs:List SC):aC ρ (c :: cs)=if c.scalar then (match c.den ρ,aC ρ cs with
 | some v,some us=>some (v :: us)
 | _,_=>none) else none:=by
 cases c <;> first|rfl|exact (hn _ _ rfl).elim|cases h
theorem pE (xs:Array Value) (p m:Nat):(pickL xs p m).length=m:=by simp [pickL]
theorem aIa {q:Value→Prop}{xs:Array Value}{p m:Nat}(h:∀u∈xs.toList,q u) (h0:q (.bool false)):∀u∈pickL xs p m,q u:=by
 intro u hu;unfold pickL at hu;obtain⟨i,_,rfl⟩:=vv.1 hu;cases hx:xs[p+i]? with
 | none=>exact h0
 | some v=>exact h v (by rw [qe];exact Array.mem_of_getElem? hx)
theorem zP {q:Value→Prop}:∀ {l:List Value}{xs:Array Value}{o:Nat},(∀u∈xs.toList,q u)→(∀u∈l,q u)→∀u∈(over xs o l).toList,q u
 | [],_,_,h,_=>h
 | v :: l,xs,o,h,h'=>by
  unfold over;refine zP (fun u hu=>?_) fun u hu=>h' u (List.mem_cons_of_mem _ hu);rw [wv]at hu;rcases List.mem_or_eq_of_mem_set hu with hu|hu
  ·exact h u hu
  ·rw [hu];exact h' v (List.mem_cons_self ..)
theorem aGe {vs:Array Value}{p:Nat}{v:Value}(h:celD vs p=some v):vs[p]?=some v:=by
 unfold celD at h;split at h <;> simp_all
theorem xZ {vs:Array Value}{p:Nat}{v:Value}(h:celD vs p=some v):v.scalar=true:=by
 unfold celD at h;split at h
 ·cases h
 ·cases h
 ·rename_i h1 h2;cases v <;> first|rfl|exact absurd h (by first|exact h1 _|exact h2 _)
theorem aIu {ρ:Env}(hE:ρ.Ok):∀ {c:SC}{us:List Value},fB ρ c=some us→us.length=c.width∧∀u∈us,u.scalar=true∧u.noWord=true:=by
 intro c
 induction c with
 | part x N i s j m _=>
  intro us h;simp only [fB]at h;split at h
  ·rename_i vs k kk I h1 h2 h3;split at h
   ·injection h with h;subst h;obtain⟨cs,e,e1,e2⟩:=hE _ _ _ h2 h1;injection e with e;subst e;exact⟨pE _ _ _,aIa e2 ⟨rfl,rfl⟩⟩
   ·cases h
  ·cases h
 | upd x N i s j y _ ih=>
  intro us h;simp only [fB]at h;split at h
  ·rename_i vs k kk I us' h1 h2 h3 h4;split at h
   ·rename_i hk;injection h with h;subst h;obtain⟨cs,e,e1,e2⟩:=hE _ _ _ h2 h1;injection e with e;subst e;refine⟨?_,zP e2 (ih h4).2⟩;rw [zp,over_size,e1,hk];rfl
   ·cases h
  ·cases h
 | seg x m=>
  intro us h;simp only [fB]at h;split at h
  ·rename_i vs k h1 h2;split at h
   ·rename_i hk;injection h with h;subst h;obtain⟨cs,e,e1,e2⟩:=hE _ _ _ h2 h1;injection e with e;subst e;exact⟨by rw [zp,e1,hk];rfl,e2⟩
   ·cases h
  ·cases h
 | _=>intro us h;cases h
theorem pT {ρ:Env}{c:SC}(hc:c.scalar=false) {us:List Value}(h:aC ρ [c]=some us):fB ρ c=some us:=by
 cases c with
 | part x N i s j m=>
  simp only [aC]at h;split at h
  ·rename_i h1 h2;injection h2 with h2;injection h with h;subst h2;rw [jp]at h;subst h;exact h1
  ·cases h
 | upd x N i s j y=>
  simp only [aC]at h;split at h
  ·rename_i h1 h2;injection h2 with h2;injection h with h;subst h2;rw [jp]at h;subst h;exact h1
  ·cases h
 | seg x m=>
  simp only [aC]at h;split at h
  ·rename_i vs k us' h1 h2 h3;injection h3 with h3;subst h3;simp only [fB,h1,h2];rw [jp]at h;exact h
  ·cases h
 | _=>
  rw [bR rfl (fun i m e=>by cases e)]at h;rw [oh (by rw [hc];simp)]at h;cases h
theorem uX (vs:Array Value) (p m a:Nat) (h:a≤m):pickL vs p m=pickL vs p a++pickL vs (p+a) (m-a):=by
 apply wm;intro q;unfold pickL;simp only [je,jr,List.length_map,List.length_range]
 by_cases h1:q<a
 ·rw [om h1,vz h1,vz oq]
 ·rw [oh h1]
  by_cases h2:q<m
  ·rw [vz h2,vz oq];simp only [jf]
   congr 3
   omega
  ·rw [oc (by simpa using ja h2),oc (by simp;omega)];rfl
theorem wJ (vs:Array Value):pickL vs 0 vs.size=vs.toList:=by
 apply wm;intro q;unfold pickL;simp only [jr,qr]
 by_cases h1:q<vs.size
 ·rw [vz h1,jq (by simpa using h1)];simp [Array.getElem?_eq_getElem h1]
 ·rw [oc (by simpa using ja h1),oc (by simpa using ja h1)];rfl
theorem aGg {ρ:Env}(hE:ρ.Ok) {c c1 c2:SC}{a:Nat}{us:List Value}(h:aPu c a=some (c1,c2)) (ha:a≤c.width) (hu:aC ρ [c]=some us):aC ρ [c1]=some (us.take a)∧aC ρ [c2]=some (us.drop a):=by
 have hr:=pT (by cases c <;> first|rfl|cases h) hu
 cases c with
 | part x N i s j m=>
  simp only [aPu]at h;injection h with h;injection h with h1 h2;subst h1 h2;simp only [SC.width]at ha;simp only [fB]at hr;split at hr
  ·rename_i vs k kk I e1 e2 e3;split at hr
   ·rename_i hk;injection hr with hr;rw [uX _ _ m a ha]at hr;subst hr;simp only [aC,fB,e1,e2,e3,hk,if_true,jp];have hl:(pickL vs (I.toNat*s+j) a).length=a:=pE _ _ _;constructor
    ·rw [List.take_append_of_le_length oq,yu oq]
    ·rw [List.drop_append,hl,List.drop_of_length_le oq,wg,List.drop_zero,wu,xq]
   ·cases hr
  ·cases hr
 | seg x N=>
  simp only [aPu]at h;injection h with h;injection h with h1 h2;subst h1 h2;simp only [SC.width]at ha;simp only [fB]at hr;split at hr
  ·rename_i vs k e1 e2;split at hr
   ·rename_i hk;injection hr with hr;obtain⟨cs,e,e3,_⟩:=hE _ _ _ e2 e1;injection e with e;subst e;have hsz:vs.size=N:=by rw [e3,hk]
    rw [←wJ,hsz,uX _ _ N a ha]at hr;subst hr;simp only [aC,fB,e1,e2,SC.den,hk,if_true,jp,Int.toNat_zero,zb,qr];have hl:(pickL vs 0 a).length=a:=pE _ _ _;constructor
    ·rw [List.take_append_of_le_length oq,yu oq]
    ·rw [List.drop_append,hl,List.drop_of_length_le oq,wg,List.drop_zero,wu]
   ·cases hr
  ·cases hr
 | _=>cases h
theorem cH {ρ:Env}{c:SC}{cs:List SC}{vs:List Value}(h:aC ρ (c :: cs)=some vs) :
 ∃us ws,aC ρ [c]=some us∧aC ρ cs=some ws∧vs=us++ws:=by
 by_cases hrun:c.isRun=true
 ·rw [dH hrun]at h ⊢;split at h
  ·rename_i l us h1 h2;injection h with h;exact⟨l,us,by simp only [h1,aC,jp],h2,h.symm⟩
  ·cases h
 have hrun:c.isRun=false:=by simpa using hrun
 by_cases hseg:∃i m,c=.seg i m
 ·obtain⟨i,m,rfl⟩:=hseg;simp only [aC]at h ⊢;split at h
  ·rename_i avs k us h1 h2 h3;split at h
   ·rename_i hm;injection h with h;exact⟨avs.toList,us,by simp [h1,h2,hm],h3,h.symm⟩
   ·cases h
  ·cases h
 ·have hn:∀i m,c=.seg i m→False:=fun i m e=>hseg ⟨i,m,e⟩;rw [bR hrun hn]at h ⊢;split at h
  ·rename_i hs;split at h
   ·rename_i v us h1 h2;injection h with h;exact⟨[v],us,by simp only [hs,h1,aC,if_true],h2,by rw [←h];rfl⟩
   ·cases h
  ·cases h
theorem dG {ρ:Env}{c:SC}{cs:List SC}{us ws:List Value}(h:aC ρ [c]=some us) (h':aC ρ cs=some ws):aC ρ (c :: cs)=some (us++ws):=by
 by_cases hrun:c.isRun=true
 ·rw [dH hrun]at h ⊢;split at h
  ·rename_i l us' h1 h2;simp only [aC]at h2;injection h2 with h2;injection h with h;simp only [h1,h',←h,←h2,jp]
  ·cases h
 have hrun:c.isRun=false:=by simpa using hrun
 by_cases hseg:∃i m,c=.seg i m
 ·obtain⟨i,m,rfl⟩:=hseg;simp only [aC]at h ⊢;split at h
  ·rename_i avs k us' h1 h2 h3;injection h3 with h3;split at h
   ·rename_i hm;injection h with h;simp [h1,h2,h',hm,←h,←h3]
   ·cases h
  ·cases h
 ·have hn:∀i m,c=.seg i m→False:=fun i m e=>hseg ⟨i,m,e⟩;rw [bR hrun hn]at h ⊢;split at h
  ·rename_i hs;split at h
   ·rename_i v us' h1 h2;injection h with h;simp only [aC]at h2;injection h2 with h2;subst h2 h;simp only [hs,h1,h',if_true];rfl
   ·cases h
  ·cases h
theorem iA {ρ:Env}:∀ {l r:List SC}{us ws:List Value},aC ρ l=some us→aC ρ r=some ws→aC ρ (l++r)=some (us++ws)
 | [],r,us,ws,h,h'=>by simp only [aC]at h;injection h with h;subst h;simpa using h'
 | c :: l,r,us,ws,h,h'=>by
  obtain⟨a,b,h1,h2,rfl⟩:=cH h;rw [List.cons_append,js];exact dG h1 (iA h2 h')
theorem lZ {ρ:Env}(hE:ρ.Ok) {c:SC}{us:List Value}(h:aC ρ [c]=some us) :
 (us.length=c.width∧∀u∈us,u.scalar=true∧u.noWord=true)∨(∃v,c.scalar=true∧c.den ρ=some v∧us=[v]):=by
 by_cases hrun:c.isRun=true
 ·rw [dH hrun]at h;split at h
  ·rename_i l us' h1 h2;simp only [aC]at h2;injection h2 with h2;injection h with h;subst h2;rw [jp]at h;subst h;exact .inl (aIu hE h1)
  ·cases h
 have hrun:c.isRun=false:=by simpa using hrun
 by_cases hseg:∃i m,c=.seg i m
 ·obtain⟨i,m,rfl⟩:=hseg;simp only [aC]at h;split at h
  ·rename_i avs k us' h1 h2 h3;injection h3 with h3;split at h
   ·rename_i hm;injection h with h;obtain⟨cs,e,e1,e2⟩:=hE _ _ _ h2 h1;injection e with e;subst e;subst h3;rw [jp]at h;subst h;exact .inl ⟨by simpa [SC.width] using (by omega:avs.size=m),e2⟩
   ·cases h
  ·cases h
 ·have hn:∀i m,c=.seg i m→False:=fun i m e=>hseg ⟨i,m,e⟩;rw [bR hrun hn]at h;split at h
  ·rename_i hs;split at h
   ·rename_i v us' h1 h2;injection h with h;simp only [aC]at h2;injection h2 with h2;subst h2;exact .inr ⟨v,hs,h1,h.symm⟩
   ·cases h
  ·cases h
theorem gN {ρ:Env}(hE:ρ.Ok) {c:SC}{us:List Value}(h:aC ρ [c]=some us):us.length=c.width:=by
 rcases lZ hE h with ⟨hm,_⟩|⟨v,hs,_,rfl⟩
 ·exact hm
 ·cases c <;> first|rfl|(cases hs;done)
theorem cK {ρ:Env}(hE:ρ.Ok):∀ {cs:List SC}{vs:List Value},aC ρ cs=some vs→vs.length=widths cs
 | [],vs,h=>by simp only [aC]at h;injection h with h;subst h;rfl
 | c :: cs,vs,h=>by
  obtain⟨a,b,h1,h2,rfl⟩:=cH h;rw [og,gN hE h1,cK hE h2,widths]
theorem fO {ρ:Env}(hE:ρ.Ok):∀ {cs:List SC}{o:Nat}{l r:List SC}{vs:List Value},jF o cs=some (l,r)→aC ρ cs=some vs→
 aC ρ l=some (vs.take o)∧aC ρ r=some (vs.drop o)∧o≤vs.length
 | cs,0,l,r,vs,h,hv=>by
  simp only [jF]at h;injection h with h;injection h with h1 h2;subst h1 h2;exact⟨by simp [aC],by simpa using hv,jt _⟩
 | [],o+1,l,r,vs,h,hv=>by simp [jF]at h
 | c :: cs,o+1,l,r,vs,h,hv=>by
  simp only [jF]at h;split at h
  ·cases h
  split at h
  ·rename_i hw0 hw;split at h
   ·rename_i l' r' hs;injection h with h;injection h with h1 h2;subst h1 h2;obtain⟨a,b,h1,h2,rfl⟩:=cH hv;obtain⟨i1,i2,i3⟩:=fO hE hs h2;have hl:=gN hE h1;refine⟨?_,?_,?_⟩
    ·have:=dG h1 i1;rw [this,List.take_append,yu (show a.length≤o+1 by omega),hl]
    ·rw [i2,List.drop_append,List.drop_of_length_le (show a.length≤o+1 by omega),hl];rfl
    ·rw [og];omega
   ·cases h
  ·rename_i hw0 hw;split at h
   ·rename_i c1 c2 hc;injection h with h;injection h with h1 h2;subst h1 h2;obtain⟨a,b,g1,g2,rfl⟩:=cH hv;have hl:=gN hE g1;obtain⟨k1,k2⟩:=aGg hE hc oq g1;refine⟨?_,?_,by rw [og];omega⟩
    ·rw [k1,List.take_append_of_le_length oq]
    ·rw [dG k2 g2,List.drop_append_of_le_length oq]
   ·cases h
theorem eW {ρ:Env}(hE:ρ.Ok) {cs l:List SC}{o m:Nat}{vs:List Value}(h:cutW o m cs=some l) (hv:aC ρ cs=some vs) :
 aC ρ l=some ((vs.drop o).take m)∧o+m≤vs.length:=by
 unfold cutW at h;split at h
 ·rename_i l1 r1 h1;split at h
  ·rename_i l2 r2 h2;injection h with h;subst h;obtain⟨_,i2,i3⟩:=fO hE h1 hv;obtain⟨j1,_,j3⟩:=fO hE h2 i2;exact⟨j1,by rw [List.length_drop]at j3;omega⟩
  ·cases h
 ·cases h
theorem over_eq:∀(l:List Value) (cs:Array Value) (o:Nat),o+l.length≤cs.size→(over cs o l).toList=cs.toList.take o++l++cs.toList.drop (o+l.length)
 | [],cs,o,h=>by simp [over]
 | v :: l,cs,o,h=>by
  simp only [ob]at h;unfold over;rw [over_eq l _ _ (by simp;omega)];simp only [wv,ob];have hl:o<cs.toList.length:=by simpa using (by omega:o<cs.size)
  have hl2:cs.toList.length=cs.size:=zp;rw [List.take_set,List.drop_set_of_lt oq,List.take_succ_eq_append_getElem hl];have e:(List.take o cs.toList++[cs.toList[o]]).set o v=List.take o cs.toList++[v]:=by
   rw [List.set_append_right _ _ (by rw [xh];omega),xh];have:o-min o cs.toList.length=0:=oq
   rw [this];rfl
  rw [e];have e2:o+1+l.length=o+(l.length+1):=oq
  simp [e2]
theorem mJ {ρ:Env}(hE:ρ.Ok) {cs new l:List SC}{o:Nat}{vs us:List Value}(h:zM o new cs=some l) (hv:aC ρ cs=some vs) (hu:aC ρ new=some us) :
 aC ρ l=some (over vs.toArray o us).toList∧o+us.length≤vs.length:=by
 unfold zM at h;split at h
 ·rename_i l1 r1 h1;split at h
  ·rename_i l2 r2 h2;injection h with h;subst h;obtain⟨i1,i2,i3⟩:=fO hE h1 hv;obtain⟨_,j2,j3⟩:=fO hE h2 i2;have hlen:=cK hE hu;rw [List.length_drop]at j3;have hle:o+us.length≤vs.length:=oq
   refine⟨?_,hle⟩;rw [over_eq _ _ _ (by simpa using hle)];have:=iA (iA i1 hu) j2;rw [this,List.drop_drop,hlen]
  ·cases h
 ·cases h
theorem xS {cl:Nat}{op:BinOp}{a b v:Value}(h:oN cl op a b=some v):v.scalar=true:=by
 unfold oN at h;split at h
 ·split at h
  ·split at h <;> first|(injection h with h;subst h;rfl)|cases h
  ·cases h
 all_goals first|(injection h with h;subst h;rfl)|(split at h <;> first|(injection h with h;subst h;rfl)|(split at h <;> first|(injection h with h;subst h;rfl)|cases h)|cases h)|cases h
theorem xQ {cl:Nat}{op:BinOp}{a b v:Value}(h:dR cl op a b=some v):v.scalar=true:=by
 unfold dR at h;split at h
 ·split at h
  ·injection h with h;subst h;rfl
  ·injection h with h;subst h;rfl
  ·split at h
   ·split at h <;> first|(injection h with h;subst h;rfl)|cases h
   ·cases h
 ·split at h <;> first|(injection h with h;subst h;rfl)|cases h
 ·split at h <;> first|(injection h with h;subst h;rfl)|cases h
 ·exact xS h
theorem vW {x:Option Value}{v:Value}(h:flat x=some v):x=some v∧v.scalar=true:=by
 unfold flat at h;split at h
 ·cases h
 ·cases h
 ·rename_i h1 h2;refine⟨h,?_⟩;subst h;cases v <;> first|rfl|exact (h1 _ rfl).elim|exact (h2 _ rfl).elim
theorem dI {s j:Nat}{x y v:Value}(h:iH s j x y=some v):∃b o n c k i,x=.slice (some ⟨b,o,none⟩) n c∧y=.int k i∧0≤i∧i<n∧v=.pointer (some ⟨b,o+i.toNat*s+j,none⟩):=by
 unfold iH at h;split at h
 ·split at h
  ·rename_i hr;injection h with h;exact⟨_,_,_,_,_,_,rfl,rfl,hr.1,hr.2,h.symm⟩
  ·cases h
 ·cases h
theorem rP {s:Nat}{x y z v:Value}(h:slcD s x y z=some v):∃A n c k lo k' hi,x=.slice A n c∧y=.int k lo∧z=.int k' hi∧0≤lo∧lo≤hi∧hi≤c∧
 v=.slice (if c=lo.toNat then A else A.map fun a=>a.add (lo.toNat*s)) (hi.toNat-lo.toNat) (c-lo.toNat):=by
 unfold slcD at h;split at h
 ·split at h
  ·rename_i hr;injection h with h;exact⟨_,_,_,_,_,_,_,rfl,rfl,rfl,hr.1,hr.2.1,hr.2.2,h.symm⟩
  ·cases h
 ·cases h
theorem mO {ρ:Env}:∀ {c:SC}{v:Value},c.scalar=true→c.den ρ=some v→v.scalar=true:=by
 intro c
 induction c with
 | var i=>
  intro v _ h;simp only [SC.den]at h;split at h
  ·cases h
  ·cases h
  ·rename_i h1 h2;cases v <;> first|rfl|exact absurd h (by first|exact h1 _|exact h2 _)
 | lit u=>intro v hs h;simp only [SC.den]at h;injection h with h;subst h;exact hs
 | ptr b o=>intro v _ h;simp only [SC.den]at h;split at h <;> cases h;rfl
 | sl b o n c=>intro v _ h;simp only [SC.den]at h;split at h <;> cases h;rfl
 | seg i m=>intro v hs h;cases hs
 | part x N i s j m _=>intro v hs h;cases hs
 | upd x N i s j y _ _=>intro v hs h;cases hs
 | fn f caps=>intro v _ h;simp only [SC.den]at h;split at h <;> cases h;rfl
 | fnb f b c=>intro v _ h;simp only [SC.den]at h;split at h <;> cases h;rfl
 | bin cl op a b iha ihb=>intro v _ h;simp only [SC.den]at h;split at h <;> first|exact xQ h|cases h
 | pick c a b ihc iha ihb=>
  intro v hs h;simp only [SC.scalar,ql]at hs;simp only [SC.den]at h;split at h
  ·rename_i x y z h1 h2 h3;obtain⟨c0,rfl,rfl⟩:=nW h;split
   ·exact iha hs.1 h2
   ·exact ihb hs.2 h3
  ·cases h
 | idx a b _ _=>intro v _ h;simp only [SC.den]at h;(split at h <;> first|(unfold rB at h;split at h <;> cases h;rfl)|cases h)
 | le a b _ _=>intro v _ h;simp only [SC.den]at h;(split at h <;> first|(unfold leD at h;split at h <;> cases h;rfl)|cases h)
 | fit a b _ _=>intro v _ h;simp only [SC.den]at h;(split at h <;> first|(unfold aQb at h;split at h <;> cases h;rfl)|cases h)
 | byte a b _ _=>intro v _ h;simp only [SC.den]at h;(split at h <;> first|(unfold aDx at h;split at h <;> cases h;rfl)|cases h)
 | sub a b c _ _ _=>intro v _ h;simp only [SC.den]at h;(split at h <;> first|(unfold aSd at h;split at h <;> cases h;rfl)|cases h)
 | not a _=>intro v _ h;simp only [SC.den,qc]at h;obtain⟨x,_,h⟩:=h;unfold zD at h;split at h <;> cases h;rfl
 | neg a _=>intro v _ h;simp only [SC.den,qc]at h;obtain⟨x,_,h⟩:=h;unfold aHk at h;split at h <;> cases h <;> rfl
 | conv k a _=>intro v _ h;simp only [SC.den,qc]at h;obtain⟨x,_,h⟩:=h;unfold tX at h;split at h <;> cases h;rfl
 | len a _=>intro v _ h;simp only [SC.den,qc]at h;obtain⟨x,_,h⟩:=h;unfold mD at h;split at h <;> cases h <;> rfl
 | isSl st a _=>intro v _ h;simp only [SC.den,qc]at h;obtain⟨x,_,h⟩:=h;unfold yV at h;split at h <;> cases h <;> rfl
 | nz a _=>intro v _ h;simp only [SC.den,qc]at h;obtain⟨x,_,h⟩:=h;unfold nzD at h;split at h <;> cases h;rfl
 | cap a _=>intro v _ h;simp only [SC.den,qc]at h;obtain⟨x,_,h⟩:=h;unfold aUh at h;split at h <;> cases h;rfl
 | slr i=>
  intro v _ h;simp only [SC.den]at h;split at h
  ·cases h
  ·cases h
  ·rename_i h1 h2;cases v <;> first|rfl|exact absurd h (by first|exact h1 _|exact h2 _)
 | psl p o n c=>intro v _ h;simp only [SC.den]at h;split at h <;> cases h;rfl
 | cel x i s _=>intro v _ h;simp only [SC.den]at h;split at h;· exact xZ h
                ·cases h
 | elem a i s j _ _=>intro v _ h;simp only [SC.den]at h;split at h;· (obtain⟨_,_,_,_,_,_,_,_,_,_,rfl⟩:=dI h;rfl)
                     ·cases h
 | slc a lo hi s _ _ _=>intro v _ h;simp only [SC.den]at h;split at h;· (obtain⟨_,_,_,_,_,_,_,_,_,_,_,_,_,rfl⟩:=rP h;rfl)
                        ·cases h
theorem jC {v:Value}(h:v.scalar=true):v.cells=#[v]:=by
 cases v <;> first|rfl|(simp [Value.scalar]at h)
theorem lK {ρ:Env}{c:SC}(hc:c.scalar=true):aC ρ [c]=(c.den ρ).map (fun v=>[v]):=by
 rw [bR (by cases c <;> first|rfl|cases hc) (fun i m e=>by rw [e]at hc;cases hc)]
 simp only [hc,if_true,aC];cases c.den ρ <;> rfl
theorem cL {ρ:Env}(hE:ρ.Ok):∀ {cs:List SC}{vs:List Value},aC ρ cs=some vs→∀u∈vs,u.scalar=true
 | [],vs,h=>by simp only [aC]at h;injection h with h;subst h;simp
 | c :: cs,vs,h=>by
  obtain⟨a,b,h1,h2,rfl⟩:=cH h;intro u hu;rcases jx.1 hu with hu|hu
  ·rcases lZ hE h1 with ⟨_,hm⟩|⟨v,hs,hd,rfl⟩
   ·exact (hm u hu).1
   ·simp at hu;subst hu;exact mO hs hd
  ·exact cL hE h2 u hu
theorem cells?_spec {ρ:Env}{sv:SV}{cs:List SC}{v:Value}(h:sv.cells?=some cs) (hv:sv.den ρ=some v):aC ρ cs=some v.cells.toList:=by
 cases sv with
 | one c=>
  simp only [SV.cells?]at h;split at h
  ·rename_i hc;injection h with h;subst h;simp only [SV.den]at hv;rw [lK hc,hv,jC (mO hc hv)];rfl
  ·cases h
 | agg l=>
  simp only [SV.cells?]at h;injection h with h;subst h;simp only [bK,SV.den]at hv;split at hv
  ·rename_i vs h1;injection hv with hv;subst hv;rw [h1];simp [Value.cells]
  ·cases hv
 | _=>cases h
theorem gX {ρ:Env}:∀(l:List Value),(∀v∈l,v.scalar=true)→aC ρ (l.map .lit)=some l
 | [],_=>rfl
 | v :: l,h=>by
  have:=h v (by simp);simp [aC,SC.den,SC.scalar,this,gX l (fun u hu=>h u (by simp [hu]))]
theorem zI {ρ:Env}{v:Value}(h:rN v≠.top):(rN v).den ρ=some v:=by
 unfold rN at h ⊢;split at h
 ·rename_i cs;split at h
  ·rename_i hs;simp only [hs,if_true,SV.den,bK];rw [gX _ (fun v hv=>Array.all_eq_true'.1 hs v (by simpa using hv))]
  ·exact absurd rfl h
 ·rename_i vs;split at h
  ·rename_i hs;have:vs=#[]:=zy hs;subst this;simp [SV.den,gT]
  ·exact absurd rfl h
 ·rename_i x h1 h2;rfl
def Ok (ρ:Env) (sv:SV) (v:Value):Prop:=sv=.top∨sv.den ρ=some v
theorem gI {ρ:Env}{tm:Tmp→SV}{a:Act}{x:Operand}(h:∀t,x=.tmp t→Ok ρ (tm t) (a.tmps.getD t undef)) (hx:opnd tm x≠.top) :
 (opnd tm x).den ρ=some (a.eval x):=by
 cases x with
 | tmp t=>exact (h t rfl).resolve_left hx
 | const v=>exact zI hx
 | func f=>rfl
 | global g=>exact absurd rfl hx
theorem mK {P:Program}{ρ:Env}(hE:ρ.Ok) {t:TypeId}{cs:List SC}{off:Nat}{sv:SV}{vs:List Value}(h:nV P t cs off=some sv) (hv:aC ρ cs=some vs) :
 (∃m,dJ P t=some true∧bJ P t=some m∧off+m≤vs.length∧sv.den ρ=some (.agg (vs.toArray.extract off (off+m))))∨
 (∃m v,dJ P t=some false∧bJ P t=some m∧vs[off]?=some v∧sv.den ρ=some v):=by
 unfold nV at h;split at h
 ·rename_i m h1 h2;cases hc:cutW off m cs with
  | none=>simp [hc]at h
  | some l=>
   simp only [hc,jf]at h;injection h with h;subst h;obtain⟨i1,i2⟩:=eW hE hc hv;refine .inl ⟨m,h1,h2,i2,?_⟩;simp only [bK,SV.den,i1];simp [List.extract_eq_take_drop]
 ·rename_i m h1 h2;split at h
  ·rename_i c hc;split at h
   ·rename_i hs;injection h with h;subst h;obtain⟨i1,i2⟩:=eW hE hc hv;rw [lK hs]at i1;have hlt:off<vs.length:=oq
    refine .inr ⟨m,vs[off],h1,h2,by simp [hlt],?_⟩;cases hd:c.den ρ with
    | none=>rw [hd]at i1;cases i1
    | some v=>
     rw [hd]at i1;rw [wk hlt]at i1;simp only [jf,List.take_succ_cons,List.take_zero]at i1;injection i1 with i1;injection i1 with i1;simp only [SV.den,hd,i1]
   ·cases h
  ·cases h
 ·cases h
