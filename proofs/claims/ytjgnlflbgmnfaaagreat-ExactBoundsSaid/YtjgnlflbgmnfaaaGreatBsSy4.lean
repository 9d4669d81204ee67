/- A symbolic executor of the model's code: lists of cells, operands. -/
import Derived.Test.YtjgnlflbgmnfaaaGreatBsSy3
namespace Go.Proofs.YtjgnlflbgmnfaaaGreat.Sy
open Go.RowKit
theorem dS {ρ:Env}{c:SC}(h:c.isRun=true) (cs:List SC):aB ρ (c :: cs)=(match iG ρ c,aB ρ cs with
 | some l,some us=>some (l++us)
 | _,_=>none):=by
 cases c <;> first|rfl|cases h
theorem cH {ρ:Env}{c:SC}(h:c.isRun=false) (hn:∀i m,c=.seg i m→False) (cs:List SC):aB ρ (c :: cs)=if c.scalar then (match c.den ρ,aB ρ cs with
 | some v,some us=>some (v :: us)
 | _,_=>none) else none:=by
 cases c <;> first|rfl|exact (hn _ _ rfl).elim|cases h
theorem pN (xs:Array Value) (p m:Nat):(jG xs p m).length=m:=by simp [jG]
theorem aIe {q:Value→Prop}{xs:Array Value}{p m:Nat}(h:∀u∈xs.toList,q u) (h0:q (.bool false)):∀u∈jG xs p m,q u:=by
 intro u hu;unfold jG at hu;obtain⟨i,_,rfl⟩:=wz.1 hu;cases hx:xs[p+i]? with
 | none=>exact h0
 | some v=>exact h v (by rw [jg];exact Array.mem_of_getElem? hx)
theorem aAq {q:Value→Prop}:∀ {l:List Value}{xs:Array Value}{o:Nat},(∀u∈xs.toList,q u)→(∀u∈l,q u)→∀u∈(over xs o l).toList,q u
 | [],_,_,h,_=>h
 | v :: l,xs,o,h,h'=>by
  unfold over;refine aAq (fun u hu=>?_) fun u hu=>h' u (List.mem_cons_of_mem _ hu);rw [wg]at hu;rcases List.mem_or_eq_of_mem_set hu with hu|hu
  ·exact h u hu
  ·rw [hu];exact h' v (List.mem_cons_self ..)
theorem aIu {ρ:Env}(hE:ρ.Ok):∀ {c:SC}{us:List Value},iG ρ c=some us→us.length=c.width∧∀u∈us,u.scalar=true∧u.noWord=true:=by
 intro c
 induction c with
 | part x N i s j m _=>
  intro us h;simp only [iG]at h;split at h
  ·rename_i vs k kk I h1 h2 h3;split at h
   ·injection h with h;subst h;obtain⟨cs,e,e1,e2⟩:=hE _ _ _ h2 h1;injection e with e;subst e;exact⟨pN _ _ _,aIe e2 ⟨rfl,rfl⟩⟩
   ·cases h
  ·cases h
 | upd x N i s j y _ ih=>
  intro us h;simp only [iG]at h;split at h
  ·rename_i vs k kk I us' h1 h2 h3 h4;split at h
   ·rename_i hk;injection h with h;subst h;obtain⟨cs,e,e1,e2⟩:=hE _ _ _ h2 h1;injection e with e;subst e;refine⟨?_,aAq e2 (ih h4).2⟩;rw [xm,gU,e1,hk];rfl
   ·cases h
  ·cases h
 | seg x m=>
  intro us h;simp only [iG]at h;split at h
  ·rename_i vs k h1 h2;split at h
   ·rename_i hk;injection h with h;subst h;obtain⟨cs,e,e1,e2⟩:=hE _ _ _ h2 h1;injection e with e;subst e;exact⟨by rw [xm,e1,hk];rfl,e2⟩
   ·cases h
  ·cases h
 | _=>intro us h;cases h
theorem zD {ρ:Env}{c:SC}(hc:c.scalar=false) {us:List Value}(h:aB ρ [c]=some us):iG ρ c=some us:=by
 cases c with
 | part x N i s j m=>
  simp only [aB]at h;split at h
  ·rename_i h1 h2;injection h2 with h2;injection h with h;subst h2;rw [vw]at h;subst h;exact h1
  ·cases h
 | upd x N i s j y=>
  simp only [aB]at h;split at h
  ·rename_i h1 h2;injection h2 with h2;injection h with h;subst h2;rw [vw]at h;subst h;exact h1
  ·cases h
 | seg x m=>
  simp only [aB]at h;split at h
  ·rename_i vs k us' h1 h2 h3;injection h3 with h3;subst h3;simp only [iG,h1,h2];rw [vw]at h;exact h
  ·cases h
 | _=>
  rw [cH rfl (fun i m e=>by cases e)]at h;rw [oh (by rw [hc];simp)]at h;cases h
theorem wF (vs:Array Value) (p m a:Nat) (h:a≤m):jG vs p m=jG vs p a++jG vs (p+a) (m-a):=by
 apply List.ext_getElem?;intro q;unfold jG;simp only [zn,zi,List.length_map,List.length_range]
 by_cases h1:q<a
 ·rw [og h1,yp h1,yp oq]
 ·rw [oh h1]
  by_cases h2:q<m
  ·rw [yp h2,yp oq];simp only [zm]
   congr 3
   omega
  ·rw [qj (by simpa using zy h2),qj (by simp;omega)];rfl
theorem xW (vs:Array Value):jG vs 0 vs.size=vs.toList:=by
 apply List.ext_getElem?;intro q;unfold jG;simp only [zi,jw]
 by_cases h1:q<vs.size
 ·rw [yp h1,jb (by simpa using h1)];simp [Array.getElem?_eq_getElem h1]
 ·rw [qj (by simpa using zy h1),qj (by simpa using zy h1)];rfl
theorem aGr {ρ:Env}(hE:ρ.Ok) {c c1 c2:SC}{a:Nat}{us:List Value}(h:aQg c a=some (c1,c2)) (ha:a≤c.width) (hu:aB ρ [c]=some us):aB ρ [c1]=some (us.take a)∧aB ρ [c2]=some (us.drop a):=by
 have hr:=zD (by cases c <;> first|rfl|cases h) hu
 cases c with
 | part x N i s j m=>
  simp only [aQg]at h;injection h with h;injection h with h1 h2;subst h1 h2;simp only [SC.width]at ha;simp only [iG]at hr;split at hr
  ·rename_i vs k kk I e1 e2 e3;split at hr
   ·rename_i hk;injection hr with hr;rw [wF _ _ m a ha]at hr;subst hr;simp only [aB,iG,e1,e2,e3,hk,if_true,vw];have hl:(jG vs (I.toNat*s+j) a).length=a:=pN _ _ _;constructor
    ·rw [List.take_append_of_le_length oq,List.take_of_length_le oq]
    ·rw [List.drop_append,hl,List.drop_of_length_le oq,yw,List.drop_zero,List.nil_append,yu]
   ·cases hr
  ·cases hr
 | seg x N=>
  simp only [aQg]at h;injection h with h;injection h with h1 h2;subst h1 h2;simp only [SC.width]at ha;simp only [iG]at hr;split at hr
  ·rename_i vs k e1 e2;split at hr
   ·rename_i hk;injection hr with hr;obtain⟨cs,e,e3,_⟩:=hE _ _ _ e2 e1;injection e with e;subst e;have hsz:vs.size=N:=by rw [e3,hk]
    rw [←xW,hsz,wF _ _ N a ha]at hr;subst hr;simp only [aB,iG,e1,e2,SC.den,hk,if_true,vw,Int.toNat_zero,ze,jw];have hl:(jG vs 0 a).length=a:=pN _ _ _;constructor
    ·rw [List.take_append_of_le_length oq,List.take_of_length_le oq]
    ·rw [List.drop_append,hl,List.drop_of_length_le oq,yw,List.drop_zero,List.nil_append]
   ·cases hr
  ·cases hr
 | _=>cases h
theorem cO {ρ:Env}{c:SC}{cs:List SC}{vs:List Value}(h:aB ρ (c :: cs)=some vs) :
 ∃us ws,aB ρ [c]=some us∧aB ρ cs=some ws∧vs=us++ws:=by
 by_cases hrun:c.isRun=true
 ·rw [dS hrun]at h ⊢;split at h
  ·rename_i l us h1 h2;injection h with h;exact⟨l,us,by simp only [h1,aB,vw],h2,h.symm⟩
  ·cases h
 have hrun:c.isRun=false:=by simpa using hrun
 by_cases hseg:∃i m,c=.seg i m
 ·obtain⟨i,m,rfl⟩:=hseg;simp only [aB]at h ⊢;split at h
  ·rename_i avs k us h1 h2 h3;split at h
   ·rename_i hm;injection h with h;exact⟨avs.toList,us,by simp [h1,h2,hm],h3,h.symm⟩
   ·cases h
  ·cases h
 ·have hn:∀i m,c=.seg i m→False:=fun i m e=>hseg ⟨i,m,e⟩;rw [cH hrun hn]at h ⊢;split at h
  ·rename_i hs;split at h
   ·rename_i v us h1 h2;injection h with h;exact⟨[v],us,by simp only [hs,h1,aB,if_true],h2,by rw [←h];rfl⟩
   ·cases h
  ·cases h
theorem dR {ρ:Env}{c:SC}{cs:List SC}{us ws:List Value}(h:aB ρ [c]=some us) (h':aB ρ cs=some ws):aB ρ (c :: cs)=some (us++ws):=by
 by_cases hrun:c.isRun=true
 ·rw [dS hrun]at h ⊢;split at h
  ·rename_i l us' h1 h2;simp only [aB]at h2;injection h2 with h2;injection h with h;simp only [h1,h',←h,←h2,vw]
  ·cases h
 have hrun:c.isRun=false:=by simpa using hrun
 by_cases hseg:∃i m,c=.seg i m
 ·obtain⟨i,m,rfl⟩:=hseg;simp only [aB]at h ⊢;split at h
  ·rename_i avs k us' h1 h2 h3;injection h3 with h3;split at h
   ·rename_i hm;injection h with h;simp [h1,h2,h',hm,←h,←h3]
   ·cases h
  ·cases h
 ·have hn:∀i m,c=.seg i m→False:=fun i m e=>hseg ⟨i,m,e⟩;rw [cH hrun hn]at h ⊢;split at h
  ·rename_i hs;split at h
   ·rename_i v us' h1 h2;injection h with h;simp only [aB]at h2;injection h2 with h2;subst h2 h;simp only [hs,h1,h',if_true];rfl
   ·cases h
  ·cases h
theorem iU {ρ:Env}:∀ {l r:List SC}{us ws:List Value},aB ρ l=some us→aB ρ r=some ws→aB ρ (l++r)=some (us++ws)
 | [],r,us,ws,h,h'=>by simp only [aB]at h;injection h with h;subst h;simpa using h'
 | c :: l,r,us,ws,h,h'=>by
  obtain⟨a,b,h1,h2,rfl⟩:=cO h;rw [List.cons_append,List.append_assoc];exact dR h1 (iU h2 h')
theorem mV {ρ:Env}(hE:ρ.Ok) {c:SC}{us:List Value}(h:aB ρ [c]=some us) :
 (us.length=c.width∧∀u∈us,u.scalar=true∧u.noWord=true)∨(∃v,c.scalar=true∧c.den ρ=some v∧us=[v]):=by
 by_cases hrun:c.isRun=true
 ·rw [dS hrun]at h;split at h
  ·rename_i l us' h1 h2;simp only [aB]at h2;injection h2 with h2;injection h with h;subst h2;rw [vw]at h;subst h;exact .inl (aIu hE h1)
  ·cases h
 have hrun:c.isRun=false:=by simpa using hrun
 by_cases hseg:∃i m,c=.seg i m
 ·obtain⟨i,m,rfl⟩:=hseg;simp only [aB]at h;split at h
  ·rename_i avs k us' h1 h2 h3;injection h3 with h3;split at h
   ·rename_i hm;injection h with h;obtain⟨cs,e,e1,e2⟩:=hE _ _ _ h2 h1;injection e with e;subst e;subst h3;rw [vw]at h;subst h;exact .inl ⟨by simpa [SC.width] using (by omega:avs.size=m),e2⟩
   ·cases h
  ·cases h
 ·have hn:∀i m,c=.seg i m→False:=fun i m e=>hseg ⟨i,m,e⟩;rw [cH hrun hn]at h;split at h
  ·rename_i hs;split at h
   ·rename_i v us' h1 h2;injection h with h;simp only [aB]at h2;injection h2 with h2;subst h2;exact .inr ⟨v,hs,h1,h.symm⟩
   ·cases h
  ·cases h
theorem gY {ρ:Env}(hE:ρ.Ok) {c:SC}{us:List Value}(h:aB ρ [c]=some us):us.length=c.width:=by
 rcases mV hE h with ⟨hm,_⟩|⟨v,hs,_,rfl⟩
 ·exact hm
 ·cases c <;> first|rfl|(cases hs;done)
theorem gX {ρ:Env}(hE:ρ.Ok):∀ {cs:List SC}{vs:List Value},aB ρ cs=some vs→vs.length=widths cs
 | [],vs,h=>by simp only [aB]at h;injection h with h;subst h;rfl
 | c :: cs,vs,h=>by
  obtain⟨a,b,h1,h2,rfl⟩:=cO h;rw [qz,gY hE h1,gX hE h2,widths]
theorem gC {ρ:Env}(hE:ρ.Ok):∀ {cs:List SC}{o:Nat}{l r:List SC}{vs:List Value},kI o cs=some (l,r)→aB ρ cs=some vs→
 aB ρ l=some (vs.take o)∧aB ρ r=some (vs.drop o)∧o≤vs.length
 | cs,0,l,r,vs,h,hv=>by
  simp only [kI]at h;injection h with h;injection h with h1 h2;subst h1 h2;exact⟨by simp [aB],by simpa using hv,zx _⟩
 | [],o+1,l,r,vs,h,hv=>by simp [kI]at h
 | c :: cs,o+1,l,r,vs,h,hv=>by
  simp only [kI]at h;split at h
  ·cases h
  split at h
  ·rename_i hw0 hw;split at h
   ·rename_i l' r' hs;injection h with h;injection h with h1 h2;subst h1 h2;obtain⟨a,b,h1,h2,rfl⟩:=cO hv;obtain⟨i1,i2,i3⟩:=gC hE hs h2;have hl:=gY hE h1;refine⟨?_,?_,?_⟩
    ·have:=dR h1 i1;rw [this,List.take_append,List.take_of_length_le (show a.length≤o+1 by omega),hl]
    ·rw [i2,List.drop_append,List.drop_of_length_le (show a.length≤o+1 by omega),hl];rfl
    ·rw [qz];omega
   ·cases h
  ·rename_i hw0 hw;split at h
   ·rename_i c1 c2 hc;injection h with h;injection h with h1 h2;subst h1 h2;obtain⟨a,b,g1,g2,rfl⟩:=cO hv;have hl:=gY hE g1;obtain⟨k1,k2⟩:=aGr hE hc oq g1;refine⟨?_,?_,by rw [qz];omega⟩
    ·rw [k1,List.take_append_of_le_length oq]
    ·rw [dR k2 g2,List.drop_append_of_le_length oq]
   ·cases h
theorem pC {ρ:Env}(hE:ρ.Ok) {cs l:List SC}{o m:Nat}{vs:List Value}(h:cutW o m cs=some l) (hv:aB ρ cs=some vs) :
 aB ρ l=some ((vs.drop o).take m)∧o+m≤vs.length:=by
 unfold cutW at h;split at h
 ·rename_i l1 r1 h1;split at h
  ·rename_i l2 r2 h2;injection h with h;subst h;obtain⟨_,i2,i3⟩:=gC hE h1 hv;obtain⟨j1,_,j3⟩:=gC hE h2 i2;exact⟨j1,by rw [List.length_drop]at j3;omega⟩
  ·cases h
 ·cases h
theorem aFn:∀(l:List Value) (cs:Array Value) (o:Nat),o+l.length≤cs.size→(over cs o l).toList=cs.toList.take o++l++cs.toList.drop (o+l.length)
 | [],cs,o,h=>by simp [over]
 | v :: l,cs,o,h=>by
  simp only [qt]at h;unfold over;rw [aFn l _ _ (by simp;omega)];simp only [wg,qt];have hl:o<cs.toList.length:=by simpa using (by omega:o<cs.size)
  have hl2:cs.toList.length=cs.size:=xm;rw [List.take_set,List.drop_set_of_lt oq,List.take_succ_eq_append_getElem hl];have e:(List.take o cs.toList++[cs.toList[o]]).set o v=List.take o cs.toList++[v]:=by
   rw [List.set_append_right _ _ (by rw [yh];omega),yh];have:o-min o cs.toList.length=0:=oq
   rw [this];rfl
  rw [e];have e2:o+1+l.length=o+(l.length+1):=oq
  simp [e2]
theorem tG {ρ:Env}(hE:ρ.Ok) {cs new l:List SC}{o:Nat}{vs us:List Value}(h:aFm o new cs=some l) (hv:aB ρ cs=some vs) (hu:aB ρ new=some us) :
 aB ρ l=some (over vs.toArray o us).toList∧o+us.length≤vs.length:=by
 unfold aFm at h;split at h
 ·rename_i l1 r1 h1;split at h
  ·rename_i l2 r2 h2;injection h with h;subst h;obtain⟨i1,i2,i3⟩:=gC hE h1 hv;obtain⟨_,j2,j3⟩:=gC hE h2 i2;have hlen:=gX hE hu;rw [List.length_drop]at j3;have hle:o+us.length≤vs.length:=oq
   refine⟨?_,hle⟩;rw [aFn _ _ _ (by simpa using hle)];have:=iU (iU i1 hu) j2;rw [this,List.drop_drop,hlen]
  ·cases h
 ·cases h
theorem yX {cl:Nat}{op:BinOp}{a b v:Value}(h:sB cl op a b=some v):v.scalar=true:=by
 unfold sB at h;split at h
 ·split at h
  ·split at h <;> first|(injection h with h;subst h;rfl)|cases h
  ·cases h
 all_goals first|(injection h with h;subst h;rfl)|(split at h <;> first|(injection h with h;subst h;rfl)|(split at h <;> first|(injection h with h;subst h;rfl)|cases h)|cases h)|cases h
theorem yV {cl:Nat}{op:BinOp}{a b v:Value}(h:gA cl op a b=some v):v.scalar=true:=by
 unfold gA at h;split at h
 ·split at h
  ·injection h with h;subst h;rfl
  ·injection h with h;subst h;rfl
  ·split at h
   ·split at h <;> first|(injection h with h;subst h;rfl)|cases h
   ·cases h
 ·split at h <;> first|(injection h with h;subst h;rfl)|cases h
 ·split at h <;> first|(injection h with h;subst h;rfl)|cases h
 ·exact yX h
theorem xH {x:Option Value}{v:Value}(h:flat x=some v):x=some v∧v.scalar=true:=by
 unfold flat at h;split at h
 ·cases h
 ·cases h
 ·rename_i h1 h2;refine⟨h,?_⟩;subst h;cases v <;> first|rfl|exact (h1 _ rfl).elim|exact (h2 _ rfl).elim
theorem fC {s j:Nat}{x y v:Value}(h:kP s j x y=some v):∃b o n c k i,x=.slice (some ⟨b,o,none⟩) n c∧y=.int k i∧0≤i∧i<n∧v=.pointer (some ⟨b,o+i.toNat*s+j,none⟩):=by
 unfold kP at h;split at h
 ·split at h
  ·rename_i hr;injection h with h;exact⟨_,_,_,_,_,_,rfl,rfl,hr.1,hr.2,h.symm⟩
  ·cases h
 ·cases h
theorem rS {s:Nat}{x y z v:Value}(h:slcD s x y z=some v):∃A n c k lo k' hi,x=.slice A n c∧y=.int k lo∧z=.int k' hi∧0≤lo∧lo≤hi∧hi≤c∧
 v=.slice (if c=lo.toNat then A else A.map fun a=>a.add (lo.toNat*s)) (hi.toNat-lo.toNat) (c-lo.toNat):=by
 unfold slcD at h;split at h
 ·split at h
  ·rename_i hr;injection h with h;exact⟨_,_,_,_,_,_,_,rfl,rfl,rfl,hr.1,hr.2.1,hr.2.2,h.symm⟩
  ·cases h
 ·cases h
theorem nH {ρ:Env}:∀ {c:SC}{v:Value},c.scalar=true→c.den ρ=some v→v.scalar=true:=by
 intro c
 induction c with
 | var i=>
  intro v _ h;simp only [SC.den]at h;split at h
  ·cases h
  ·cases h
  ·rename_i h1 h2;cases v <;> first|rfl|exact absurd h (by first|exact h1 _|exact h2 _)
 | lit u=>intro v hs h;simp only [SC.den]at h;injection h with h;subst h;exact hs
 | ptr b o=>intro v _ h;simp only [SC.den]at h;split at h <;> cases h;rfl
 | sl b o n c=>intro v _ h;simp only [SC.den]at h;split at h <;> cases h;rfl
 | seg i m=>intro v hs h;cases hs
 | part x N i s j m _=>intro v hs h;cases hs
 | upd x N i s j y _ _=>intro v hs h;cases hs
 | fn f caps=>intro v _ h;simp only [SC.den]at h;split at h <;> cases h;rfl
 | fnb f b c=>intro v _ h;simp only [SC.den]at h;split at h <;> cases h;rfl
 | bin cl op a b iha ihb=>intro v _ h;simp only [SC.den]at h;split at h <;> first|exact yV h|cases h
 | pick c a b ihc iha ihb=>
  intro v hs h;simp only [SC.scalar,jv]at hs;simp only [SC.den]at h;split at h
  ·rename_i x y z h1 h2 h3;obtain⟨c0,rfl,rfl⟩:=tI h;split
   ·exact iha hs.1 h2
   ·exact ihb hs.2 h3
  ·cases h
 | idx a b _ _=>intro v _ h;simp only [SC.den]at h;(split at h <;> first|(unfold uO at h;split at h <;> cases h;rfl)|cases h)
 | le a b _ _=>intro v _ h;simp only [SC.den]at h;(split at h <;> first|(unfold leD at h;split at h <;> cases h;rfl)|cases h)
 | fit a b _ _=>intro v _ h;simp only [SC.den]at h;(split at h <;> first|(unfold aQr at h;split at h <;> cases h;rfl)|cases h)
 | byte a b _ _=>intro v _ h;simp only [SC.den]at h;(split at h <;> first|(unfold aEl at h;split at h <;> cases h;rfl)|cases h)
 | sub a b c _ _ _=>intro v _ h;simp only [SC.den]at h;(split at h <;> first|(unfold aSm at h;split at h <;> cases h;rfl)|cases h)
 | not a _=>intro v _ h;simp only [SC.den,qe]at h;obtain⟨x,_,h⟩:=h;unfold aHz at h;split at h <;> cases h;rfl
 | neg a _=>intro v _ h;simp only [SC.den,qe]at h;obtain⟨x,_,h⟩:=h;unfold aHv at h;split at h <;> cases h <;> rfl
 | conv k a _=>intro v _ h;simp only [SC.den,qe]at h;obtain⟨x,_,h⟩:=h;unfold vE at h;split at h <;> cases h;rfl
 | len a _=>intro v _ h;simp only [SC.den,qe]at h;obtain⟨x,_,h⟩:=h;unfold nZ at h;split at h <;> cases h <;> rfl
 | isSl st a _=>intro v _ h;simp only [SC.den,qe]at h;obtain⟨x,_,h⟩:=h;unfold aAb at h;split at h <;> cases h <;> rfl
 | nz a _=>intro v _ h;simp only [SC.den,qe]at h;obtain⟨x,_,h⟩:=h;unfold nzD at h;split at h <;> cases h;rfl
 | cap a _=>intro v _ h;simp only [SC.den,qe]at h;obtain⟨x,_,h⟩:=h;unfold aUv at h;split at h <;> cases h;rfl
 | slr i=>
  intro v _ h;simp only [SC.den]at h;split at h
  ·cases h
  ·cases h
  ·rename_i h1 h2;cases v <;> first|rfl|exact absurd h (by first|exact h1 _|exact h2 _)
 | psl p o n c=>intro v _ h;simp only [SC.den]at h;split at h <;> cases h;rfl
 | elem a i s j _ _=>intro v _ h;simp only [SC.den]at h;split at h;· (obtain⟨_,_,_,_,_,_,_,_,_,_,rfl⟩:=fC h;rfl)
                     ·cases h
 | slc a lo hi s _ _ _=>intro v _ h;simp only [SC.den]at h;split at h;· (obtain⟨_,_,_,_,_,_,_,_,_,_,_,_,_,rfl⟩:=rS h;rfl)
                        ·cases h
theorem kG {v:Value}(h:v.scalar=true):v.cells=#[v]:=by
 cases v <;> first|rfl|(simp [Value.scalar]at h)
theorem mL {ρ:Env}{c:SC}(hc:c.scalar=true):aB ρ [c]=(c.den ρ).map (fun v=>[v]):=by
 rw [cH (by cases c <;> first|rfl|cases hc) (fun i m e=>by rw [e]at hc;cases hc)]
 simp only [hc,if_true,aB];cases c.den ρ <;> rfl
theorem fV {ρ:Env}(hE:ρ.Ok):∀ {cs:List SC}{vs:List Value},aB ρ cs=some vs→∀u∈vs,u.scalar=true
 | [],vs,h=>by simp only [aB]at h;injection h with h;subst h;simp
 | c :: cs,vs,h=>by
  obtain⟨a,b,h1,h2,rfl⟩:=cO h;intro u hu;rcases zq.1 hu with hu|hu
  ·rcases mV hE h1 with ⟨_,hm⟩|⟨v,hs,hd,rfl⟩
   ·exact (hm u hu).1
   ·simp at hu;subst hu;exact nH hs hd
  ·exact fV hE h2 u hu
theorem cells?_spec {ρ:Env}{sv:SV}{cs:List SC}{v:Value}(h:sv.cells?=some cs) (hv:sv.den ρ=some v):aB ρ cs=some v.cells.toList:=by
 cases sv with
 | one c=>
  simp only [SV.cells?]at h;split at h
  ·rename_i hc;injection h with h;subst h;simp only [SV.den]at hv;rw [mL hc,hv,kG (nH hc hv)];rfl
  ·cases h
 | agg l=>
  simp only [SV.cells?]at h;injection h with h;subst h;simp only [bY,SV.den]at hv;split at hv
  ·rename_i vs h1;injection hv with hv;subst hv;rw [h1];simp [Value.cells]
  ·cases hv
 | _=>cases h
theorem iM {ρ:Env}:∀(l:List Value),(∀v∈l,v.scalar=true)→aB ρ (l.map .lit)=some l
 | [],_=>rfl
 | v :: l,h=>by
  have:=h v (by simp);simp [aB,SC.den,SC.scalar,this,iM l (fun u hu=>h u (by simp [hu]))]
theorem aAn {ρ:Env}{v:Value}(h:rO v≠.top):(rO v).den ρ=some v:=by
 unfold rO at h ⊢;split at h
 ·rename_i cs;split at h
  ·rename_i hs;simp only [hs,if_true,SV.den,bY];rw [iM _ (fun v hv=>Array.all_eq_true'.1 hs v (by simpa using hv))]
  ·exact absurd rfl h
 ·rename_i vs;split at h
  ·rename_i hs;have:vs=#[]:=vg hs;subst this;simp [SV.den,iW]
  ·exact absurd rfl h
 ·rename_i x h1 h2;rfl
def Ok (ρ:Env) (sv:SV) (v:Value):Prop:=sv=.top∨sv.den ρ=some v
theorem gS {ρ:Env}{tm:Tmp→SV}{a:Act}{x:Operand}(h:∀t,x=.tmp t→Ok ρ (tm t) (a.tmps.getD t undef)) (hx:opnd tm x≠.top) :
 (opnd tm x).den ρ=some (a.eval x):=by
 cases x with
 | tmp t=>exact (h t rfl).resolve_left hx
 | const v=>exact aAn hx
 | func f=>rfl
 | global g=>exact absurd rfl hx
theorem nA {P:Program}{ρ:Env}(hE:ρ.Ok) {t:TypeId}{cs:List SC}{off:Nat}{sv:SV}{vs:List Value}(h:oH P t cs off=some sv) (hv:aB ρ cs=some vs) :
 (∃m,gD P t=some true∧cM P t=some m∧off+m≤vs.length∧sv.den ρ=some (.agg (vs.toArray.extract off (off+m))))∨
 (∃m v,gD P t=some false∧cM P t=some m∧vs[off]?=some v∧sv.den ρ=some v):=by
 unfold oH at h;split at h
 ·rename_i m h1 h2;cases hc:cutW off m cs with
  | none=>simp [hc]at h
  | some l=>
   simp only [hc,zm]at h;injection h with h;subst h;obtain⟨i1,i2⟩:=pC hE hc hv;refine .inl ⟨m,h1,h2,i2,?_⟩;simp only [bY,SV.den,i1];simp [List.extract_eq_take_drop]
 ·rename_i m h1 h2;split at h
  ·rename_i c hc;split at h
   ·rename_i hs;injection h with h;subst h;obtain⟨i1,i2⟩:=pC hE hc hv;rw [mL hs]at i1;have hlt:off<vs.length:=oq
    refine .inr ⟨m,vs[off],h1,h2,by simp [hlt],?_⟩;cases hd:c.den ρ with
    | none=>rw [hd]at i1;cases i1
    | some v=>
     rw [hd]at i1;rw [wa hlt]at i1;simp only [zm,List.take_succ_cons,List.take_zero]at i1;injection i1 with i1;injection i1 with i1;simp only [SV.den,hd,i1]
   ·cases h
  ·cases h
 ·cases h
