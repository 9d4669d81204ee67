/- A symbolic executor of the model's code: lists of cells, operands. -/
import Derived.Test.YtmifbgccpdmjpaaGreatRdSy3
namespace Go.Proofs.YtmifbgccpdmjpaaGreat.Sy
open Go.RowKit
theorem dS {ρ:Env}{c:SC}(h:c.isRun=true) (cs:List SC):aD ρ (c :: cs)=(match eF ρ c,aD ρ cs with
 | some l,some us=>some (l++us)
 | _,_=>none):=by
 cases c <;> first|rfl|cases h
theorem bP {ρ:Env}{c:SC}(h:c.isRun=false) (hn:∀i m,c=.seg i m→False) (cs:List SC):aD ρ (c :: cs)=if c.scalar then (match c.den ρ,aD ρ cs with
 | some v,some us=>some (v :: us)
 | _,_=>none) else none:=by
 cases c <;> first|rfl|exact (hn _ _ rfl).elim|cases h
theorem pJ (xs:Array Value) (p m:Nat):(pickL xs p m).length=m:=by simp [pickL]
theorem aGx {q:Value→Prop}{xs:Array Value}{p m:Nat}(h:∀u∈xs.toList,q u) (h0:q (.bool false)):∀u∈pickL xs p m,q u:=by
 intro u hu;unfold pickL at hu;obtain⟨i,_,rfl⟩:=xl.1 hu;cases hx:xs[p+i]? with
 | none=>exact h0
 | some v=>exact h v (by rw [qa];exact Array.mem_of_getElem? hx)
theorem zV {q:Value→Prop}:∀ {l:List Value}{xs:Array Value}{o:Nat},(∀u∈xs.toList,q u)→(∀u∈l,q u)→∀u∈(over xs o l).toList,q u
 | [],_,_,h,_=>h
 | v :: l,xs,o,h,h'=>by
  unfold over;refine zV (fun u hu=>?_) fun u hu=>h' u (zl _ hu);rw [ky]at hu;rcases List.mem_or_eq_of_mem_set hu with hu|hu
  ·exact h u hu
  ·rw [hu];exact h' v (vd ..)
theorem aFl {vs:Array Value}{p:Nat}{v:Value}(h:aBc vs p=some v):vs[p]?=some v:=by
 unfold aBc at h;split at h <;> simp_all
theorem yM {vs:Array Value}{p:Nat}{v:Value}(h:aBc vs p=some v):v.scalar=true:=by
 unfold aBc at h;split at h
 ·cases h
 ·cases h
 ·rename_i h1 h2;cases v <;> first|rfl|exact absurd h (by first|exact h1 _|exact h2 _)
theorem aGs {o:Option Value}{us:List Value}(h:aBz o=some us):us.length=1∧∀u∈us,u.scalar=true∧u.noWord=true:=by
 unfold aBz at h;split at h
 ·split at h
  ·rename_i hc;injection h with h;subst h;simpa [Bool.and_eq_true] using hc
  ·cases h
 ·cases h
theorem aHo {ρ:Env}(hE:ρ.Ok):∀ {c:SC}{us:List Value},eF ρ c=some us→us.length=c.width∧∀u∈us,u.scalar=true∧u.noWord=true:=by
 intro c
 induction c with
 | part x N i s j m _=>
  intro us h;simp only [eF]at h;split at h
  ·rename_i vs k kk I h1 h2 h3;split at h
   ·injection h with h;subst h;obtain⟨cs,e,e1,e2⟩:=hE _ _ _ h2 h1;injection e with e;subst e;exact⟨pJ _ _ _,aGx e2 ⟨rfl,rfl⟩⟩
   ·cases h
  ·cases h
 | upd x N i s j y _ ih=>
  intro us h;simp only [eF]at h;split at h
  ·rename_i vs k kk I us' h1 h2 h3 h4;split at h
   ·rename_i hk;injection h with h;subst h;obtain⟨cs,e,e1,e2⟩:=hE _ _ _ h2 h1;injection e with e;subst e;refine⟨?_,zV e2 (ih h4).2⟩;rw [zr,fO,e1,hk];rfl
   ·cases h
  ·cases h
 | seg x m=>
  intro us h;simp only [eF]at h;split at h
  ·rename_i vs k h1 h2;split at h
   ·rename_i hk;injection h with h;subst h;obtain⟨cs,e,e1,e2⟩:=hE _ _ _ h2 h1;injection e with e;subst e;exact⟨by rw [zr,e1,hk];rfl,e2⟩
   ·cases h
  ·cases h
 | cat a b iha ihb=>
  intro us h;simp only [eF]at h;split at h
  ·rename_i u v h1 h2;injection h with h;subst h;obtain⟨a1,a2⟩:=iha h1;obtain⟨b1,b2⟩:=ihb h2;refine⟨by rw [oh,a1,b1];rfl,fun x hx=>?_⟩;rcases qs.1 hx with hx|hx
   ·exact a2 x hx
   ·exact b2 x hx
  ·cases h
 | _=>intro us h;exact aGs h
theorem qB {ρ:Env}{c:SC}(hc:c.scalar=false) {us:List Value}(h:aD ρ [c]=some us):eF ρ c=some us:=by
 cases c with
 | part x N i s j m=>
  simp only [aD]at h;split at h
  ·rename_i h1 h2;injection h2 with h2;injection h with h;subst h2;rw [qo]at h;subst h;exact h1
  ·cases h
 | upd x N i s j y=>
  simp only [aD]at h;split at h
  ·rename_i h1 h2;injection h2 with h2;injection h with h;subst h2;rw [qo]at h;subst h;exact h1
  ·cases h
 | seg x m=>
  simp only [aD]at h;split at h
  ·rename_i vs k us' h1 h2 h3;injection h3 with h3;subst h3;simp only [eF,h1,h2];rw [qo]at h;exact h
  ·cases h
 | _=>
  rw [bP rfl (fun i m e=>by cases e)]at h;rw [og (by rw [hc];simp)]at h;cases h
theorem vW (vs:Array Value) (p m a:Nat) (h:a≤m):pickL vs p m=pickL vs p a++pickL vs (p+a) (m-a):=by
 apply ki;intro q;unfold pickL;simp only [zq,jn,List.length_map,List.length_range]
 by_cases h1:q<a
 ·rw [om h1,vr h1,vr oq]
 ·rw [og h1]
  by_cases h2:q<m
  ·rw [vr h2,vr oq];simp only [js]
   congr 3
   omega
  ·rw [ol (by simpa using jl h2),ol (by simp;omega)];rfl
theorem xD (vs:Array Value):pickL vs 0 vs.size=vs.toList:=by
 apply ki;intro q;unfold pickL;simp only [jn,qe]
 by_cases h1:q<vs.size
 ·rw [vr h1,oo (by simpa using h1)];simp [Array.getElem?_eq_getElem h1]
 ·rw [ol (by simpa using jl h1),ol (by simpa using jl h1)];rfl
theorem aFm {ρ:Env}(hE:ρ.Ok) {c c1 c2:SC}{a:Nat}{us:List Value}(h:aNu c a=some (c1,c2)) (ha:a≤c.width) (hu:aD ρ [c]=some us):aD ρ [c1]=some (us.take a)∧aD ρ [c2]=some (us.drop a):=by
 have hr:=qB (by cases c <;> first|rfl|cases h) hu
 cases c with
 | part x N i s j m=>
  simp only [aNu]at h;injection h with h;injection h with h1 h2;subst h1 h2;simp only [SC.width]at ha;simp only [eF]at hr;split at hr
  ·rename_i vs k kk I e1 e2 e3;split at hr
   ·rename_i hk;injection hr with hr;rw [vW _ _ m a ha]at hr;subst hr;simp only [aD,eF,e1,e2,e3,hk,if_true,qo];have hl:(pickL vs (I.toNat*s+j) a).length=a:=pJ _ _ _;constructor
    ·rw [List.take_append_of_le_length oq,jx oq]
    ·rw [List.drop_append,hl,List.drop_of_length_le oq,ka,kj,xp,yv]
   ·cases hr
  ·cases hr
 | seg x N=>
  simp only [aNu]at h;injection h with h;injection h with h1 h2;subst h1 h2;simp only [SC.width]at ha;simp only [eF]at hr;split at hr
  ·rename_i vs k e1 e2;split at hr
   ·rename_i hk;injection hr with hr;obtain⟨cs,e,e3,_⟩:=hE _ _ _ e2 e1;injection e with e;subst e;have hsz:vs.size=N:=by rw [e3,hk]
    rw [←xD,hsz,vW _ _ N a ha]at hr;subst hr;simp only [aD,eF,e1,e2,SC.den,hk,if_true,qo,Int.toNat_zero,kn,qe];have hl:(pickL vs 0 a).length=a:=pJ _ _ _;constructor
    ·rw [List.take_append_of_le_length oq,jx oq]
    ·rw [List.drop_append,hl,List.drop_of_length_le oq,ka,kj,xp]
   ·cases hr
  ·cases hr
 | _=>cases h
theorem cH {ρ:Env}{c:SC}{cs:List SC}{vs:List Value}(h:aD ρ (c :: cs)=some vs) :
 ∃us ws,aD ρ [c]=some us∧aD ρ cs=some ws∧vs=us++ws:=by
 by_cases hrun:c.isRun=true
 ·rw [dS hrun]at h ⊢;split at h
  ·rename_i l us h1 h2;injection h with h;exact⟨l,us,by simp only [h1,aD,qo],h2,h.symm⟩
  ·cases h
 have hrun:c.isRun=false:=by simpa using hrun
 by_cases hseg:∃i m,c=.seg i m
 ·obtain⟨i,m,rfl⟩:=hseg;simp only [aD]at h ⊢;split at h
  ·rename_i avs k us h1 h2 h3;split at h
   ·rename_i hm;injection h with h;exact⟨avs.toList,us,by simp [h1,h2,hm],h3,h.symm⟩
   ·cases h
  ·cases h
 ·have hn:∀i m,c=.seg i m→False:=fun i m e=>hseg ⟨i,m,e⟩;rw [bP hrun hn]at h ⊢;split at h
  ·rename_i hs;split at h
   ·rename_i v us h1 h2;injection h with h;exact⟨[v],us,by simp only [hs,h1,aD,if_true],h2,by rw [←h];rfl⟩
   ·cases h
  ·cases h
theorem dR {ρ:Env}{c:SC}{cs:List SC}{us ws:List Value}(h:aD ρ [c]=some us) (h':aD ρ cs=some ws):aD ρ (c :: cs)=some (us++ws):=by
 by_cases hrun:c.isRun=true
 ·rw [dS hrun]at h ⊢;split at h
  ·rename_i l us' h1 h2;simp only [aD]at h2;injection h2 with h2;injection h with h;simp only [h1,h',←h,←h2,qo]
  ·cases h
 have hrun:c.isRun=false:=by simpa using hrun
 by_cases hseg:∃i m,c=.seg i m
 ·obtain⟨i,m,rfl⟩:=hseg;simp only [aD]at h ⊢;split at h
  ·rename_i avs k us' h1 h2 h3;injection h3 with h3;split at h
   ·rename_i hm;injection h with h;simp [h1,h2,h',hm,←h,←h3]
   ·cases h
  ·cases h
 ·have hn:∀i m,c=.seg i m→False:=fun i m e=>hseg ⟨i,m,e⟩;rw [bP hrun hn]at h ⊢;split at h
  ·rename_i hs;split at h
   ·rename_i v us' h1 h2;injection h with h;simp only [aD]at h2;injection h2 with h2;subst h2 h;simp only [hs,h1,h',if_true];rfl
   ·cases h
  ·cases h
theorem iT {ρ:Env}:∀ {l r:List SC}{us ws:List Value},aD ρ l=some us→aD ρ r=some ws→aD ρ (l++r)=some (us++ws)
 | [],r,us,ws,h,h'=>by simp only [aD]at h;injection h with h;subst h;simpa using h'
 | c :: l,r,us,ws,h,h'=>by
  obtain⟨a,b,h1,h2,rfl⟩:=cH h;rw [yn,jk];exact dR h1 (iT h2 h')
theorem mJ {ρ:Env}(hE:ρ.Ok) {c:SC}{us:List Value}(h:aD ρ [c]=some us) :
 (us.length=c.width∧∀u∈us,u.scalar=true∧u.noWord=true)∨(∃v,c.scalar=true∧c.den ρ=some v∧us=[v]):=by
 by_cases hrun:c.isRun=true
 ·rw [dS hrun]at h;split at h
  ·rename_i l us' h1 h2;simp only [aD]at h2;injection h2 with h2;injection h with h;subst h2;rw [qo]at h;subst h;exact .inl (aHo hE h1)
  ·cases h
 have hrun:c.isRun=false:=by simpa using hrun
 by_cases hseg:∃i m,c=.seg i m
 ·obtain⟨i,m,rfl⟩:=hseg;simp only [aD]at h;split at h
  ·rename_i avs k us' h1 h2 h3;injection h3 with h3;split at h
   ·rename_i hm;injection h with h;obtain⟨cs,e,e1,e2⟩:=hE _ _ _ h2 h1;injection e with e;subst e;subst h3;rw [qo]at h;subst h;exact .inl ⟨by simpa [SC.width] using (by omega:avs.size=m),e2⟩
   ·cases h
  ·cases h
 ·have hn:∀i m,c=.seg i m→False:=fun i m e=>hseg ⟨i,m,e⟩;rw [bP hrun hn]at h;split at h
  ·rename_i hs;split at h
   ·rename_i v us' h1 h2;injection h with h;simp only [aD]at h2;injection h2 with h2;subst h2;exact .inr ⟨v,hs,h1,h.symm⟩
   ·cases h
  ·cases h
theorem gX {ρ:Env}(hE:ρ.Ok) {c:SC}{us:List Value}(h:aD ρ [c]=some us):us.length=c.width:=by
 rcases mJ hE h with ⟨hm,_⟩|⟨v,hs,_,rfl⟩
 ·exact hm
 ·cases c <;> first|rfl|(cases hs;done)
theorem cW {ρ:Env}(hE:ρ.Ok):∀ {cs:List SC}{vs:List Value},aD ρ cs=some vs→vs.length=widths cs
 | [],vs,h=>by simp only [aD]at h;injection h with h;subst h;rfl
 | c :: cs,vs,h=>by
  obtain⟨a,b,h1,h2,rfl⟩:=cH h;rw [oh,gX hE h1,cW hE h2,widths]
theorem gA {ρ:Env}(hE:ρ.Ok):∀ {cs:List SC}{o:Nat}{l r:List SC}{vs:List Value},jT o cs=some (l,r)→aD ρ cs=some vs→
 aD ρ l=some (vs.take o)∧aD ρ r=some (vs.drop o)∧o≤vs.length
 | cs,0,l,r,vs,h,hv=>by
  simp only [jT]at h;injection h with h;injection h with h1 h2;subst h1 h2;exact⟨by simp [aD],by simpa using hv,jg _⟩
 | [],o+1,l,r,vs,h,hv=>by simp [jT]at h
 | c :: cs,o+1,l,r,vs,h,hv=>by
  simp only [jT]at h;split at h
  ·cases h
  split at h
  ·rename_i hw0 hw;split at h
   ·rename_i l' r' hs;injection h with h;injection h with h1 h2;subst h1 h2;obtain⟨a,b,h1,h2,rfl⟩:=cH hv;obtain⟨i1,i2,i3⟩:=gA hE hs h2;have hl:=gX hE h1;refine⟨?_,?_,?_⟩
    ·have:=dR h1 i1;rw [this,List.take_append,jx (show a.length≤o+1 by omega),hl]
    ·rw [i2,List.drop_append,List.drop_of_length_le (show a.length≤o+1 by omega),hl];rfl
    ·rw [oh];omega
   ·cases h
  ·rename_i hw0 hw;split at h
   ·rename_i c1 c2 hc;injection h with h;injection h with h1 h2;subst h1 h2;obtain⟨a,b,g1,g2,rfl⟩:=cH hv;have hl:=gX hE g1;obtain⟨k1,k2⟩:=aFm hE hc oq g1;refine⟨?_,?_,by rw [oh];omega⟩
    ·rw [k1,List.take_append_of_le_length oq]
    ·rw [dR k2 g2,List.drop_append_of_le_length oq]
   ·cases h
theorem eO {ρ:Env}(hE:ρ.Ok) {cs l:List SC}{o m:Nat}{vs:List Value}(h:uI o m cs=some l) (hv:aD ρ cs=some vs) :
 aD ρ l=some ((vs.drop o).take m)∧o+m≤vs.length:=by
 unfold uI at h;split at h
 ·rename_i l1 r1 h1;split at h
  ·rename_i l2 r2 h2;injection h with h;subst h;obtain⟨_,i2,i3⟩:=gA hE h1 hv;obtain⟨j1,_,j3⟩:=gA hE h2 i2;exact⟨j1,by rw [jr]at j3;omega⟩
  ·cases h
 ·cases h
theorem oC:∀(l:List Value) (cs:Array Value) (o:Nat),o+l.length≤cs.size→(over cs o l).toList=cs.toList.take o++l++cs.toList.drop (o+l.length)
 | [],cs,o,h=>by simp [over]
 | v :: l,cs,o,h=>by
  simp only [od]at h;unfold over;rw [oC l _ _ (by simp;omega)];simp only [ky,od];have hl:o<cs.toList.length:=by simpa using (by omega:o<cs.size)
  have hl2:cs.toList.length=cs.size:=zr;rw [List.take_set,List.drop_set_of_lt oq,List.take_succ_eq_append_getElem hl];have e:(List.take o cs.toList++[cs.toList[o]]).set o v=List.take o cs.toList++[v]:=by
   rw [List.set_append_right _ _ (by rw [ja];omega),ja];have:o-min o cs.toList.length=0:=oq
   rw [this];rfl
  rw [e];have e2:o+1+l.length=o+(l.length+1):=oq
  simp [e2]
theorem mQ {ρ:Env}(hE:ρ.Ok) {cs new l:List SC}{o:Nat}{vs us:List Value}(h:tC o new cs=some l) (hv:aD ρ cs=some vs) (hu:aD ρ new=some us) :
 aD ρ l=some (over vs.toArray o us).toList∧o+us.length≤vs.length:=by
 unfold tC at h;split at h
 ·rename_i l1 r1 h1;split at h
  ·rename_i l2 r2 h2;injection h with h;subst h;obtain⟨i1,i2,i3⟩:=gA hE h1 hv;obtain⟨_,j2,j3⟩:=gA hE h2 i2;have hlen:=cW hE hu;rw [jr]at j3;have hle:o+us.length≤vs.length:=oq
   refine⟨?_,hle⟩;rw [oC _ _ _ (by simpa using hle)];have:=iT (iT i1 hu) j2;rw [this,List.drop_drop,hlen]
  ·cases h
 ·cases h
theorem yF {cl:Nat}{op:BinOp}{a b v:Value}(h:oW cl op a b=some v):v.scalar=true:=by
 unfold oW at h;split at h
 ·split at h
  ·split at h <;> first|(injection h with h;subst h;rfl)|cases h
  ·cases h
 all_goals first|(injection h with h;subst h;rfl)|(split at h <;> first|(injection h with h;subst h;rfl)|(split at h <;> first|(injection h with h;subst h;rfl)|cases h)|cases h)|cases h
theorem yD {cl:Nat}{op:BinOp}{a b v:Value}(h:eG cl op a b=some v):v.scalar=true:=by
 unfold eG at h;split at h
 ·split at h
  ·injection h with h;subst h;rfl
  ·injection h with h;subst h;rfl
  ·split at h
   ·split at h <;> first|(injection h with h;subst h;rfl)|cases h
   ·cases h
 ·split at h <;> first|(injection h with h;subst h;rfl)|cases h
 ·split at h <;> first|(injection h with h;subst h;rfl)|cases h
 ·exact yF h
theorem wT {x:Option Value}{v:Value}(h:flat x=some v):x=some v∧v.scalar=true:=by
 unfold flat at h;split at h
 ·cases h
 ·cases h
 ·rename_i h1 h2;refine⟨h,?_⟩;subst h;cases v <;> first|rfl|exact (h1 _ rfl).elim|exact (h2 _ rfl).elim
theorem dT {s j:Nat}{x y v:Value}(h:iZ s j x y=some v):∃b o n c k i,x=.slice (some ⟨b,o,none⟩) n c∧y=.int k i∧0≤i∧i<n∧v=.pointer (some ⟨b,o+i.toNat*s+j,none⟩):=by
 unfold iZ at h;split at h
 ·split at h
  ·rename_i hr;injection h with h;exact⟨_,_,_,_,_,_,rfl,rfl,hr.1,hr.2,h.symm⟩
  ·cases h
 ·cases h
theorem rY {s:Nat}{x y z v:Value}(h:slcD s x y z=some v):∃A n c k lo k' hi,x=.slice A n c∧y=.int k lo∧z=.int k' hi∧0≤lo∧lo≤hi∧hi≤c∧
 v=.slice (if c=lo.toNat then A else A.map fun a=>a.add (lo.toNat*s)) (hi.toNat-lo.toNat) (c-lo.toNat):=by
 unfold slcD at h;split at h
 ·split at h
  ·rename_i hr;injection h with h;exact⟨_,_,_,_,_,_,_,rfl,rfl,rfl,hr.1,hr.2.1,hr.2.2,h.symm⟩
  ·cases h
 ·cases h
theorem mX {ρ:Env}:∀ {c:SC}{v:Value},c.scalar=true→c.den ρ=some v→v.scalar=true:=by
 intro c
 induction c with
 | var i=>
  intro v _ h;simp only [SC.den]at h;split at h
  ·cases h
  ·cases h
  ·rename_i h1 h2;cases v <;> first|rfl|exact absurd h (by first|exact h1 _|exact h2 _)
 | lit u=>intro v hs h;simp only [SC.den]at h;injection h with h;subst h;exact hs
 | ptr b o=>intro v _ h;simp only [SC.den]at h;split at h <;> cases h;rfl
 | sl b o n c=>intro v _ h;simp only [SC.den]at h;split at h <;> cases h;rfl
 | seg i m=>intro v hs h;cases hs
 | part x N i s j m _=>intro v hs h;cases hs
 | upd x N i s j y _ _=>intro v hs h;cases hs
 | cat a b _ _=>intro v hs h;cases hs
 | fn f caps=>intro v _ h;simp only [SC.den]at h;split at h <;> cases h;rfl
 | fnb f b c=>intro v _ h;simp only [SC.den]at h;split at h <;> cases h;rfl
 | bin cl op a b iha ihb=>intro v _ h;simp only [SC.den]at h;split at h <;> first|exact yD h|cases h
 | pick c a b ihc iha ihb=>
  intro v hs h;simp only [SC.scalar,qb]at hs;simp only [SC.den]at h;split at h
  ·rename_i x y z h1 h2 h3;obtain⟨c0,rfl,rfl⟩:=oF h;split
   ·exact iha hs.1 h2
   ·exact ihb hs.2 h3
  ·cases h
 | idx a b _ _=>intro v _ h;simp only [SC.den]at h;(split at h <;> first|(unfold rL at h;split at h <;> cases h;rfl)|cases h)
 | le a b _ _=>intro v _ h;simp only [SC.den]at h;(split at h <;> first|(unfold leD at h;split at h <;> cases h;rfl)|cases h)
 | fit a b _ _=>intro v _ h;simp only [SC.den]at h;(split at h <;> first|(unfold aOf at h;split at h <;> cases h;rfl)|cases h)
 | byte a b _ _=>intro v _ h;simp only [SC.den]at h;(split at h <;> first|(unfold aDu at h;split at h <;> cases h;rfl)|cases h)
 | sub a b c _ _ _=>intro v _ h;simp only [SC.den]at h;(split at h <;> first|(unfold aQc at h;split at h <;> cases h;rfl)|cases h)
 | not a _=>intro v _ h;simp only [SC.den,qn]at h;obtain⟨x,_,h⟩:=h;unfold zP at h;split at h <;> cases h;rfl
 | neg a _=>intro v _ h;simp only [SC.den,qn]at h;obtain⟨x,_,h⟩:=h;unfold aGo at h;split at h <;> cases h <;> rfl
 | conv k a _=>intro v _ h;simp only [SC.den,qn]at h;obtain⟨x,_,h⟩:=h;unfold uX at h;split at h <;> cases h;rfl
 | len a _=>intro v _ h;simp only [SC.den,qn]at h;obtain⟨x,_,h⟩:=h;unfold mM at h;split at h <;> cases h <;> rfl
 | isSl st a _=>intro v _ h;simp only [SC.den,qn]at h;obtain⟨x,_,h⟩:=h;unfold zE at h;split at h <;> cases h <;> rfl
 | nz a _=>intro v _ h;simp only [SC.den,qn]at h;obtain⟨x,_,h⟩:=h;unfold nzD at h;split at h <;> cases h;rfl
 | cap a _=>intro v _ h;simp only [SC.den,qn]at h;obtain⟨x,_,h⟩:=h;unfold aSc at h;split at h <;> cases h;rfl
 | slr i=>
  intro v _ h;simp only [SC.den]at h;split at h
  ·cases h
  ·cases h
  ·rename_i h1 h2;cases v <;> first|rfl|exact absurd h (by first|exact h1 _|exact h2 _)
 | psl p o n c=>intro v _ h;simp only [SC.den]at h;split at h <;> cases h;rfl
 | cel x i s _=>intro v _ h;simp only [SC.den]at h;split at h;· exact yM h
                ·cases h
 | elem a i s j _ _=>intro v _ h;simp only [SC.den]at h;split at h;· (obtain⟨_,_,_,_,_,_,_,_,_,_,rfl⟩:=dT h;rfl)
                     ·cases h
 | slc a lo hi s _ _ _=>intro v _ h;simp only [SC.den]at h;split at h;· (obtain⟨_,_,_,_,_,_,_,_,_,_,_,_,_,rfl⟩:=rY h;rfl)
                        ·cases h
theorem jR {v:Value}(h:v.scalar=true):v.cells=#[v]:=by
 cases v <;> first|rfl|(simp [Value.scalar]at h)
theorem lY {ρ:Env}{c:SC}(hc:c.scalar=true):aD ρ [c]=(c.den ρ).map (fun v=>[v]):=by
 rw [bP (by cases c <;> first|rfl|cases hc) (fun i m e=>by rw [e]at hc;cases hc)]
 simp only [hc,if_true,aD];cases c.den ρ <;> rfl
theorem cI {ρ:Env}(hE:ρ.Ok):∀ {cs:List SC}{vs:List Value},aD ρ cs=some vs→∀u∈vs,u.scalar=true
 | [],vs,h=>by simp only [aD]at h;injection h with h;subst h;simp
 | c :: cs,vs,h=>by
  obtain⟨a,b,h1,h2,rfl⟩:=cH h;intro u hu;rcases qs.1 hu with hu|hu
  ·rcases mJ hE h1 with ⟨_,hm⟩|⟨v,hs,hd,rfl⟩
   ·exact (hm u hu).1
   ·simp at hu;subst hu;exact mX hs hd
  ·exact cI hE h2 u hu
theorem cells?_spec {ρ:Env}{sv:SV}{cs:List SC}{v:Value}(h:sv.cells?=some cs) (hv:sv.den ρ=some v):aD ρ cs=some v.cells.toList:=by
 cases sv with
 | one c=>
  simp only [SV.cells?]at h;split at h
  ·rename_i hc;injection h with h;subst h;simp only [SV.den]at hv;rw [lY hc,hv,jR (mX hc hv)];rfl
  ·cases h
 | agg l=>
  simp only [SV.cells?]at h;injection h with h;subst h;simp only [bR,SV.den]at hv;split at hv
  ·rename_i vs h1;injection hv with hv;subst hv;rw [h1];simp [Value.cells]
  ·cases hv
 | _=>cases h
theorem iI {ρ:Env}:∀(l:List Value),(∀v∈l,v.scalar=true)→aD ρ (l.map .lit)=some l
 | [],_=>rfl
 | v :: l,h=>by
  have:=h v (by simp);simp [aD,SC.den,SC.scalar,this,iI l (fun u hu=>h u (by simp [hu]))]
theorem zQ {ρ:Env}{v:Value}(h:rV v≠.top):(rV v).den ρ=some v:=by
 unfold rV at h ⊢;split at h
 ·rename_i cs;split at h
  ·rename_i hs;simp only [hs,if_true,SV.den,bR];rw [iI _ (fun v hv=>Array.all_eq_true'.1 hs v (by simpa using hv))]
  ·exact absurd rfl h
 ·rename_i vs;split at h
  ·rename_i hs;have:vs=#[]:=zj hs;subst this;simp [SV.den,iC]
  ·exact absurd rfl h
 ·rename_i x h1 h2;rfl
def Ok (ρ:Env) (sv:SV) (v:Value):Prop:=sv=.top∨sv.den ρ=some v
theorem gV {ρ:Env}{tm:Tmp→SV}{a:Act}{x:Operand}(h:∀t,x=.tmp t→Ok ρ (tm t) (a.tmps.getD t undef)) (hx:opnd tm x≠.top) :
 (opnd tm x).den ρ=some (a.eval x):=by
 cases x with
 | tmp t=>exact (h t rfl).resolve_left hx
 | const v=>exact zQ hx
 | func f=>rfl
 | global g=>exact absurd rfl hx
theorem mR {P:Program}{ρ:Env}(hE:ρ.Ok) {t:TypeId}{cs:List SC}{off:Nat}{sv:SV}{vs:List Value}(h:oE P t cs off=some sv) (hv:aD ρ cs=some vs) :
 (∃m,dN P t=some true∧bQ P t=some m∧off+m≤vs.length∧sv.den ρ=some (.agg (vs.toArray.extract off (off+m))))∨
 (∃m v,dN P t=some false∧bQ P t=some m∧vs[off]?=some v∧sv.den ρ=some v):=by
 unfold oE at h;split at h
 ·rename_i m h1 h2;cases hc:uI off m cs with
  | none=>simp [hc]at h
  | some l=>
   simp only [hc,js]at h;injection h with h;subst h;obtain⟨i1,i2⟩:=eO hE hc hv;refine .inl ⟨m,h1,h2,i2,?_⟩;simp only [bR,SV.den,i1];simp [List.extract_eq_take_drop]
 ·rename_i m h1 h2;split at h
  ·rename_i c hc;split at h
   ·rename_i hs;injection h with h;subst h;obtain⟨i1,i2⟩:=eO hE hc hv;rw [lY hs]at i1;have hlt:off<vs.length:=oq
    refine .inr ⟨m,vs[off],h1,h2,by simp [hlt],?_⟩;cases hd:c.den ρ with
    | none=>rw [hd]at i1;cases i1
    | some v=>
     rw [hd]at i1;rw [xd hlt]at i1;simp only [js,List.take_succ_cons,List.take_zero]at i1;injection i1 with i1;injection i1 with i1;simp only [SV.den,hd,i1]
   ·cases h
  ·cases h
 ·cases h
def aJa:BinOp→Bool
 | .eql | .neq | .lss | .leq | .gtr | .geq=>true
 | _=>false
def wordless (kd:Nat→Option LK):SC→Bool
 | .var i=>match kd i with
  | some (.int .u64)=>false
  | some _=>true
  | none=>false
 | .lit v=>v.noWord
 | .bin 0 op a _=>aJa op || wordless kd a
 | .bin 8 _ _ b=>wordless kd b
 | .bin 10 _ _ b=>wordless kd b
 | .neg a=>wordless kd a
 | .conv k _=>k != .u64
 | .pick _ a b=>wordless kd a && wordless kd b
 | .slr i=>match kd i with
  | some .slice=>true
  | _=>false
 | .upd _ _ _ _ _ y=>wordless kd y
 | .cat a b=>wordless kd a && wordless kd b
 | .cel _ _ _ _=>false
 | _=>true
theorem yE {cl:Nat}{op:BinOp}{x y v:Value}(h:oW cl op x y=some v) (hy:cl=8∨cl=10→y.noWord=true):v.noWord=true:=by
 unfold oW at h;split at h
 ·split at h
  ·split at h <;> first|(injection h with h;subst h;rfl)|cases h
  ·cases h
 case h_6=>
  injection h with h;subst h;have:=hy (.inl rfl);rename_i d _;cases d <;> first|rfl|cases this
 case h_8=>
  injection h with h;subst h;exact hy (.inr rfl)
 all_goals first|(injection h with h;subst h;rfl)|(split at h <;> first|(injection h with h;subst h;rfl)|(split at h <;> first|(injection h with h;subst h;rfl)|cases h)|cases h)|cases h
theorem yC {cl:Nat}{op:BinOp}{x y v:Value}(h:eG cl op x y=some v) (hx:cl=0→aJa op=true∨x.noWord=true) (hy:cl=8∨cl=10→y.noWord=true):v.noWord=true:=by
 unfold eG at h;split at h
 ·rename_i k i k' j;have hx:=hx rfl;have hk:aJa op=true∨∀n,(Value.int k n).noWord=true:=by
   rcases hx with hx|hx
   ·exact .inl hx
   ·refine .inr fun n=>?_;cases k <;> first|rfl|cases hx
  cases op <;> simp only at h
  all_goals (try split at h)
  all_goals (try cases h)
  all_goals first|rfl|(rcases hk with hk|hk <;> first|exact hk _|cases hk)
 ·cases op <;> simp only at h <;> cases h <;> rfl
 ·cases op <;> simp only at h <;> cases h <;> rfl
 ·exact yE h hy
theorem xV {ρ:Env}(hE:ρ.Ok):∀ {c:SC}{v:Value},wordless ρ.kd c=true→c.den ρ=some v→v.noWord=true:=by
 intro c
 induction c with
 | var i=>
  intro v hw h;simp only [SC.den]at h;split at h
  ·cases h
  ·cases h
  ·rename_i h1 h2;simp only [wordless]at hw;split at hw
   ·cases hw
   ·rename_i k hne hk;have:=hE i k v hk h;cases k with
    | bool=>obtain⟨b,rfl⟩:=this;rfl
    | int k=>obtain⟨b,rfl⟩:=this;cases k <;> first|rfl|exact (hne rfl).elim
    | str=>obtain⟨b,rfl⟩:=this;rfl
    | slice=>obtain⟨A,n,c,rfl⟩:=this;rfl
    | any=>exact this.2
    | seg m=>obtain⟨b,rfl,_⟩:=this;rfl
    | row=>obtain⟨b,rfl,_⟩:=this;rfl
    | map=>obtain⟨b,rfl⟩:=this;rfl
    | flt k=>obtain⟨b,rfl⟩:=this;rfl
    | cpx k=>obtain⟨a,b,rfl⟩:=this;rfl
   ·cases hw
 | lit u=>intro v hw h;simp only [SC.den]at h;injection h with h;subst h;exact hw
 | ptr b o=>intro v _ h;simp only [SC.den]at h;split at h <;> cases h;rfl
 | sl b o n c=>intro v _ h;simp only [SC.den]at h;split at h <;> cases h;rfl
 | seg i m=>intro v _ h;cases h
 | part x N i s j m _=>intro v _ h;cases h
 | upd x N i s j y _ _=>intro v _ h;cases h
 | cat a b _ _=>intro v _ h;cases h
 | fn f caps=>intro v _ h;simp only [SC.den]at h;split at h <;> cases h;rfl
 | fnb f b c=>intro v _ h;simp only [SC.den]at h;split at h <;> cases h;rfl
 | bin cl op a b iha ihb=>
  intro v hw h;simp only [SC.den]at h;split at h
  ·rename_i x y h1 h2;refine yC h (fun hc=>?_) fun hc=>?_
   ·subst hc;simp only [wordless,zb]at hw;exact hw.imp id (fun hw=>iha hw h1)
   ·rcases hc with rfl|rfl <;> exact ihb hw h2
  ·cases h
 | pick c a b ihc iha ihb=>
  intro v hw h;simp only [wordless,qb]at hw;simp only [SC.den]at h;split at h
  ·rename_i x y z h1 h2 h3;obtain⟨c0,rfl,rfl⟩:=oF h;split
   ·exact iha hw.1 h2
   ·exact ihb hw.2 h3
  ·cases h
 | neg a ih=>
  intro v hw h;simp only [SC.den,qn]at h;obtain⟨x,h1,h⟩:=h;have:=ih hw h1;unfold aGo at h;split at h <;> cases h
  ·rename_i k n;cases k <;> first|rfl|cases this
  ·rfl
 | conv k a _=>
  intro v hw h;simp only [SC.den,qn]at h;obtain⟨x,_,h⟩:=h;unfold uX at h;split at h <;> cases h;cases k <;> first|rfl|(simp [wordless]at hw)
 | idx a b _ _=>intro v _ h;simp only [SC.den]at h;(split at h <;> first|(unfold rL at h;split at h <;> cases h;rfl)|cases h)
 | le a b _ _=>intro v _ h;simp only [SC.den]at h;(split at h <;> first|(unfold leD at h;split at h <;> cases h;rfl)|cases h)
 | fit a b _ _=>intro v _ h;simp only [SC.den]at h;(split at h <;> first|(unfold aOf at h;split at h <;> cases h;rfl)|cases h)
 | byte a b _ _=>intro v _ h;simp only [SC.den]at h;(split at h <;> first|(unfold aDu at h;split at h <;> cases h;rfl)|cases h)
 | sub a b c _ _ _=>intro v _ h;simp only [SC.den]at h;(split at h <;> first|(unfold aQc at h;split at h <;> cases h;rfl)|cases h)
 | not a _=>intro v _ h;simp only [SC.den,qn]at h;obtain⟨x,_,h⟩:=h;unfold zP at h;split at h <;> cases h;rfl
 | len a _=>intro v _ h;simp only [SC.den,qn]at h;obtain⟨x,_,h⟩:=h;unfold mM at h;split at h <;> cases h <;> rfl
 | isSl st a _=>intro v _ h;simp only [SC.den,qn]at h;obtain⟨x,_,h⟩:=h;unfold zE at h;split at h <;> cases h <;> rfl
 | nz a _=>intro v _ h;simp only [SC.den,qn]at h;obtain⟨x,_,h⟩:=h;unfold nzD at h;split at h <;> cases h;rfl
 | cap a _=>intro v _ h;simp only [SC.den,qn]at h;obtain⟨x,_,h⟩:=h;unfold aSc at h;split at h <;> cases h;rfl
 | psl p o n c=>intro v _ h;simp only [SC.den]at h;split at h <;> cases h;rfl
 | cel x i s k _=>intro v hw;cases hw
 | slr i=>
  intro v hw h;simp only [SC.den]at h;split at h
  ·cases h
  ·cases h
  ·simp only [wordless]at hw;split at hw
   ·rename_i hk;obtain⟨A,n,c,rfl⟩:=hE i _ v hk h;rfl
   ·cases hw
 | elem a i s j _ _=>intro v _ h;simp only [SC.den]at h;split at h;· (obtain⟨_,_,_,_,_,_,_,_,_,_,rfl⟩:=dT h;rfl)
                     ·cases h
 | slc a lo hi s _ _ _=>intro v _ h;simp only [SC.den]at h;split at h;· (obtain⟨_,_,_,_,_,_,_,_,_,_,_,_,_,rfl⟩:=rY h;rfl)
                        ·cases h
theorem bX {ρ:Env}(hE:ρ.Ok):∀ {cs:List SC}{vs:List Value},cs.all (wordless ρ.kd)=true→aD ρ cs=some vs→∀u∈vs,u.noWord=true
 | [],vs,_,h=>by simp only [aD]at h;injection h with h;subst h;simp
 | c :: cs,vs,hw,h=>by
  obtain⟨a,b,h1,h2,rfl⟩:=cH h;simp only [yx,qb]at hw;intro u hu;rcases qs.1 hu with hu|hu
  ·rcases mJ hE h1 with ⟨_,hm⟩|⟨v,hs,hd,rfl⟩
   ·exact (hm u hu).2
   ·simp at hu;subst hu;exact xV hE hw.1 hd
  ·exact bX hE hw.2 h2 u hu
