/- A symbolic executor of the model's code: one operation is what it says. -/
import Derived.Test.YtmifbgccpdmjpaaGreatTbSy4
import Derived.ChangeKeysEq
namespace Go.Proofs.YtmifbgccpdmjpaaGreat.Sy
open Go.RowKit
def argsD (ρ:Env):List SV→Option (List Value)
 | []=>some []
 | a :: l=>match a.den ρ,argsD ρ l with
  | some v,some vs=>some (v :: vs)
  | _,_=>none
theorem aA {P:Program}{w:World}{t:TypeId}{d:TypeDesc}(h:dC P t=some d):(underlying t).run P w=.ok d w:=by
 rw [jS]at h;simp [underlying,h]
theorem cK {P:Program}{w:World}{t:TypeId}{d:TypeInfo}(h:kM P t=some d):(typeInfo t).run P w=.ok d w:=by
 rw [gV]at h;simp [typeInfo,h]
theorem aG {P:Program}{w:World}{t:TypeId}{m:Nat}(h:bU P t=some m):(sizeOf t).run P w=.ok m w:=by
 unfold bU at h;rw [gV]at h;cases hi:P.info? t with
 | none=>simp [hi]at h
 | some i=>
  simp only [hi,jm]at h;injection h with h;simp [sizeOf,typeInfo,hi,h]
theorem aZ {P:Program}{w:World}{t:TypeId}{b:Bool}(h:dA P t=some b):(isAgg t).run P w=.ok b w:=by
 unfold dA at h;rw [jS]at h;split at h
 ·rename_i fs hu;injection h with h;subst h;simp [isAgg,underlying,hu]
 ·rename_i n e hu;injection h with h;subst h;simp [isAgg,underlying,hu]
 ·rename_i d hu h1 h2;injection h with h;subst h;simp only [isAgg,qy,underlying,run_program,Result.andThen];cases d <;> first|rfl|exact absurd rfl (h1 _)|exact absurd rfl (h2 _ _)|simp_all
 ·cases h
theorem aBf {P:Program}{ρ:Env}(hE:ρ.Ok) {w:World}{t:TypeId}{cs:List SC}{off:Nat}{sv:SV}{vs:List Value}(h:oB P t cs off=some sv) (hv:aC ρ cs=some vs) :
 ∃x,sv.den ρ=some x∧(part t vs.toArray off).run P w=.ok x w:=by
 rcases mX hE h hv with ⟨m,h1,h2,h3,h4⟩|⟨m,v,h1,h2,h3,h4⟩
 ·exact⟨_,h4,by simp [part,aZ h1,aG h2]⟩
 ·exact⟨_,h4,by simp [part,aZ h1,h3]⟩
theorem qP {P:Program}{ρ:Env}(hE:ρ.Ok) {w:World}{n:Nat}{T t:TypeId}{cs:List SC}{off:Nat}{sv:SV}{vs:List Value}(h:oB P t cs off=some sv) (hv:aC ρ cs=some vs) (hb:Blk w n T vs.toArray) :
 ∃x,sv.den ρ=some x∧(loadVar t ⟨n,off,none⟩).run P w=.ok x w:=by
 rcases mX hE h hv with ⟨m,h1,h2,h3,h4⟩|⟨m,v,h1,h2,h3,h4⟩
 ·refine⟨_,h4,?_⟩;have:=mL (P:=P) hb (o:=off) (m:=m) (by simpa using h3);simp [loadVar,aZ h1,aG h2,this]
 ·refine⟨_,h4,?_⟩;have:w.cell? ⟨n,off,none⟩=some v:=by rw [hb.cell];simpa using h3
  simp [loadVar,aZ h1,this]
theorem jM {P:Program}{w:World}{n:Nat}{T t:TypeId}{off m:Nat}{cs:Array Value}{v:Value}(hb:Blk w n T cs) (hs:bU P t=some m) (hm:v.cells.size=m) (ho:off+m≤cs.size)
 (hsc:∀u∈v.cells.toList,u.scalar=true):(storeVar t ⟨n,off,none⟩ v).run P w=.ok () (World.putBlk w n T (over cs off v.cells.toList)):=by
 have:=kZ (P:=P) v.cells.toList w n off 0 T cs hb hsc (by simp;omega);simp [storeVar,aG hs,hm,this]
theorem tD:∀(l:List Value) (cs:Array Value) (off k:Nat),
 (l.zipIdx k).foldl (fun cs (p:Value×Nat)=>cs.setIfInBounds (off+p.2) p.1) cs=over cs (off+k) l
 | [],_,_,_=>rfl
 | v :: l,cs,off,k=>by
  simp only [List.zipIdx_cons,List.foldl_cons,over];rw [tD l];rfl
theorem jE {ρ:Env}(hE:ρ.Ok) {place:Nat→Option (Nat×Nat)}:∀ {parts:List (Nat×SV)}{vals:List (Nat×Value)}{cells out:List SC}{vs:List Value},vB place cells parts=some out→aC ρ cells=some vs→
 parts.length=vals.length→(∀(i:Nat) (p:Nat×SV) (q:Nat×Value),parts[i]?=some p→vals[i]?=some q→p.1=q.1∧(p.2≠SV.top→p.2.den ρ=some q.2))→
 ∃us,aC ρ out=some us∧Instr.fill place vs.toArray vals=some us.toArray
 | [],vals,cells,out,vs,h,hv,hl,hp=>by
  simp only [vB]at h;injection h with h;subst h;cases vals with
  | nil=>exact⟨vs,hv,rfl⟩
  | cons a b=>simp at hl
 | (i,sv) :: parts,vals,cells,out,vs,h,hv,hl,hp=>by
  cases vals with
  | nil=>simp at hl
  | cons q vals=>
   obtain⟨j,x⟩:=q;simp only [vB]at h;split at h
   ·rename_i off size new h1 h2;split at h
    ·rename_i hw;split at h
     ·rename_i cells' h3;have h0:=hp 0 _ _ rfl rfl;obtain⟨rfl,h0⟩:=h0;have hne:sv≠.top:=by rintro rfl;simp [SV.cells?]at h2
      have hx:=cells?_spec h2 (h0 hne);obtain⟨o1,o2⟩:=mW hE h3 hv hx;obtain⟨us,u1,u2⟩:=jE hE h o1 (by simpa using hl) (fun i p q hi hq=>hp (i+1) p q (by simpa using hi) (by simpa using hq));refine⟨us,u1,?_⟩;have hsz:x.cells.size=size:=by rw [←hw,←cX hE hx];simp
      have hlen:x.cells.toList.length=size:=by simpa using hsz
      unfold Instr.fill;have hbad:(x.cells.size≠size || decide (off+x.cells.size > vs.toArray.size))=false:=by
       have e1:(((i,sv):Nat×SV).fst,x).snd=x:=rfl;simp only [hsz,ne_eq,not_true_eq_false,decide_false,wu,decide_eq_false_iff_not,gt_iff_lt,Nat.not_lt];rw [←hlen];simpa using o2
      simp only [h1];rw [oh (by simpa using hbad)];rw [←u2]
      congr 1
      have:=tD x.cells.toList vs.toArray off 0;simp only [jv]at this;rw [←Array.foldl_toList,Array.toList_zipIdx];exact this
     ·cases h
    ·cases h
   ·cases h
theorem tQ {P:Program}{w:World}:∀ {fs:List Field}{l:List (Nat×Nat)},kW P fs=some l→
 (fs.mapM (m:=Sem) fun f=>do pure (f.offset,←sizeOf f.type)).run P w=.ok l w
 | [],l,h=>by simp only [kW]at h;injection h with h;subst h;rfl
 | f :: fs,l,h=>by
  simp only [kW]at h;split at h
  ·rename_i s l' h1 h2;injection h with h;subst h;have ih:=tQ (w:=w) h2;simp only [List.mapM_cons,qy,aG h1,Result.andThen,ih,jp]
  ·cases h
theorem aKe {P:Program}{w:World}{t:TypeId}{z:Value}{place:Nat→Option (Nat×Nat)}{parts:Array (Nat×Value)}{us:Array Value}(hz:(zeroValue t).run P w=.ok z w)
 (hp:xG P t=some place) (hf:Instr.fill place z.cells parts.toList=some us):(Instr.build t parts).run P w=.ok (.agg us) w:=by
 unfold xG at hp;split at hp
 ·rename_i fields hu;split at hp
  ·rename_i l hl;injection hp with hp;have h1:=tQ (w:=w) hl;have h2:(fields.mapM (m:=Sem) fun f=>do pure (f.offset,←sizeOf f.type)).run P w=.ok l.toArray w:=by
    rw [Array.mapM_eq_mapM_toList,Sem.run_map,h1];rfl
   have h3:(fun i=>l.toArray[i]?)=place:=by rw [←hp];funext i;simp
   simp only [Instr.build,qy,hz,Result.andThen,aA hu,h2,h3,hf,jp]
  ·cases hp
 ·rename_i n e hu;cases hs:bU P e with
  | none=>simp [hs]at hp
  | some s=>
   simp only [hs,jm]at hp;injection hp with hp;simp only [Instr.build,qy,hz,Result.andThen,aA hu,aG hs,hp,hf,jp]
 ·cases hp
theorem fX {ρ:Env}{v:Value}{cs:List SC}(h:gX v=some cs):aC ρ cs=some v.cells.toList∧(∀u∈v.cells.toList,u.scalar=true):=by
 unfold gX at h;split at h
 ·rename_i l;split at h
  ·rename_i hs;injection h with h;subst h;have hall:∀u∈l.toList,u.scalar=true:=fun u hu=>zo.1 hs u hu;exact⟨by rw [iB _ hall];rfl,hall⟩
  ·cases h
 ·cases h
 ·rename_i x h1 h2;injection h with h;subst h;have hs:v.scalar=true:=by cases v <;> first|rfl|exact (h1 _ rfl).elim|exact (h2 _ rfl).elim
  rw [jN hs];exact⟨by simp [aC,SC.den,SC.scalar,hs],fun u hu=>by simp at hu;subst hu;exact hs⟩
theorem wX {v:Value}{cs:List SC}(h:gX v=some cs):cs=v.cells.toList.map .lit:=by
 unfold gX at h;split at h
 ·rename_i l;split at h
  ·injection h with h;exact h.symm
  ·cases h
 ·cases h
 ·rename_i h1 h2;injection h with h;subst h;have hs:v.scalar=true:=by cases v <;> first|rfl|exact (h1 _ rfl).elim|exact (h2 _ rfl).elim
  rw [jN hs];rfl
def fB (P:Program) (t:TypeId) (x:Value):Prop:=match dA P t,bU P t with
 | some true,some m=>∃cs,x=.agg cs∧cs.size=m
 | some false,some _=>x.scalar=true
 | _,_=>False
theorem qG {P:Program}{ρ:Env}(hE:ρ.Ok) {t:TypeId}{cs l:List SC}{off n s j:Nat}{i:SC}{vs:List Value}{kk:IntKind}{I:Int}(h:tE P t cs off n s i j=some l) (hv:aC ρ cs=some vs) (hi:i.den ρ=some (.int kk I)) (h0:0≤I) (h1:I<n) :
 ∃m,dA P t=some true∧bU P t=some m∧(SV.agg l).den ρ=some (.agg (vs.toArray.extract (off+I.toNat*s+j) (off+I.toNat*s+j+m)))∧off+I.toNat*s+j+m≤vs.length:=by
 unfold tE at h;split at h
 ·rename_i x N m h2 h3 h4;split at h
  ·rename_i hN;injection h with h;subst h;obtain⟨c1,c2⟩:=eV hE h2 hv;simp only [aC]at c1;split at c1
   ·rename_i avs k us g1 g2 g3;injection g3 with g3;subst g3;split at c1
    ·rename_i hk;rw [qn]at c1;injection c1 with c1;obtain⟨cs',e,e1,e2⟩:=hE _ _ _ g2 g1;injection e with e;subst e;have hI:I.toNat<n:=oq
     have hmul:(I.toNat+1)*s≤n*s:=oi s hI;have hmul':(I.toNat+1)*s=I.toNat*s+s:=zp _ _;have hle:off+I.toNat*s+j+m≤vs.length:=oq
     refine⟨m,h3,h4,?_,hle⟩;simp only [SV.den,wM,eG,g1,g2,hi,hk,if_true]
     congr 2
     apply jc;rw [Array.toList_extract];apply wv;intro q;simp only [pickL,jl,xp,zd,vm]
     by_cases hq:q<m
     ·have e1:off+I.toNat*s+j+m-(off+I.toNat*s+j)=m:=oq
      rw [e1,od hq,vp hq];simp only [jm];have e3:avs[I.toNat*s+j+q]?=vs[off+I.toNat*s+j+q]?:=by
       rw [←qc,c1,zd,vm,od oq]
       congr 1
       omega
      rw [e3];rw [qi oq];simp
     ·have e1:off+I.toNat*s+j+m-(off+I.toNat*s+j)=m:=oq
      rw [e1,oh hq,ot (by simpa using js hq)];rfl
    ·cases c1
   ·cases c1
  ·cases h
 ·rename_i x N k0 z s0 j0 m0 m h2 h3 h4;split at h
  ·rename_i hN;obtain⟨hz,hm0,hjm⟩:=hN;subst hz;injection h with h;subst h;obtain⟨c1,c2⟩:=eV hE h2 hv;simp only [aC]at c1;split at c1
   ·rename_i l us g1 g2;injection g2 with g2;subst g2;rw [qn]at c1;injection c1 with c1;simp only [eG,SC.den]at g1;split at g1
    ·rename_i avs k k1 z1 f1 f2 f3;injection f3 with f3;injection f3 with _ f3;subst f3;split at g1
     ·rename_i hk;injection g1 with g1;rw [c1]at g1;have hI:I.toNat<n:=oq
      have hmul:(I.toNat+1)*s≤n*s:=oi s hI;have hmul':(I.toNat+1)*s=I.toNat*s+s:=zp _ _;have hle:off+I.toNat*s+j+m≤vs.length:=oq
      refine⟨m,h3,h4,?_,hle⟩;simp only [SV.den,wM,eG,f1,f2,hi,hk,if_true]
      congr 2
      apply jc;rw [Array.toList_extract];apply wv;intro q;simp only [pickL,jl,xp,zd,vm]
      by_cases hq:q<m
      ·have e1:off+I.toNat*s+j+m-(off+I.toNat*s+j)=m:=oq
       rw [e1,od hq,vp hq];simp only [jm];have e4:=congrArg (fun l=>l[I.toNat*s+j+q]?) g1;simp only [pickL,jl,zd,vm]at e4;rw [vp oq,od oq]at e4;simp only [jm]at e4;have e5:off+(I.toNat*s+j+q)=off+I.toNat*s+j+q:=oq
       have e6:Int.toNat 0*s0+j0+(I.toNat*s+j+q)=I.toNat*s+(j0+j)+q:=by
        rw [show Int.toNat 0=0 from rfl,xg];omega
       rw [e5,e6]at e4;exact e4
      ·have e1:off+I.toNat*s+j+m-(off+I.toNat*s+j)=m:=oq
       rw [e1,oh hq,ot (by simpa using js hq)];rfl
     ·cases g1
    ·cases g1
   ·cases c1
  ·cases h
 ·cases h
theorem lU {ρ:Env}{b off n c s j:Nat}{i:SC}{v:Value}(h:(SC.elem (.sl b off n c) i s j).den ρ=some v):∃nn kk I,ρ.blk b=some nn∧i.den ρ=some (.int kk I)∧0≤I∧I<n∧v=.pointer (some ⟨nn,off+I.toNat*s+j,none⟩):=by
 simp only [SC.den]at h;split at h
 ·rename_i x y hx hy;split at hx
  ·rename_i nn hb;injection hx with hx;subst hx;obtain⟨b',o,n',c',k,I,e1,rfl,h0,h1,rfl⟩:=dV h;injection e1 with e1 e2 e3;injection e1 with e1;injection e1 with e4 e5 e6;subst e4 e5 e2;exact⟨nn,k,I,hb,hy,h0,h1,rfl⟩
  ·cases hx
 ·cases h
theorem aGh {ρ:Env}(hE:ρ.Ok) {c:SC}{us:List Value}(h:aC ρ [c]=some us) (hnw:∀u∈us,u.noWord=true):eG ρ c=some us:=by
 cases hc:c.scalar with
 | false=>exact pY hc h
 | true=>
  have hall:=cN hE h;have hone:∃v,c.den ρ=some v∧us=[v]:=by
   rw [bT (by cases c <;> first|rfl|cases hc) (fun i m e=>by subst e;cases hc),od hc]at h
   split at h
   ·rename_i v us' hv hu;simp only [aC]at hu;injection hu with hu;injection h with h;subst hu;exact⟨v,hv,h.symm⟩
   ·cases h
  obtain⟨v,hd,rfl⟩:=hone;have hv:aDc (c.den ρ)=some [v]:=by rw [hd];simp [aDc,hall v (by simp),hnw v (by simp)]
  cases c <;> first|exact hv|cases hc
theorem sF {P:Program}{t:TypeId}{cs:List SC}{n s:Nat}{i c:SC}(h:aEy P t cs n s i=some c):∃x k,cs=[.seg x (n*s)]∧c=.cel x i s k∧dA P t=some false∧0<s:=by
 unfold aEy at h;split at h
 ·split at h
  ·rename_i g hN;injection h with h;subst h;obtain⟨rfl,h0⟩:=hN;exact⟨_,_,rfl,rfl,g,h0⟩
  ·cases h
 ·split at h
  ·rename_i g hN;injection h with h;subst h;obtain⟨rfl,h0⟩:=hN;exact⟨_,_,rfl,rfl,g,h0⟩
  ·cases h
 ·split at h
  ·rename_i g hN;injection h with h;subst h;obtain⟨rfl,h0⟩:=hN;exact⟨_,_,rfl,rfl,g,h0⟩
  ·cases h
 ·cases h
theorem aIs {o:Nat}{new cs l:List SC}(h:tC o new cs=some l):∀c∈new,c∈l:=by
 unfold tC at h;split at h
 ·split at h
  ·injection h with h;subst h;intro c hc;simp [hc]
  ·cases h
 ·cases h
theorem uS {ρ:Env}(hE:ρ.Ok):∀(ys:List SC) (y:SC) {us:List Value},aC ρ (y :: ys)=some us→(∀u∈us,u.noWord=true)→eG ρ (rD y ys)=some us
 | [],_,_,h,hn=>aGh hE h hn
 | z :: l,y,us,h,hn=>by
  obtain⟨a,b,h1,h2,rfl⟩:=cM h;simp only [rD,eG,aGh hE h1 fun u hu=>hn u (List.mem_append_left _ hu),uS hE l z h2 fun u hu=>hn u (List.mem_append_right _ hu)]
theorem mD {kd:Nat→Option LK}:∀(ys:List SC) (y:SC),wordless kd (rD y ys)=true→(y :: ys).all (wordless kd)=true
 | [],y,h=>by simpa [rD] using h
 | z :: l,y,h=>by
  simp only [rD,wordless,qf]at h;rw [yy,h.1,mD l z h.2];rfl
theorem aEm {ρ:Env}(hE:ρ.Ok) {cs l new:List SC}{off n s j m:Nat}{i:SC}{us:List Value}(h:aBt cs off n s i j m new=some l) (hw:l.all (wordless ρ.kd)=true) (hu:aC ρ new=some us):∀u∈us,u.noWord=true:=by
 unfold aBt at h;split at h
 ·split at h
  ·have:=zo.1 hw _ (aIs h _ (qr.2 rfl));simp only [wordless]at this;exact cC hE (mD _ _ this) hu
  ·cases h
 ·cases h
theorem sE:∀(ys:List SC) (y:SC),(rD y ys).width=widths (y :: ys)
 | [],y=>by simp [rD,widths]
 | z :: l,y=>by simp [rD,SC.width,sE l z,widths]
theorem aEl {ρ:Env}(hE:ρ.Ok) {cs l new:List SC}{off n s j m:Nat}{i:SC}{vs us:List Value}{kk:IntKind}{I:Int}(h:aBt cs off n s i j m new=some l) (hv:aC ρ cs=some vs) (hu:aC ρ new=some us) (hi:i.den ρ=some (.int kk I)) (h0:0≤I) (h1:I<n) (hnw:∀u∈us,u.noWord=true) :
 aC ρ l=some (over vs.toArray (off+I.toNat*s+j) us).toList∧off+I.toNat*s+j+us.length≤vs.length:=by
 unfold aBt at h;split at h
 ·rename_i x N y ys h2;split at h
  ·rename_i hN;obtain⟨rfl,hj,hw⟩:=hN;obtain⟨c1,c2⟩:=eV hE h2 hv;have hulen:=cX hE hu;rw [←sE]at hulen;simp only [aC]at c1;split at c1
   ·rename_i avs k' us' g1 g2 g3;injection g3 with g3;subst g3;split at c1
    ·rename_i hk;rw [qn]at c1;injection c1 with c1;have hI:I.toNat<n:=oq
     have hmul:(I.toNat+1)*s≤n*s:=oi s hI;have hmul':(I.toNat+1)*s=I.toNat*s+s:=zp _ _;have hle:off+I.toNat*s+j+us.length≤vs.length:=oq
     have hrun:aC ρ [.upd x (n*s) i s j (rD y ys)]=some (over avs (I.toNat*s+j) us).toList:=by
      simp only [aC,eG,g1,g2,hi,uS hE _ _ hu hnw,hk,if_true,qn]
     obtain⟨o1,o2⟩:=mW hE h hv hrun;refine⟨o1.trans ?_,hle⟩
     congr 1
     have havs:avs.size=n*s:=by
      obtain⟨cs',e,e1,e2⟩:=hE _ _ _ g2 g1;injection e with e;subst e;rw [e1,hk]
     have l1:(over avs (I.toNat*s+j) us).toList.length=n*s:=by rw [zb,over_size,havs]
     have l2:I.toNat*s+j+us.length≤avs.size:=oq
     rw [over_eq _ _ _ (by simpa using (by omega:off+(over avs (I.toNat*s+j) us).toList.length≤vs.length)),over_eq _ _ _ l2,over_eq _ _ _ (by simpa using hle)];rw [c1];apply wv;intro q;simp only [jb,zd,vm,og,xx,List.length_drop]
     grind
    ·cases c1
   ·cases c1
  ·cases h
 ·cases h
def aKw (P:Program) (ρ:Env) (a:Act) (w:World) (hp:Nat→Option SB) (o:Oper):Eff→Prop
 | .pure v needs=>(∀c∈needs,c.den ρ=some (.bool true))→∀x,v.den ρ=some x→(execOp a.eval o).run P w=.ok (.value x) w
 | .load v b=>∀blk n vs,hp b=some blk→ρ.blk b=some n→aC ρ blk.cells=some vs→Blk w n blk.ty vs.toArray→
  ∃x,v.den ρ=some x∧(execOp a.eval o).run P w=.ok (.value x) w
 | .alloc ty cells sl=>∃vs,aC ρ cells=some vs∧(execOp a.eval o).run P w=.ok (.value (uM sl w.heap.size)) { w with heap:=w.heap.push (.cells vs.toArray ty) }
 | .store b cells=>cells.all (wordless ρ.kd)=true→∀blk n vs,hp b=some blk→ρ.blk b=some n→aC ρ blk.cells=some vs→Blk w n blk.ty vs.toArray→
  ∃us,aC ρ cells=some us∧(execOp a.eval o).run P w=.ok .skip (World.putBlk w n blk.ty us.toArray)
 | .call f args=>∀vs,argsD ρ args=some vs→(execOp a.eval o).run P w=.ok (.enter f vs.toArray) w
 | .getw v i s j t=>∀(b o' n c:Nat) (k:IntKind) (I:Int) (x:Value),(SC.slr v).den ρ=some (.slice (some ⟨b,o',none⟩) n c)→i.den ρ=some (.int k I)→0≤I→I<n→
  fB P t x→(∀(p:Nat) u,x.cells[p]?=some u→w.cell? ⟨b,o'+(I.toNat*s+j+p),none⟩=some u)→(execOp a.eval o).run P w=.ok (.value x) w
 | .read sa i s j t=>∀(b o' n c:Nat) (k:IntKind) (I:Int) (x:Value),sa.den ρ=some (.slice (some ⟨b,o',none⟩) n c)→i.den ρ=some (.int k I)→0≤I→I<n→
  fB P t x→(∀(p:Nat) u,x.cells[p]?=some u→w.cell? ⟨b,o'+(I.toNat*s+j+p),none⟩=some u)→(execOp a.eval o).run P w=.ok (.value x) w
 | .fail _=>True
theorem iZ {P:Program}{w:World}{n o:Nat}:∀(us:List Value) (i:Nat) (acc:Array Value),(∀d u,us[d]?=some u→w.cell? ⟨n,o+i+d,none⟩=some u)→
 (loadCellsFrom ⟨n,o,none⟩ i us.length acc).run P w=.ok (acc++us.toArray) w
 | [],i,acc,_=>by simp [loadCellsFrom]
 | u :: us,i,acc,h=>by
  have h0:w.cell? ⟨n,o+i,none⟩=some u:=by simpa using h 0 u rfl
  have hl:(load ((⟨n,o,none⟩:Addr).add i)).run P w=.ok u w:=by
   rw [bN];simp [load,Sem.run,h0]
  rw [om];unfold loadCellsFrom
  rw [kY hl,iZ us (i+1) _ fun d v hd=>by
   have:=h (d+1) v (by simpa using hd);have e:o+(i+1)+d=o+i+(d+1):=oq
   rw [e];exact this]
  congr 1
  apply jc;simp
theorem aBg {P:Program}{w:World}{t:TypeId}{b o:Nat}{x:Value}(h:fB P t x) (hc:∀(p:Nat) u,x.cells[p]?=some u→w.cell? ⟨b,o+p,none⟩=some u):(loadVar t ⟨b,o,none⟩).run P w=.ok x w:=by
 unfold fB at h;split at h
 ·rename_i m h1 h2;obtain⟨cs,rfl,hm⟩:=h;have:=iZ (P:=P) (w:=w) (n:=b) (o:=o) cs.toList 0 #[] fun d u hd=>hc d u (show cs[d]?=some u by simpa using hd);have e:cs.toList.length=m:=by simpa using hm
  rw [e]at this;simp [loadVar,aZ h1,aG h2,loadCells,this]
 ·rename_i m h1 h2;have e:x.cells=#[x]:=by cases x <;> first|rfl|cases h
  have:=hc 0 x (by rw [e];rfl);simp only [jv]at this;simp [loadVar,aZ h1,this]
 ·exact h.elim
section
variable {P:Program}{ρ:Env}{tm:Tmp→SV}{hp:Nat→Option SB}{a:Act}{w:World}
def Knows1 (ρ:Env) (tm:Tmp→SV) (a:Act) (o:Oper):Prop:=∀t,Operand.tmp t∈o.op.operands→Ok ρ (tm t) (a.tmps.getD t undef)
theorem Knows1.at {o:Oper}{x:Operand}(h:Knows1 ρ tm a o) (hm:x∈o.op.operands) (hx:opnd tm x≠.top):(opnd tm x).den ρ=some (a.eval x):=
 gP (fun t e=>h t (e▸hm)) hx
theorem xF {c x y:SC}{v vc:Value}(h:(gE c x y).den ρ=some v) (hc:c.den ρ=some vc):∃b,vc=.bool b∧(if b then x else y).den ρ=some v:=by
 unfold gE at h;split at h
 ·rename_i b;simp only [SC.den]at hc;injection hc with hc;exact⟨b,hc.symm,by cases b <;> exact h⟩
 ·simp only [SC.den]at h;rw [hc]at h;split at h
  ·rename_i z1 z2 z3 h1 h2 h3;injection h1 with h1;subst h1;obtain⟨b,rfl,rfl⟩:=oC h;exact⟨b,rfl,by cases b <;> first|exact h2|exact h3⟩
  ·cases h
theorem pL {cl:Nat}{op:BinOp}{t:TypeId}{x y v:Value}{xo yo:Operand}(h:eH cl op x y=some v)
 (hc:cl≤2) (ht:cl=1→dC P t=some .bool)
 (hn:(op=.quo∨op=.rem)→nzD y=some (.bool true)) (hsft:(op=.shl∨op=.shr)→∃k i,y=.int k i∧0≤i) (hf:op=.add→∀s u,x=.string s→y=.string u→s.size+u.size≤9223372036854775807) :
 (do eqGuard op t xo yo x y;binOp op t x y:Sem Value).run P w=.ok v w:=by
 unfold eH at h;split at h
 ·rename_i k i k' j;have hg:(eqGuard op t xo yo (.int k i) (.int k' j)).run P w=.ok () w:=by
   unfold eqGuard;cases op <;> simp
  simp only [qy,hg,Result.andThen];cases op
  all_goals (try (simp only at h;split at h <;> (try cases h)))
  all_goals (try (rename_i hk;subst hk))
  all_goals (try simp only at h)
  all_goals (try (injection h with h;subst h))
  case h_1.quo.isTrue.refl=>
   have:=hn (.inl rfl);simp only [nzD,jk,zi,decide_eq_true_eq]at this;simp [binOp,Op.intDiv,this]
  case h_1.rem.isTrue.refl=>
   have:=hn (.inr rfl);simp only [nzD,jk,zi,decide_eq_true_eq]at this;simp [binOp,Op.intDiv,this]
  case h_1.shl=>
   obtain⟨k2,i2,e,h0⟩:=hsft (.inl rfl);injection e with e1 e2;subst e1 e2;simp only [binOp,Op.shift];rw [oh oq];rfl
  case h_1.shr=>
   obtain⟨k2,i2,e,h0⟩:=hsft (.inr rfl);injection e with e1 e2;subst e1 e2;simp only [binOp,Op.shift];rw [oh oq];rfl
  all_goals simp [binOp,Op.intArith,Op.intBits,Op.intCmp]
 ·rename_i b c;have hg:(eqGuard op t xo yo (.bool b) (.bool c)).run P w=.ok () w:=by
   unfold eqGuard;cases op <;> simp
  simp only [qy,hg,Result.andThen];have hu:=ht rfl;have he:(Op.equal t (.bool b) (.bool c)).run P w=.ok (b == c) w:=by
   unfold Op.equal Op.maxDepth Op.equalIn;simp [aA hu]
  cases op <;> simp only at h <;> (try cases h)
  all_goals simp [binOp,he]
 ·rename_i s u;have hg:(eqGuard op t xo yo (.string s) (.string u)).run P w=.ok () w:=by
   unfold eqGuard;cases op <;> simp
  simp only [qy,hg,Result.andThen];cases op <;> simp only at h <;> (try cases h)
  case h_3.add.refl=>
   have:=hf rfl s u rfl rfl;simp only [binOp,Op.stringOp];have e:IntKind.i64.max=9223372036854775807:=oz
   rw [e,oh oq];rfl
  all_goals simp [binOp,Op.stringOp]
 ·unfold oT at h;split at h
  all_goals first|omega|cases h
theorem cH {cl:Nat}{op:BinOp}{x y v:Value}(h:eH cl op x y=some v) (hc:3≤cl):oT cl op x y=some v:=by
 unfold eH at h;split at h
 ·omega
 ·omega
 ·omega
 ·exact h
theorem aKf {s d:TypeId}{ks:IntKind}{k:FloatKind}{x v:Value}(hus:dC P s=some (.int ks)) (hu:dC P d=some (.float k)) (h:eH 5 .add x (.float k 0)=some v) :
 (convert s d x).run P w=.ok v w:=by
 have h:=cH h oz;have hx:∃k' n,x=.int k' n:=by cases x <;> first|exact⟨_,_,rfl⟩|cases h
 obtain⟨k',n,rfl⟩:=hx;injection h with h;subst h;simp only [convert,qy,aA hus,aA hu,Result.andThen,Conv.intToFloat,jp]
theorem aKg {s d:TypeId}{ks k:FloatKind}{x v:Value}(hus:dC P s=some (.float ks)) (hu:dC P d=some (.float k)) (h:eH 6 .add x (.float k 0)=some v) (hok:eH 7 .add x (.float k 0)=some (.bool true)) :
 (convert s d x).run P w=.ok v w:=by
 have h:=cH h oz;have hok:=cH hok oz;have hx:∃k' n,x=.float k' n:=by cases x <;> first|exact⟨_,_,rfl⟩|cases h
 obtain⟨k',n,rfl⟩:=hx;injection h with h;subst h;injection hok with hok;injection hok with hok;unfold jY at hok;unfold f2f;simp only [convert,qy,aA hus,aA hu,Result.andThen,Conv.floatToFloat]
 by_cases hk:k'=k
 ·rw [od hk,od hk];rfl
 ·rw [oh hk,oh hk];rw [decide_eq_false hk,wu]at hok;split at hok
  ·cases hok
  ·rename_i e;rw [e];rfl
  ·rename_i e;rw [e];simp only [yf]at hok;simp [hok]
theorem xT {k k':FloatKind}{n:Nat}(hok:jY k k' n=true):(Conv.floatToFloat k n k').run P w=.ok (.float k' (f2f k k' n)) w:=by
 unfold jY at hok;unfold f2f Conv.floatToFloat
 by_cases hk:k=k'
 ·rw [od hk,od hk];rfl
 ·rw [oh hk,oh hk];rw [decide_eq_false hk,wu]at hok;split at hok
  ·cases hok
  ·rename_i e;rw [e];rfl
  ·rename_i e;rw [e];simp only [yf]at hok;simp [hok]
theorem aDr {s d:TypeId}{ks k:FloatKind}{x v:Value}(hus:dC P s=some (.complex ks)) (hu:dC P d=some (.complex k)) (h:eH 15 .add x (.complex k 0 0)=some v) (hok:eH 16 .add x (.complex k 0 0)=some (.bool true)) :
 (convert s d x).run P w=.ok v w:=by
 have h:=cH h oz;have hok:=cH hok oz;have hx:∃k' n m,x=.complex k' n m:=by cases x <;> first|exact⟨_,_,_,rfl⟩|cases h
 obtain⟨k',n,m,rfl⟩:=hx;injection h with h;subst h;injection hok with hok;injection hok with hok;rw [qf]at hok;simp only [convert,qy,aA hus,aA hu,Result.andThen,Conv.complexToComplex,xT hok.1,xT hok.2,jp]
theorem aYp {x y v:Value}(h:eH 12 .add x y=some v):∃k a b,x=.float k a∧y=.float k b∧v=.complex k a b:=by
 replace h:=cH h oz;have hx:∃k a,x=.float k a:=by cases x <;> first|exact⟨_,_,rfl⟩|cases h
 obtain⟨k,a,rfl⟩:=hx;have hy:∃k a,y=.float k a:=by cases y <;> first|exact⟨_,_,rfl⟩|cases h
 obtain⟨k',b,rfl⟩:=hy;simp only [oT]at h;split at h
 ·rename_i hk;subst hk;injection h with h;exact⟨k,a,b,rfl,rfl,h.symm⟩
 ·cases h
theorem bCa {x y v:Value}(h:eH 13 .add x y=some v):∃k a b,x=.complex k a b∧v=.float k a:=by
 have h:=cH h oz;have hx:∃k a b,x=.complex k a b:=by cases x <;> first|exact⟨_,_,_,rfl⟩|cases h
 obtain⟨k,a,b,rfl⟩:=hx;injection h with h;exact⟨k,a,b,rfl,h.symm⟩
theorem bBs {x y v:Value}(h:eH 14 .add x y=some v):∃k a b,x=.complex k a b∧v=.float k b:=by
 have h:=cH h oz;have hx:∃k a b,x=.complex k a b:=by cases x <;> first|exact⟨_,_,_,rfl⟩|cases h
 obtain⟨k,a,b,rfl⟩:=hx;injection h with h;exact⟨k,a,b,rfl,h.symm⟩
theorem zH {ts:Array TypeId}{t:TypeId}{k:FloatKind}{a b:Nat}:Builtin.complex_ ts t #[.float k a,.float k b]=pure (.complex k a b):=by
 show (if k=k then _ else _)=_;rw [od rfl]
theorem aPl {ts:Array TypeId}{t:TypeId}{k:FloatKind}{a b:Nat}:Builtin.real_ ts t #[.complex k a b]=pure (.float k a):=rfl
theorem aMi {ts:Array TypeId}{t:TypeId}{k:FloatKind}{a b:Nat}:Builtin.imag_ ts t #[.complex k a b]=pure (.float k b):=rfl
theorem aPv {op:BinOp}{t:TypeId}{x y v:Value}{xo yo:Operand}(h:eH 17 op x y=some v) :
 (do eqGuard op t xo yo x y;binOp op t x y:Sem Value).run P w=.ok v w:=by
 replace h:=cH h oz;have hx:∃k a b,x=.complex k a b:=by cases x <;> first|exact⟨_,_,_,rfl⟩|cases h
 obtain⟨k,a,b,rfl⟩:=hx;have hy:∃k a b,y=.complex k a b:=by cases y <;> first|exact⟨_,_,_,rfl⟩|cases h
 obtain⟨k',c,d,rfl⟩:=hy;simp only [oT]at h;split at h
 ·rename_i hk;subst hk;have hg:(eqGuard op t xo yo (.complex k a b) (.complex k c d)).run P w=.ok () w:=by
   unfold eqGuard;cases op <;> simp
  simp only [qy,hg,Result.andThen];cases op <;> (try simp only at h) <;> (try cases h)
  all_goals simp [binOp,Op.complexOp,Op.Complex.cmp,Op.floatCmp,asBool]
 ·cases h
theorem aKh {s d:TypeId}{ks:FloatKind}{k:IntKind}{x v:Value}(hus:dC P s=some (.float ks)) (hu:dC P d=some (.int k)) (h:eH 8 .add x (.int k 0)=some v) (hok:eH 9 .add x (.int k 0)=some (.bool true)) :
 (convert s d x).run P w=.ok v w:=by
 have h:=cH h oz;have hok:=cH hok oz;have hx:∃k' n,x=.float k' n:=by cases x <;> first|exact⟨_,_,rfl⟩|cases h
 obtain⟨k',n,rfl⟩:=hx;injection h with h;subst h;injection hok with hok;injection hok with hok;unfold aXb at hok;unfold f2i;simp only [convert,qy,aA hus,aA hu,Result.andThen,Conv.floatToInt];split at hok
 ·rename_i i e;rw [e];have:=ow hok;simp [this]
 ·cases hok
theorem aPw {op:BinOp}{t:TypeId}{x y v:Value}{xo yo:Operand}(h:eH 3 op x y=some v) (hf:(op=.add∨op=.sub∨op=.mul∨op=.quo)→eH 4 op x y=some (.bool true)) :
 (do eqGuard op t xo yo x y;binOp op t x y:Sem Value).run P w=.ok v w:=by
 replace h:=cH h oz;have hx:∃k a,x=.float k a:=by cases x <;> first|exact⟨_,_,rfl⟩|cases h
 obtain⟨k,a,rfl⟩:=hx;have hy:∃k a,y=.float k a:=by cases y <;> first|exact⟨_,_,rfl⟩|cases h
 obtain⟨k',b,rfl⟩:=hy;simp only [oT]at h;split at h
 ·rename_i hk;subst hk;have hg:(eqGuard op t xo yo (.float k a) (.float k b)).run P w=.ok () w:=by
   unfold eqGuard;cases op <;> simp
  simp only [qy,hg,Result.andThen];have key:∀o,(o=BinOp.add∨o=.sub∨o=.mul∨o=.quo)→op=o→(Op.floatArith o k a b).run P w=.ok (.float k ((aCn k o a b).getD 0)) w:=by
   rintro o ho rfl;have:=cH (hf ho) oz;simp only [oT,jk,zi]at this;obtain⟨r,hr⟩:=Option.isSome_iff_exists.1 this;rw [hr];rcases ho with rfl|rfl|rfl|rfl <;> (simp only [aCn]at hr;simp [Op.floatArith,hr])
  clear hf;cases op <;> (try simp only at h) <;> (try cases h)
  all_goals first
   | (simp only [binOp,ne_eq,not_true_eq_false,if_false];exact key _ (by simp) rfl)
   | simp [binOp,Op.floatCmp]
 ·cases h
theorem aFc {g:FuncId}{caps:List Nat}{args:List SV}{c:SC}(h:aYr P g caps args=some c) :
 ∃ fn sa, caps = [] ∧ args = [.one sa] ∧ P.funcs[g]? = some fn ∧ fn.body.isNone = true ∧ fn.origin = "" ∧ aLy fn.name sa = some c := by
 unfold aYr at h;split at h
 ·rename_i fn a hf;rw [nR]at hf;split at h
  ·rename_i hc;simp only [qf,beq_iff_eq]at hc;exact⟨fn,a,rfl,rfl,hf,hc.1,hc.2,h⟩
  ·cases h
 ·cases h
theorem nQ {fn : Func} {n : String} (h : fn.name = n) (ho : fn.origin = "") (hn : n = "math.Float64bits" ∨ n = "math.Float64frombits" ∨ n = "math.Float32bits" ∨ n = "math.Float32frombits") :
 Extern.findNext fn = none ∧ (fn.name == "runtime.NumGoroutine") = false := by
 unfold Extern.findNext;rw [h,ho];rcases hn with rfl|rfl|rfl|rfl <;> exact⟨rfl,rfl⟩
theorem aLz {fn:Func} :
 (fn.name = "math.Float64bits" → Extern.find fn = some Extern.MathFloatBits.float64bits) ∧ (fn.name = "math.Float64frombits" → Extern.find fn = some Extern.MathFloatBits.float64frombits) ∧
 (fn.name = "math.Float32bits" → Extern.find fn = some Extern.MathFloatBits.float32bits) ∧ (fn.name = "math.Float32frombits" → Extern.find fn = some Extern.MathFloatBits.float32frombits) := by
 unfold Extern.find;refine⟨fun h=>?_,fun h=>?_,fun h=>?_,fun h=>?_⟩ <;> rw [h] <;> rfl
theorem aEv {op:BinOp}{x v:Value}{ik:IntKind}(h:oT 10 op x (.int ik 0)=some v):∃k n,x=.float k n∧v=.int ik n∧(k=.f64∧ik=.u64∨k=.f32∧ik=.u32):=by
 cases x with
 | float k n=>cases k <;> cases ik <;> first|(injection h with h;subst h;exact⟨_,_,rfl,rfl,by simp⟩)|cases h
 | _=>cases h
theorem aEw {op:BinOp}{x v:Value}{k:FloatKind}(h:oT 11 op x (.float k 0)=some v):∃ik n,x=.int ik n∧v=.float k n.toNat∧(k=.f64∧ik=.u64∨k=.f32∧ik=.u32):=by
 cases x with
 | int ik n=>cases k <;> cases ik <;> first|(injection h with h;subst h;exact⟨_,_,rfl,rfl,by simp⟩)|cases h
 | _=>cases h
theorem aTr {ρ : Env} {g : FuncId} {fn : Func} {sa c : SC} {x v : Value} (hf : P.funcs[g]? = some fn) (hb : fn.body.isNone = true) (ho : fn.origin = "") (h : aLy fn.name sa = some c) (hx : sa.den ρ = some x) (hv : c.den ρ = some v) :
 (callFunc g #[x]).run P w=.ok (.value v) w:=by
 obtain⟨f1,f2,f3,f4⟩:=aLz (fn:=fn);unfold aLy at h;split at h
 ·rename_i hn;injection h with h;subst h;simp only [aO,SC.den,hx]at hv;have hv:=cH hv oz;obtain⟨e1,e2⟩:=nQ hn ho (.inl rfl);rw [run_callFunc_extern hf e2 hb e1 (f1 hn)];obtain⟨k,n,rfl,rfl,hk⟩:=aEv hv;rcases hk with ⟨e,e'⟩|⟨e,e'⟩ <;> cases e <;> cases e';rfl
 split at h
 ·rename_i hn;injection h with h;subst h;simp only [aO,SC.den,hx]at hv;have hv:=cH hv oz;obtain⟨e1,e2⟩:=nQ hn ho (.inr (.inl rfl));rw [run_callFunc_extern hf e2 hb e1 (f2 hn)];obtain⟨k,n,rfl,rfl,hk⟩:=aEw hv;rcases hk with ⟨e,e'⟩|⟨e,e'⟩ <;> cases e <;> cases e';rfl
 split at h
 ·rename_i hn;injection h with h;subst h;simp only [aO,SC.den,hx]at hv;have hv:=cH hv oz;obtain⟨e1,e2⟩:=nQ hn ho (.inr (.inr (.inl rfl)));rw [run_callFunc_extern hf e2 hb e1 (f3 hn)];obtain⟨k,n,rfl,rfl,hk⟩:=aEv hv;rcases hk with ⟨e,e'⟩|⟨e,e'⟩ <;> cases e <;> cases e';rfl
 split at h
 ·rename_i hn;injection h with h;subst h;simp only [aO,SC.den,hx]at hv;have hv:=cH hv oz;obtain⟨e1,e2⟩:=nQ hn ho (.inr (.inr (.inr rfl)));rw [run_callFunc_extern hf e2 hb e1 (f4 hn)];obtain⟨k,n,rfl,rfl,hk⟩:=aEw hv;rcases hk with ⟨e,e'⟩|⟨e,e'⟩ <;> cases e <;> cases e';rfl
 ·cases h
theorem pZ {ρ:Env}{c:SC}{cs:List SC}{vs:List Value}(hs:c.scalar=true) (h:aC ρ (c :: cs)=some vs):∃p us,vs=p :: us∧c.den ρ=some p∧aC ρ cs=some us:=by
 have hr:c.isRun=false:=by cases c <;> first|rfl|cases hs
 rw [bT hr (fun i m e=>by rw [e]at hs;cases hs),od hs]at h;split at h
 ·rename_i v us h1 h2;injection h with h;exact⟨v,us,h.symm,h1,h2⟩
 ·cases h
theorem uP {ρ:Env}{cs:List SC}{v:Value}(h:(SV.agg cs).den ρ=some v):∃us,aC ρ cs=some us∧v=.agg us.toArray:=by
 simp only [SV.den,bV]at h;split at h
 ·rename_i us hu;injection h with h;exact⟨us,hu,h.symm⟩
 ·cases h
theorem nO {P:Program}{ρ:Env}{w:World}{e:TypeId}{kk:IntKind}(hu:dC P e=some (.int kk)) (d:Nat) (xs ys:Array Value):∀(as bs:List SC) (r:SC) (us vs:List Value) (o:Nat) (v:Value),eK as bs=some r→r.den ρ=some v→aC ρ as=some us→aC ρ bs=some vs→
 (∀i:Nat,xs[o+i]?=us[i]?)→(∀i:Nat,ys[o+i]?=vs[i]?)→∃b,v=.bool b∧(Op.eqItems (d+1) e 1 xs ys (List.range' o as.length)).run P w=.ok b w
 | [],[],r,us,vs,o,v,h,hv,_,_,_,_=>by
  simp only [eK,jk]at h;subst h;simp only [SC.den,jk]at hv;exact⟨true,hv.symm,by simp [Op.eqItems]⟩
 | [],_ :: _,_,_,_,_,_,h,_,_,_,_,_=>by simp [eK]at h
 | _ :: _,[],_,_,_,_,_,h,_,_,_,_,_=>by simp [eK]at h
 | a :: as,b :: bs,r,us,vs,o,v,h,hv,ha,hb,hx,hy=>by
  unfold eK at h;split at h
  ·rename_i hs;obtain⟨hs1,hs2⟩:=Bool.and_eq_true_iff.1 hs;obtain⟨r',hr',rfl⟩:=xk.1 h;obtain⟨p,us',rfl,hp,hus⟩:=pZ hs1 ha;obtain⟨q,vs',rfl,hq,hvs⟩:=pZ hs2 hb;simp only [SC.den,aO,hp,hq]at hv;split at hv
   ·rename_i z1 z2 z3 h1 h2 h3;injection h3 with h3;subst h3;obtain⟨b',rfl,hb'⟩:=nO (P:=P) (w:=w) hu d xs ys as bs r' us' vs' (o+1) z2 hr' h2 hus hvs (fun i=>by rw [wy,vg 1 i,hx];rfl) (fun i=>by rw [wy,vg 1 i,hy];rfl);obtain⟨c,rfl,rfl⟩:=oC hv;have hx0:xs[o]?=some p:=hx 0;have hy0:ys[o]?=some q:=hy 0;have hag:dA P e=some false:=by unfold dA;rw [hu]
    have hpx:(part e xs o).run P w=.ok p w:=by simp [part,aZ hag,hx0]
    have hpy:(part e ys o).run P w=.ok q w:=by simp [part,aZ hag,hy0]
    rw [jS]at hu;have he:∃k i j,p=.int k i∧q=.int k j∧c=(i == j):=by
     cases p <;> cases q <;> simp only [eH]at h1 <;> try cases h1
     rename_i k i k' j;split at h1
     ·rename_i hk;subst hk;injection h1 with h1;injection h1 with h1;exact⟨_,_,_,rfl,rfl,h1.symm⟩
     ·cases h1
    obtain⟨k,i,j,rfl,rfl,rfl⟩:=he;have hr:=run_equalIn_int w d e k kk i j hu;refine⟨if (i == j)=true then b' else false,by cases (i == j) <;> rfl,?_⟩;rw [om,List.range'_succ];simp only [Op.eqItems,zq,qy,hpx,hpy,hr,ka];cases hij:(i == j)
    ·simp
    ·simpa [hij] using (by assumption:(Op.eqItems (d+1) e 1 xs ys (List.range' (o+1) as.length)).run P w=.ok b' w)
   ·cases hv
  ·cases h
theorem wA {P:Program}{ρ:Env}{w:World}{t e:TypeId}{n:Nat}{kk:IntKind}{as bs:List SC}{us vs:List Value}{r:SC}{v:Value}{xo yo:Operand}(ht:dC P t=some (.array n e)) (hu:dC P e=some (.int kk)) (hz:bU P e=some 1) (hn:as.length=n)
 (h:eK as bs=some r) (hv:r.den ρ=some v) (ha:aC ρ as=some us) (hb:aC ρ bs=some vs) :
 (do eqGuard .eql t xo yo (.agg us.toArray) (.agg vs.toArray);binOp .eql t (.agg us.toArray) (.agg vs.toArray):Sem Value).run P w=.ok v w∧∀u,aAp v=some u→(do eqGuard .neq t xo yo (.agg us.toArray) (.agg vs.toArray);binOp .neq t (.agg us.toArray) (.agg vs.toArray):Sem Value).run P w=.ok u w:=by
 subst hn;have hi:∃i,P.info? e=some i∧i.size=1:=by
  unfold bU at hz;rw [gV]at hz;simpa using hz
 obtain⟨i,hi,hi1⟩:=hi;have hc:P.cellsOf e=1:=by simp [Program.cellsOf,hi,hi1]
 obtain⟨b,rfl,hr⟩:=nO (P:=P) (w:=w) hu 9998 us.toArray vs.toArray as bs r us vs 0 v h hv ha hb (fun i=>by simp) (fun i=>by simp);rw [jS]at ht hu;have hgt:P.eqGuardType P.depth t=false:=by
  rw [show P.depth=2*(P.types.size+Made.depth)+1+1 from rfl];unfold Program.eqGuardType;rw [ht];simp only;unfold Program.eqGuardType;rw [hu]
 refine⟨?_,fun u hu'=>?_⟩
 ·rw [qy,run_eqGuard_agg w .eql t xo yo _ _ hgt,ka,run_eql_struct,show (10000:Nat)=9999+1 from rfl,run_equalIn_array w 9999 _ _ ht hi,hc,List.range_eq_range',hr];rfl
 ·simp only [aAp,jk]at hu';subst hu';rw [qy,run_eqGuard_agg w .neq t xo yo _ _ hgt,ka,run_neq_struct,show (10000:Nat)=9999+1 from rfl,run_equalIn_array w 9999 _ _ ht hi,hc,List.range_eq_range',hr];rfl
theorem aNk {ρ:Env}{c:SC}{v:Value}{sv:SV}(h:sv=.one c) (hv:sv.den ρ=some v):c.den ρ=some v:=by subst h;exact hv
theorem iN {ρ:Env}:∀ {l:List SV}{vs:List Value},argsD ρ l=some vs→vs.length=l.length∧∀(i:Nat) (sv:SV),l[i]?=some sv→∃v,vs[i]?=some v∧sv.den ρ=some v
 | [],vs,h=>by simp only [argsD]at h;injection h with h;subst h;exact⟨rfl,fun i sv hi=>by simp at hi⟩
 | x :: l,vs,h=>by
  simp only [argsD]at h;split at h
  ·rename_i v us h1 h2;injection h with h;subst h;obtain⟨i1,i2⟩:=iN h2;refine⟨by simp [i1],fun i sv hi=>?_⟩;cases i with
   | zero=>simp at hi;subst hi;exact⟨v,rfl,h1⟩
   | succ i=>exact i2 i sv (by simpa using hi)
  ·cases h
theorem nF {ρ:Env}:∀ {l r:List SV}{vs:List Value},argsD ρ (l++r)=some vs→∃us ws,argsD ρ l=some us∧argsD ρ r=some ws∧vs=us++ws
 | [],r,vs,h=>⟨[],vs,rfl,h,rfl⟩
 | x :: l,r,vs,h=>by
  simp only [List.cons_append,argsD]at h;split at h
  ·rename_i v us h1 h2;injection h with h;subst h;obtain⟨us',ws,i1,i2,rfl⟩:=nF h2;exact⟨v :: us',ws,by simp [argsD,h1,i1],i2,rfl⟩
  ·cases h
theorem sB {ρ:Env}:∀ {is:List Nat}{vs us:List Value},argsD ρ (is.map fun i=>.one (.var i))=some vs→jC ρ is=some us→vs=us
 | [],vs,us,h,h'=>by simp only [xw,argsD]at h;simp only [jC]at h';injection h with h;injection h' with h';rw [←h,←h']
 | i :: is,vs,us,h,h'=>by
  simp only [zn,argsD]at h;simp only [jC]at h';split at h
  ·rename_i v ws h1 h2;split at h'
   ·rename_i v' ws' h1' h2';injection h with h;injection h' with h';subst h h';have:=sB h2 h2';subst this;simp only [SV.den,SC.den,h1']at h1;split at h1
    ·cases h1
    ·cases h1
    ·injection h1 with h1;rw [h1]
   ·cases h'
  ·cases h
theorem jB {ρ:Env}{tm:Tmp→SV}{a:Act}:∀ {l:List Operand}{vs:List Value},(∀x∈l,∀t,x=.tmp t→Ok ρ (tm t) (a.tmps.getD t undef))→argsD ρ (l.map (opnd tm))=some vs→vs=l.map a.eval
 | [],vs,_,h=>by simp only [xw,argsD]at h;injection h with h;rw [←h];rfl
 | x :: l,vs,hk,h=>by
  simp only [zn,argsD]at h;split at h
  ·rename_i v us h1 h2;injection h with h;subst h;have hne:opnd tm x≠.top:=fun e=>by rw [e]at h1;cases h1
   have:=gP (ρ:=ρ) (a:=a) (hk x (by simp)) hne;rw [h1]at this;injection this with this;rw [this,jB (fun y hy=>hk y (by simp [hy])) h2];rfl
  ·cases h
theorem mY {ρ:Env}:∀ {l:List (Bool×List SC)}{vs:List Value},hC ρ l=some vs→∀(i:Nat) p,l[i]?=some p→∃v,vs[i]?=some v∧gZ ρ p=some v
 | [],vs,h,i,p,hi=>by simp at hi
 | x :: l,vs,h,i,p,hi=>by
  simp only [hC]at h;split at h
  ·rename_i v us h1 h2;injection h with h;subst h;cases i with
   | zero=>simp at hi;subst hi;exact⟨v,rfl,h1⟩
   | succ i=>exact mY h2 i p (by simpa using hi)
  ·cases h
theorem aHu {k:IntKind}{i:Int}{y:Value}(h:leD (.int k i) y=some (.bool true)):∃k' j,y=.int k' j∧i≤j:=by
 unfold leD at h;split at h
 ·rename_i k1 i1 k2 j e;injection e with e1 e2;subst e1 e2;injection h with h;injection h with h;exact⟨_,_,rfl,ow h⟩
 ·cases h
def PubOk (ρ:Env) (hp:Nat→Option SB):Prop:=∀b blk,hp b=some blk→blk.pub=true→∃n,ρ.blk b=some n∧ρ.val blk.pv=some (.pointer (some ⟨n,0,none⟩))
theorem kH (hpub:PubOk ρ hp):∀ {xs:List Operand}{ids:List Nat},(∀x∈xs,∀t,x=.tmp t→Ok ρ (tm t) (a.tmps.getD t undef))→oW tm hp xs=some ids→jC ρ ids=some (xs.map a.eval)
 | [],ids,_,h=>by simp only [oW]at h;injection h with h;subst h;rfl
 | x :: xs,ids,hk,h=>by
  unfold oW at h;split at h
  ·rename_i b hx;split at h
   ·rename_i blk hb;split at h
    ·rename_i hp';cases hc:oW tm hp xs with
     | none=>rw [hc]at h;cases h
     | some is=>
      rw [hc]at h;simp only [jm]at h;injection h with h;subst h;have ih:=kH hpub (fun y hy=>hk y (by simp [hy])) hc;obtain⟨n,h1,h2⟩:=hpub b blk hb hp';have he:=gP (ρ:=ρ) (a:=a) (hk x (by simp)) (by rw [hx];simp);rw [hx]at he;simp only [SV.den,SC.den,h1]at he;injection he with he;simp only [jC,h2,ih,zn,he]
    ·cases h
   ·cases h
  ·cases h
theorem aDs {P:Program}{w:World}{t:TypeId}{name:String}{f:FuncId}{v:Value}(h:rQ P t name=some f) :
 (Go.method (P.types.size+Made.depth) t v name).run P w=.ok (f,v) w:=by
 unfold rQ at h;split at h
 ·cases h
 ·rename_i i d hne hi hu;split at h
  ·rename_i m hm;split at h
   ·rename_i hp;split at h
    ·rename_i f' hf;injection h with h;subst h;have hp':m.path=#[]:=zj hp;have e:P.types.size+Made.depth=(P.types.size+99)+1:=rfl;rw [e];unfold Go.method;simp only [qy,cK hi,Result.andThen,hm,hp',hf,follow,jp,receiverAt,aA hu];cases d <;> first|rfl|exact absurd hu (hne _)
    ·cases h
   ·cases h
  ·cases h
 ·cases h
theorem aMr {ρ:Env}{a b:SC}{v x y:Value}(h:(SV.one (gE (bZ 0 .lss a b) b a)).den ρ=some v) (h1:a.den ρ=some x) (h2:b.den ρ=some y) :
 ∃k i j,x=.int k i∧y=.int k j∧v=.int k (if j > i then j else i):=by
 have hc:∃cv,(bZ 0 .lss a b).den ρ=some cv:=by
  by_cases hl:∃b0,bZ 0 .lss a b=.lit (.bool b0)
  ·obtain⟨b0,e⟩:=hl;rw [e];exact⟨_,rfl⟩
  ·unfold gE at h;split at h
   ·rename_i b0 e;exact absurd ⟨b0,e⟩ hl
   ·simp only [SV.den,SC.den]at h;split at h
    ·rename_i h0 _ _;exact⟨_,h0⟩
    ·cases h
 obtain⟨cv,hc⟩:=hc;obtain⟨b0,rfl,h4⟩:=xF (ρ:=ρ) h hc;rw [aO]at hc;simp only [SC.den,h1,h2]at hc;cases x <;> cases y <;> simp only [eH]at hc <;> try cases hc
 rename_i k i k' j;split at hc
 ·rename_i hk;subst hk;injection hc with hc;injection hc with hc;refine⟨_,i,j,rfl,rfl,?_⟩;subst hc
  by_cases hij:i<j
  ·simp only [hij,decide_true,if_true]at h4 ⊢;rw [h2]at h4;injection h4 with h4;rw [←h4]
  ·simp only [hij,decide_false,zf,if_false]at h4 ⊢;rw [h1]at h4;injection h4 with h4;rw [←h4]
 ·cases hc
theorem aHx {ρ:Env}{a b:SC}{v x y:Value}(h:(SV.one (gE (bZ 0 .lss b a) b a)).den ρ=some v) (h1:a.den ρ=some x) (h2:b.den ρ=some y) :
 ∃k i j,x=.int k i∧y=.int k j∧v=.int k (if j<i then j else i):=by
 have hc:∃cv,(bZ 0 .lss b a).den ρ=some cv:=by
  by_cases hl:∃b0,bZ 0 .lss b a=.lit (.bool b0)
  ·obtain⟨b0,e⟩:=hl;rw [e];exact⟨_,rfl⟩
  ·unfold gE at h;split at h
   ·rename_i b0 e;exact absurd ⟨b0,e⟩ hl
   ·simp only [SV.den,SC.den]at h;split at h
    ·rename_i h0 _ _;exact⟨_,h0⟩
    ·cases h
 obtain⟨cv,hc⟩:=hc;obtain⟨b0,rfl,h4⟩:=xF (ρ:=ρ) h hc;rw [aO]at hc;simp only [SC.den,h1,h2]at hc;cases x <;> cases y <;> simp only [eH]at hc <;> try cases hc
 rename_i k i k' j;split at hc
 ·rename_i hk;subst hk;injection hc with hc;injection hc with hc;refine⟨_,i,j,rfl,rfl,?_⟩;subst hc
  by_cases hij:j<i
  ·simp only [hij,decide_true,if_true]at h4 ⊢;rw [h2]at h4;injection h4 with h4;rw [←h4]
  ·simp only [hij,decide_false,zf,if_false]at h4 ⊢;rw [h1]at h4;injection h4 with h4;rw [←h4]
 ·cases hc
theorem oK {ρ:Env}{b off len c s':Nat}{z:Int}{sh:SC}{v:Value}(hz:z=0) (h:(SC.slc (.sl b off len c) (.lit (.int .u8 z)) sh s').den ρ=some v):∃m k2 i2,ρ.blk b=some m∧sh.den ρ=some (.int k2 i2)∧0≤i2∧i2≤(c:Int)∧v=.slice (some ⟨m,off,none⟩) i2.toNat c:=by
 subst hz;simp only [SC.den]at h;split at h
 ·rename_i x y u d1 d2 d3;split at d1
  ·rename_i m hm;injection d1 with d1;subst d1;injection d2 with d2;subst d2;obtain⟨A,n',c',k1,i1,k2,i2,e1,e2,rfl,q1,q2,q3,rfl⟩:=rW h;injection e1 with e1 e4 e5;subst e1 e4 e5;injection e2 with _ e2;subst e2;refine⟨m,k2,i2,hm,d3,q2,q3,?_⟩;simp [Addr.add]
  ·cases d1
 ·cases h
theorem fU {o:Oper}(hE:ρ.Ok) (hpub:PubOk ρ hp) (hk:Knows1 ρ tm a o):aKw P ρ a w hp o (bF P tm hp o):=by
 obtain⟨dst,op,type,pos,after,guard⟩:=o;have hat:∀ {x:Operand},x∈op.operands→opnd tm x≠.top→(opnd tm x).den ρ=some (a.eval x):=fun hm hx=>hk.at hm hx;have hone:∀ {x:Operand}{c:SC},x∈op.operands→opnd tm x=.one c→c.den ρ=some (a.eval x):=fun hm hx=>aNk hx (hat hm (by rw [hx];simp));unfold bF;cases op <;> simp only
 all_goals try exact trivial
 case move x=>
  intro _ v hv;have:=hat (x:=x) (by simp [Op.operands]) (fun e=>by rw [e]at hv;cases hv);rw [hv]at this;injection this with this;simp [execOp,this]
 case assign x=>
  intro _ v hv;have:=hat (x:=x) (by simp [Op.operands]) (fun e=>by rw [e]at hv;cases hv);rw [hv]at this;injection this with this;simp [execOp,this]
 case pick c x y=>
  split
  ·rename_i sc sx sy hc hx hy;intro _ v hv;have h1:=hone (by simp [Op.operands]) hc;have h2:=hone (by simp [Op.operands]) hx;have h3:=hone (by simp [Op.operands]) hy;obtain⟨b,e,h4⟩:=xF (ρ:=ρ) hv h1;simp only [execOp,e,asBool,Sem.run_bind,Sem.run_pure,Result.andThen];cases b
   ·simp only [zf,if_false]at h4 ⊢;rw [h3]at h4;injection h4 with h4;rw [h4]
   ·simp only [if_true]at h4 ⊢;rw [h2]at h4;injection h4 with h4;rw [h4]
  ·trivial
 case alloc elem=>
  split
  ·rename_i i hi;split
   ·rename_i z hz;split
    ·rename_i cs hc;refine⟨_,(fX hc).1,?_⟩;simp [execOp,Instr.alloc,zeroValue,cK hi,hz,newVar,newRow,uM]
    ·trivial
   ·trivial
  ·trivial
 case box elem x=>
  split
  ·rename_i cs hc;have hne:opnd tm x≠.top:=fun e=>by rw [e]at hc;cases hc
   have:=hat (x:=x) (by simp [Op.operands]) hne;refine⟨_,cells?_spec hc this,?_⟩;simp [execOp,Instr.box,newVar,newRow,uM]
  ·trivial
 case build t parts=>
  split
  ·rename_i i place hi hpl;split
   ·rename_i z hz;split
    ·rename_i cs hc;split
     ·rename_i out hf;intro _ v hv;obtain⟨l1,_⟩:=fX (ρ:=ρ) hc
      obtain⟨us,u1,u2⟩:=jE hE (vals:=parts.toList.map fun p=>(p.1,a.eval p.2)) hf l1 (by simp) (fun i p q hp hq=>by
       simp only [jl]at hp hq;cases hg:parts.toList[i]? with
       | none=>rw [hg]at hp;cases hp
       | some r=>
        rw [hg]at hp hq;simp only [jm,jk]at hp hq;subst hp hq;refine⟨rfl,fun hne=>hat ?_ hne⟩;simp only [Op.operands,List.mem_toArray,xf]
        exact⟨r,za hg,rfl⟩)
      simp only [bV,SV.den,u1]at hv;injection hv with hv;subst hv;have hz2:(zeroValue t).run P w=.ok (.agg z) w:=by simp [zeroValue,cK hi,hz]
      have hcells:(Value.agg z).cells.toList.toArray=z:=by simp [Value.cells]
      rw [hcells]at u2;have:=aKe (parts:=parts.map fun p=>(p.1,a.eval p.2)) hz2 hpl (by simpa [Value.cells] using u2);simp only [execOp,Sem.run_bind];rw [this];rfl
     ·trivial
    ·trivial
   ·trivial
  ·trivial
 case load t x=>
  split
  ·rename_i b off hx;have h1:=hone (by simp [Op.operands]) hx;split
   ·rename_i blk hb;split
    ·rename_i v hv;intro blk' n vs hb' hn hc hB;rw [hb]at hb';injection hb' with hb';subst hb';simp only [SC.den,hn]at h1;injection h1 with h1;obtain⟨y,y1,y2⟩:=qP hE (P:=P) (w:=w) hv hc hB;refine⟨y,y1,?_⟩;simp [execOp,←h1,Instr.loadAt,Instr.sureAddr,y2]
    ·trivial
   ·trivial
  ·rename_i b off n c i s j hx;have h1:=hone (by simp [Op.operands]) hx;split
   ·rename_i blk hb;split
    ·rename_i cs hcs;intro blk' nn vs hb' hn hc hB;rw [hb]at hb';injection hb' with hb';subst hb';obtain⟨nn',kk,I,hn',hi,h0,hI,hp⟩:=lU h1;rw [hn]at hn';injection hn' with hn';subst hn';obtain⟨m,m1,m2,m3,m4⟩:=qG hE hcs hc hi h0 hI;refine⟨_,m3,?_⟩;have:=mL (P:=P) hB (o:=off+I.toNat*s+j) (m:=m) (by simpa using m4);simp [execOp,hp,Instr.loadAt,Instr.sureAddr,loadVar,aZ m1,aG m2,this]
    ·split
     ·rename_i c' hcl;split
      ·rename_i hj;subst hj;intro blk' nn vs hb' hn hc hB;rw [hb]at hb';injection hb' with hb';subst hb';obtain⟨nn',kk,I,hn',hi,h0,hI,hp⟩:=lU h1;rw [hn]at hn';injection hn' with hn';subst hn';obtain⟨cs,hcut,hcel⟩:=qb.1 hcl;obtain⟨x,k,rfl,rfl,g2,g0⟩:=sF hcel;obtain⟨c1,c2⟩:=eV hE hcut hc;simp only [aC]at c1;split at c1
       ·rename_i us k' us' q1 q2 q3;injection q3 with q3;subst q3;split at c1
        ·rename_i hk;injection c1 with c1;rw [qn]at c1;obtain⟨us',e,e1,e2⟩:=hE _ _ _ q2 q1;injection e with e;subst e;have hI':I.toNat<n:=oq
         have hmul:(I.toNat+1)*s≤n*s:=oi s hI';have hmul':(I.toNat+1)*s=I.toNat*s+s:=zp _ _;have hlt:I.toNat*s<us.size:=oq
         have hsc:=(e2 us[I.toNat*s] (by simp)).1;have hd:aCe us (I.toNat*s)=some us[I.toNat*s]:=by
          unfold aCe;rw [oo hlt];generalize us[I.toNat*s]=u at *
          cases u <;> first|rfl|cases hsc
         refine⟨us[I.toNat*s],by simp only [SV.den,SC.den,q1,hi,hd],?_⟩;have hcell:w.cell? ⟨nn,off+I.toNat*s,none⟩=some us[I.toNat*s]:=by
          rw [hB.cell];have:=congrArg (fun l=>l[I.toNat*s]?) c1;simp only [zd,vm]at this;rw [od oq]at this;simp only [kn];rw [←this];simp [Array.getElem?_eq_getElem hlt]
         simp [execOp,hp,Instr.loadAt,Instr.sureAddr,loadVar,aZ g2,hcell]
        ·cases c1
       ·cases c1
      ·trivial
     ·trivial
   ·trivial
  ·rename_i v i s j hx;have h1:=hone (by simp [Op.operands]) hx;intro b o' n c k I y hv hi h0 hI hsh hw;rw [SC.den]at h1;simp only [hv,hi,iQ,h0,hI,and_self,if_true]at h1;injection h1 with h1;have:=aBg (P:=P) (w:=w) (b:=b) (o:=o'+I.toNat*s+j) hsh fun p u hu=>by
    have:=hw p u hu;have e:o'+I.toNat*s+j+p=o'+(I.toNat*s+j+p):=oq
    rw [e];exact this
   simp [execOp,←h1,Instr.loadAt,Instr.sureAddr,this]
  ·rename_i sa si s j _ _ hx;have h1:=hone (by simp [Op.operands]) hx;intro b o' n c k I y hv hi h0 hI hsh hw;simp only [SC.den,hv,hi,iQ,h0,hI,and_self,if_true]at h1;injection h1 with h1;have:=aBg (P:=P) (w:=w) (b:=b) (o:=o'+I.toNat*s+j) hsh fun p u hu=>by
    have:=hw p u hu;have e:o'+I.toNat*s+j+p=o'+(I.toNat*s+j+p):=oq
    rw [e];exact this
   simp [execOp,←h1,Instr.loadAt,Instr.sureAddr,this]
  ·trivial
 case store t x y=>
  split
  ·rename_i b off new m hx hnew hm;have h1:=hone (by simp [Op.operands]) hx;split
   ·rename_i blk hb;split
    ·rename_i hw;split
     ·rename_i cs hov;intro _ blk' n vs hb' hn hc hB;rw [hb]at hb';injection hb' with hb';subst hb';simp only [SC.den,hn]at h1;injection h1 with h1;have hne:opnd tm y≠.top:=fun e=>by rw [e]at hnew;cases hnew
      have h2:=hat (x:=y) (by simp [Op.operands]) hne;have h3:=cells?_spec hnew h2;obtain⟨o1,o2⟩:=mW hE hov hc h3;refine⟨_,o1,?_⟩;simp only [Bool.and_eq_true,decide_eq_true_eq]at hw;have hlen:=cX hE h3;have hsz:(a.eval y).cells.size=m:=by rw [←hw.1,←hlen];simp
      have hl2:(a.eval y).cells.toList.length=m:=by simpa using hsz
      have:=jM (P:=P) (w:=w) (t:=t) (off:=off) (v:=a.eval y) hB hm hsz (by rw [hl2]at o2;simpa using o2) (cN hE h3);simp [execOp,←h1,Instr.storeAt,Instr.sureAddr,this]
     ·trivial
    ·trivial
   ·trivial
  ·rename_i b off n c i s j new m hx hnew hm;have h1:=hone (by simp [Op.operands]) hx;split
   ·rename_i blk hb;split
    ·rename_i hw;split
     ·rename_i cs hov;intro hcw blk' nn vs hb' hn hc hB;rw [hb]at hb';injection hb' with hb';subst hb';obtain⟨nn',kk,I,hn',hi,h0,hI,hp⟩:=lU h1;rw [hn]at hn';injection hn' with hn';subst hn';have hne:opnd tm y≠.top:=fun e=>by rw [e]at hnew;cases hnew
      have h2:=hat (x:=y) (by simp [Op.operands]) hne;have h3:=cells?_spec hnew h2;obtain⟨o1,o2⟩:=aEl hE hov hc h3 hi h0 hI (aEm hE hov hcw h3);refine⟨_,o1,?_⟩;simp only [Bool.and_eq_true,decide_eq_true_eq]at hw;have hlen:=cX hE h3;have hsz:(a.eval y).cells.size=m:=by rw [←hw.1,←hlen];simp
      have hl2:(a.eval y).cells.toList.length=m:=by simpa using hsz
      have:=jM (P:=P) (w:=w) (t:=t) (off:=off+I.toNat*s+j) (v:=a.eval y) hB hm hsz (by rw [hl2]at o2;simpa using o2) (cN hE h3);simp [execOp,hp,Instr.storeAt,Instr.sureAddr,this]
     ·trivial
    ·trivial
   ·trivial
  ·trivial
 case nilCheck x=>
  split
  ·rename_i b off hx;intro _ v hv;have h1:=hone (by simp [Op.operands]) hx;simp only [SV.den]at hv;rw [h1]at hv;injection hv with hv;simp only [SC.den]at h1;split at h1
   ·injection h1 with h1;subst hv;simp [execOp,←h1]
   ·cases h1
  ·rename_i f caps hx;intro _ v hv;have h1:=hone (by simp [Op.operands]) hx;simp only [SV.den]at hv;rw [h1]at hv;injection hv with hv;simp only [SC.den]at h1;split at h1
   ·injection h1 with h1;subst hv;simp [execOp,←h1]
   ·cases h1
  ·trivial
 case binOp op t x y yt=>
  split
  ·rename_i sa sb hx hy;have h1:=hone (by simp [Op.operands]) hx;have h2:=hone (by simp [Op.operands]) hy;split
   ·rename_i k hu;intro hneeds v hv;simp only [SV.den,aO,SC.den,h1,h2]at hv
    have:=pL (P:=P) (w:=w) (t:=t) (xo:=x) (yo:=y) hv oz (by simp) (fun h=>by
     have:(aUf sb).den ρ=some (.bool true):=hneeds _ (by rcases h with rfl|rfl <;> simp);rw [aMz]at this
     simpa [SC.den,h2] using this)
     (fun h=>by
       have:(mA (.lit (.int .i64 0)) sb).den ρ=some (.bool true):=hneeds _ (by rcases h with rfl|rfl <;> simp);rw [nX]at this;simp only [SC.den,h2]at this
       exact aHu this)
     (fun _ s u e1 e2=>by rw [e1,e2]at hv;cases hv)
    simp only [execOp,qy]at this ⊢;rw [this];rfl
   ·rename_i hu;intro _ v hv;simp only [SV.den,aO,SC.den,h1,h2]at hv;have:=pL (P:=P) (w:=w) (t:=t) (xo:=x) (yo:=y) hv oz (fun _=>hu)
     (fun h=>by unfold eH at hv;split at hv <;> first|(rename_i e _ _;cases e;done)|(rcases h with rfl|rfl <;> cases hv)|cases hv)
     (fun h=>by unfold eH at hv;split at hv <;> first|(rename_i e _ _;cases e;done)|(rcases h with rfl|rfl <;> cases hv)|cases hv)
     (fun _ s u e1 e2=>by rw [e1,e2]at hv;cases hv)
    simp only [execOp,qy]at this ⊢;rw [this];rfl
   ·rename_i hu;intro hneeds v hv;simp only [SV.den,aO,SC.den,h1,h2]at hv;have:=pL (P:=P) (w:=w) (t:=t) (xo:=x) (yo:=y) hv oz (by simp)
     (fun h=>by unfold eH at hv;split at hv <;> first|(rename_i e _ _;cases e;done)|(rcases h with rfl|rfl <;> cases hv)|cases hv)
     (fun h=>by unfold eH at hv;split at hv <;> first|(rename_i e _ _;cases e;done)|(rcases h with rfl|rfl <;> cases hv)|cases hv)
     (fun h s u e1 e2=>by
       subst h;have:(SC.fit sa sb).den ρ=some (.bool true):=hneeds _ (by simp);simp only [SC.den,h1,h2,e1,e2,aTs,jk,zi,decide_eq_true_eq]at this
       omega)
    simp only [execOp,qy]at this ⊢;rw [this];rfl
   ·rename_i k hu;intro hneeds v hv;simp only [SV.den,aO,SC.den,h1,h2]at hv
    have:=aPw (P:=P) (w:=w) (t:=t) (xo:=x) (yo:=y) hv (fun h=>by
     have:(bZ 4 op sa sb).den ρ=some (.bool true):=hneeds _ (by rcases h with rfl|rfl|rfl|rfl <;> simp);rw [aO]at this
     simpa only [SC.den,h1,h2] using this)
    simp only [execOp,qy]at this ⊢;rw [this];rfl
   ·rename_i k hu;intro hneeds v hv;simp only [SV.den,aO,SC.den,h1,h2]at hv;have:=aPv (P:=P) (w:=w) (t:=t) (xo:=x) (yo:=y) hv;simp only [execOp,qy]at this ⊢;rw [this];rfl
   ·trivial
  ·rename_i as bs hx hy;split
   ·rename_i n e hu;split
    ·rename_i kk he hz;split
     ·rename_i hn;have h1:=hat (x:=x) (by simp [Op.operands]) (by rw [hx];simp);have h2:=hat (x:=y) (by simp [Op.operands]) (by rw [hy];simp);rw [hx]at h1;rw [hy]at h2;obtain⟨us,hus,e1⟩:=uP h1;obtain⟨vs,hvs,e2⟩:=uP h2;split
      ·rename_i r hr;intro _ v hv;have:=(wA (P:=P) (w:=w) (xo:=x) (yo:=y) hu he hz hn hr hv hus hvs).1;rw [←e1,←e2]at this;simp only [execOp,qy]at this ⊢;rw [this];rfl
      ·rename_i r hr;intro _ v hv;simp only [SV.den,vL,SC.den]at hv;cases hv':r.den ρ with
       | none=>rw [hv']at hv;cases hv
       | some v'=>
        rw [hv']at hv;have:=(wA (P:=P) (w:=w) (xo:=x) (yo:=y) hu he hz hn hr hv' hus hvs).2 v hv;rw [←e1,←e2]at this;simp only [execOp,qy]at this ⊢;rw [this];rfl
      ·trivial
     ·trivial
    ·trivial
   ·trivial
  ·trivial
 case unOp op t x=>
  split
  ·rename_i sa e hx;have h1:=hone (by simp [Op.operands]) hx;intro _ v hv;simp only [SV.den,vL,SC.den,h1,Option.bind_some,aAp]at hv;split at hv
   ·rename_i b he;injection hv with hv;subst hv;simp [execOp,he,Op.unary]
   ·cases hv
  ·rename_i sa e hx;have h1:=hone (by simp [Op.operands]) hx;intro _ v hv;simp only [SV.den,aIe,SC.den,h1,Option.bind_some,aIj]at hv;split at hv
   ·rename_i k b he;injection hv with hv;subst hv;simp [execOp,he,Op.unary,Op.intArith]
   ·rename_i k b he;injection hv with hv;subst hv;simp [execOp,he,Op.unary]
   ·cases hv
  ·trivial
 case convert s d x=>
  split
  ·rename_i ks k sa hus hu hx;have h1:=hone (by simp [Op.operands]) hx;intro _ v hv;simp only [SV.den,aO,SC.den,h1]at hv;have:=aKf (P:=P) (w:=w) hus hu hv;simp only [execOp,qy,this];rfl
  ·rename_i ks k sa hus hu hx;have h1:=hone (by simp [Op.operands]) hx;intro hneeds v hv;have hn:=hneeds _ (List.mem_singleton.2 rfl);simp only [aO,SC.den,h1]at hn;simp only [SV.den,aO,SC.den,h1]at hv;have:=aKg (P:=P) (w:=w) hus hu hv hn;simp only [execOp,qy,this];rfl
  ·rename_i ks k sa hus hu hx;have h1:=hone (by simp [Op.operands]) hx;intro hneeds v hv;have hn:=hneeds _ (List.mem_singleton.2 rfl);simp only [aO,SC.den,h1]at hn;simp only [SV.den,aO,SC.den,h1]at hv;have:=aKh (P:=P) (w:=w) hus hu hv hn;simp only [execOp,qy,this];rfl
  ·rename_i ds k sa hneg hus hu hx;have h1:=hone (by simp [Op.operands]) hx;intro _ v hv;simp only [SV.den,aCu,SC.den,h1,Option.bind_some,uW]at hv;split at hv
   ·rename_i k' b he;injection hv with hv;subst hv;have:(convert s d (.int k' b)).run P w=.ok (.int k (k.wrap b)) w:=by
     simp only [convert,qy,aA hus,aA hu,Result.andThen,Conv.intToInt,jp]
    simp only [execOp,he,qy,this];rfl
   ·cases hv
  ·rename_i ks k sa hus hu hx;have h1:=hone (by simp [Op.operands]) hx;intro hneeds v hv;have hn:=hneeds _ (List.mem_singleton.2 rfl);simp only [aO,SC.den,h1]at hn;simp only [SV.den,aO,SC.den,h1]at hv;have:=aDr (P:=P) (w:=w) hus hu hv hn;simp only [execOp,qy,this];rfl
  ·trivial
 case makeFunc fn first captured=>
  split
  ·rename_i f hs;split
   ·rename_i ids hc;intro _ v hv;have e1:first=#[]:=zj hs
    subst e1;have:=kH hpub (a:=a) (fun x hx t e=>hk t (by subst e;simp [Op.operands,←Array.mem_toList_iff];simpa using hx)) hc;simp only [SV.den,SC.den,this]at hv;injection hv with hv;subst hv;have em:captured.map a.eval=(captured.toList.map a.eval).toArray:=by apply jc;simp
    simp only [execOp,Instr.makeFunc,em,qy,jp,Result.andThen,xj,xw]
   ·trivial
  ·trivial
 case fieldAddr s x f=>
  split
  ·rename_i b off fields hx hu;have h1:=hone (by simp [Op.operands]) hx;split
   ·rename_i fd hf;split
    ·rename_i m hm;intro _ v hv;simp only [SC.den]at h1;simp only [SV.den,SC.den]at hv;split at h1
     ·rename_i n hn;injection h1 with h1;simp only [hn]at hv;injection hv with hv;subst hv;simp [execOp,←h1,Instr.fieldAt,aA hu,hf,Instr.sureAddr,fieldPlace,aG hm,bN]
     ·cases h1
    ·trivial
   ·trivial
  ·rename_i sa si s' j fields hx hu;have h1:=hone (by simp [Op.operands]) hx;split
   ·rename_i fd hf;split
    ·rename_i m hm;intro _ v hv;simp only [SC.den]at h1;simp only [SV.den,SC.den]at hv;split at h1
     ·rename_i va vi hva hvi;simp only [hva,hvi]at hv;obtain⟨b,o,n,c,k,I,rfl,rfl,h0,hI,e⟩:=dV h1;obtain⟨_,_,_,_,_,_,e1,e2,_,_,rfl⟩:=dV hv;injection e1 with e1 e3 e4;injection e1 with e1;injection e1 with e1 e5 _;injection e2 with _ e2;subst e1 e5 e2;simp [execOp,e,Instr.fieldAt,aA hu,hf,Instr.sureAddr,fieldPlace,aG hm,bN,Nat.add_assoc]
     ·cases h1
    ·trivial
   ·trivial
  ·trivial
 case field t x f=>
  split
  ·rename_i cs fields hx hu;have h1:(SV.agg cs).den ρ=some (a.eval x):=by rw [←hx];exact hat (by simp [Op.operands]) (by rw [hx];simp)
   simp only [bV,SV.den]at h1;split at h1
   ·rename_i vs hvs;injection h1 with h1;split
    ·rename_i fd hf;split
     ·rename_i sv hsv;intro _ v hv;obtain⟨y,y1,y2⟩:=aBf hE (P:=P) (w:=w) hsv hvs;rw [hv]at y1;injection y1 with y1;subst y1;simp [execOp,←h1,Instr.field,aA hu,hf,asAgg,y2]
     ·trivial
    ·trivial
   ·cases h1
  ·trivial
 case makeInterface t x=>
  split
  ·trivial
  ·rename_i c d hne hx hu;intro _ v hv;have h1:=hone (by simp [Op.operands]) hx;simp only [SV.den,gZ,h1]at hv;injection hv with hv;subst hv;simp only [execOp,Instr.makeInterface,qy,aA hu,Result.andThen];cases d <;> first|rfl|exact absurd hu (hne _)
  ·rename_i cs d hne hx hu;intro _ v hv;have h1:(SV.agg cs).den ρ=some (a.eval x):=by rw [←hx];exact hat (by simp [Op.operands]) (by rw [hx];simp)
   simp only [SV.den]at h1;simp only [SV.den,gZ,h1]at hv;injection hv with hv;subst hv;simp only [execOp,Instr.makeInterface,qy,aA hu,Result.andThen];cases d <;> first|rfl|exact absurd hu (hne _)
  ·trivial
 case buildSlice t len parts=>
  split
  ·rename_i e hu;split
   ·rename_i i size hi hs;split
    ·rename_i z hz;split
     ·rename_i zc hc;split
      ·rename_i hle;split
       ·rename_i out hf;obtain⟨l1,l2⟩:=fX (ρ:=ρ) hc;have hzc:zc=z.cells.toList.map .lit:=wX hc;have hsz:∀j,(zc[j % zc.length]?).getD (.lit (.bool false))=SC.lit ((z.cells.toList[j % z.cells.size]?).getD (.bool false)):=fun j=>by
         rw [hzc];simp only [jl,List.length_map,zb];cases z.cells.toList[j % z.cells.size]? <;> rfl
        have hall:∀u∈(List.range (len*size)).map (fun j=>(z.cells.toList[j % z.cells.size]?).getD (.bool false)),u.scalar=true:=by
         intro u hu;obtain⟨j,_,rfl⟩:=xf.1 hu;cases hj:z.cells.toList[j % z.cells.size]? with
         | none=>rfl
         | some q=>exact l2 q (za hj)
        have hcl:=iB (ρ:=ρ) _ hall;rw [List.map_map]at hcl;have e0:((List.range (len*size)).map fun i=>(zc[i % zc.length]?).getD (.lit (.bool false)))=(List.range (len*size)).map (SC.lit ∘ fun j=>(z.cells.toList[j % z.cells.size]?).getD (.bool false)):=
         List.map_congr_left fun j _=>hsz j
        rw [e0]at hf
        obtain⟨us,u1,u2⟩:=jE hE (vals:=parts.toList.map fun p=>(p.1,a.eval p.2)) hf hcl (by simp) (fun i p q hp hq=>by
         simp only [jl]at hp hq;cases hg:parts.toList[i]? with
         | none=>rw [hg]at hp;cases hp
         | some r=>
          rw [hg]at hp hq;simp only [jm,jk]at hp hq;subst hp hq;refine⟨rfl,fun hne=>hat ?_ hne⟩;simp only [Op.operands,List.mem_toArray,xf]
          exact⟨r,za hg,rfl⟩)
        refine⟨us,u1,?_⟩;have hzz:(zeroValue e).run P w=.ok z w:=by simp [zeroValue,cK hi,hz]
        have e1:((Array.range (len*size)).map (z.cells[· % z.cells.size]!))=((List.range (len*size)).map fun j=>(z.cells.toList[j % z.cells.size]?).getD (.bool false)).toArray:=by
         have hpos:0<z.cells.size:=by have:=hle.2.2;rw [hzc]at this;simp at this;exact jr (by simpa using this)
         apply jc;simp only [yr,Array.toList_range];refine List.map_congr_left fun j _=>?_;have hlt:=qg j hpos;have hlt':j % z.cells.size<z.cells.toList.length:=by simpa using hlt
         rw [getElem!_pos z.cells _ hlt,qi hlt'];simp
        have e2:(parts.map fun (x:Nat×Operand)=>(x.1,a.eval x.2)).toList=parts.toList.map fun p=>(p.1,a.eval p.2):=by simp
        have e3:¬ (len*size > 2^24):=by have:=hle.1;omega
        simp only [execOp,Instr.buildSlice,qy,aA hu,aG hs,Result.andThen,e3,if_false,oh hle.2.1,hzz,jp,e1,e2,u2,newRow,uM];simp
       ·trivial
      ·trivial
     ·trivial
    ·trivial
   ·trivial
  ·trivial
 case indexAddr t x ix=>
  split
  ·rename_i b off n c k i e hx hix hu;have h1:=hone (by simp [Op.operands]) hx;have h2:=hone (by simp [Op.operands]) hix;simp only [SC.den]at h2;injection h2 with h2;split
   ·rename_i s hs;split
    ·rename_i hr;intro _ v hv;simp only [SC.den]at h1;simp only [SV.den,SC.den]at hv;split at h1
     ·rename_i m hm;injection h1 with h1;simp only [hm]at hv;injection hv with hv;subst hv;simp [execOp,←h1,←h2,Instr.indexAt,asIntOf,aA hu,Instr.sureAddr,aG hs,hr,bN]
     ·cases h1
    ·trivial
   ·trivial
  ·rename_i b off k i n e hx hix hu;have h1:=hone (by simp [Op.operands]) hx;have h2:=hone (by simp [Op.operands]) hix;simp only [SC.den]at h2;injection h2 with h2;split
   ·rename_i s hs;split
    ·rename_i hr;intro _ v hv;simp only [SC.den]at h1;simp only [SV.den,SC.den]at hv;split at h1
     ·rename_i m hm;injection h1 with h1;simp only [hm]at hv;injection hv with hv;subst hv;simp [execOp,←h1,←h2,Instr.indexAt,asIntOf,aA hu,Instr.sureAddr,aG hs,hr,bN]
     ·cases h1
    ·trivial
   ·trivial
  ·rename_i b off si n e _ hx hix hu;have h1:=hone (by simp [Op.operands]) hx;have h2:=hone (by simp [Op.operands]) hix;split
   ·rename_i s hs;intro _ v hv;obtain⟨nn,kk,I,hn,hi,h0,hI,rfl⟩:=lU (by simpa only [SV.den] using hv);rw [h2]at hi;injection hi with hi;simp only [SC.den,hn]at h1;injection h1 with h1;simp [execOp,←h1,hi,Instr.indexAt,asIntOf,aA hu,Instr.sureAddr,aG hs,h0,hI,bN]
   ·trivial
  ·rename_i b off len c si e _ hx hix hu;have h1:=hone (by simp [Op.operands]) hx;have h2:=hone (by simp [Op.operands]) hix;split
   ·rename_i s hs;intro _ v hv;obtain⟨nn,kk,I,hn,hi,h0,hI,rfl⟩:=lU (by simpa only [SV.den] using hv);rw [h2]at hi;injection hi with hi;simp only [SC.den,hn]at h1;injection h1 with h1;simp [execOp,←h1,hi,Instr.indexAt,asIntOf,aA hu,Instr.sureAddr,aG hs,h0,hI,bN]
   ·trivial
  ·rename_i b off len c z sh s' si e hx hix hu;have h1:=hone (by simp [Op.operands]) hx;have h2:=hone (by simp [Op.operands]) hix;split
   ·rename_i s hs;split
    ·rename_i hz;intro hneeds v hv;obtain⟨nn,kk,I,hn,hi,h0,hI,rfl⟩:=lU (by simpa only [SV.den] using hv);rw [h2]at hi;injection hi with hi;have n1:=hneeds (kP si sh) (by simp);rw [gN]at n1;obtain⟨m,k2,i2,e1,e2,q1,q2,e3⟩:=oK hz h1;rw [hn]at e1;injection e1 with e1;subst e1;simp only [SC.den,h2,hi,e2,rF,jk,zi,decide_eq_true_eq]at n1;have hI2:I<((i2.toNat:Nat):Int):=oq
     generalize i2.toNat=N at e3 hI2;simp [execOp,e3,hi,Instr.indexAt,asIntOf,aA hu,Instr.sureAddr,aG hs,h0,hI2,bN]
    ·trivial
   ·trivial
  ·rename_i sa si e _ _ _ _ hx hix hu;have h1:=hone (by simp [Op.operands]) hx;have h2:=hone (by simp [Op.operands]) hix;split
   ·rename_i s hs;intro _ v hv;simp only [SV.den,SC.den,h1,h2]at hv;obtain⟨b,o,n,c,k,I,e1,e2,h0,hI,rfl⟩:=dV hv;simp [execOp,e1,e2,Instr.indexAt,asIntOf,aA hu,Instr.sureAddr,aG hs,h0,hI,bN]
   ·trivial
  ·rename_i sa si s j k z n e hx hix hu;have h1:=hone (by simp [Op.operands]) hx;have h2:=hone (by simp [Op.operands]) hix;simp only [SC.den]at h2;injection h2 with h2;split
   ·rename_i s' hs;split
    ·rename_i hr;intro _ v hv;simp only [SC.den]at h1;simp only [SV.den,SC.den]at hv;split at h1
     ·rename_i va vi hva hvi;simp only [hva,hvi]at hv;obtain⟨b,o,n',c,k',I,rfl,rfl,h0,hI,e1⟩:=dV h1;obtain⟨b2,o2,n2,c2,k2,I2,e3,e4,_,_,rfl⟩:=dV hv;injection e3 with e3 e5;injection e3 with e3;injection e3 with e3 e6;injection e4 with e4 e7;subst e3 e6 e7;have e8:o+I.toNat*s+(j+z.toNat*s')=o+I.toNat*s+j+z.toNat*s':=oq
      simp [execOp,e1,←h2,Instr.indexAt,asIntOf,aA hu,Instr.sureAddr,aG hs,hr,bN,e8]
     ·cases h1
    ·trivial
   ·trivial
  ·trivial
 case index t x ix=>
  split
  ·rename_i cs k i n e hx hix hu;have h1:(SV.agg cs).den ρ=some (a.eval x):=by rw [←hx];exact hat (by simp [Op.operands]) (by rw [hx];simp)
   have h2:=hone (by simp [Op.operands]) hix;simp only [SC.den]at h2;injection h2 with h2;simp only [bV,SV.den]at h1;split at h1
   ·rename_i vs hvs;injection h1 with h1;split
    ·rename_i s hs;split
     ·rename_i hr;split
      ·rename_i sv hsv;intro _ v hv;obtain⟨y,y1,y2⟩:=aBf hE (P:=P) (w:=w) hsv hvs;rw [hv]at y1;injection y1 with y1;subst y1;simp [execOp,←h1,←h2,Instr.index,asIntOf,aA hu,aG hs,hr,y2]
      ·trivial
     ·trivial
    ·trivial
   ·cases h1
  ·rename_i ss si hx hix hu;have h1:=hone (by simp [Op.operands]) hx;have h2:=hone (by simp [Op.operands]) hix;intro hneeds v hv;have hn:=hneeds _ (qr.2 rfl);rw [gN]at hn;simp only [SC.den,gO,h1,h2,ja]at hn;simp only [SV.den,SC.den,h1,h2,aEx]at hv;split at hv
   ·rename_i s k i e1 e2;injection hv with hv;subst hv;rw [e1,e2]at hn;simp only [mS,rF,jk,zi,decide_eq_true_eq]at hn;have hlt:i.toNat<s.size:=oq
    have:(Instr.index t (.string s) (.int k i)).run P w=.ok (.int .u8 (s[i.toNat]?.getD 0).toNat) w:=by
     simp [Instr.index,asIntOf,aA hu,hn.1,hlt]
    simp only [execOp,e1,e2,qy,this];rfl
   ·cases hv
  ·rename_i cs si n e _ hx hix hu;have h1:(SV.agg cs).den ρ=some (a.eval x):=by rw [←hx];exact hat (by simp [Op.operands]) (by rw [hx];simp)
   have h2:=hone (by simp [Op.operands]) hix;simp only [bV,SV.den]at h1;split at h1
   ·rename_i vs hvs;injection h1 with h1;split
    ·rename_i s hs;split
     ·rename_i l hl;intro hneeds v hv;have hn:=hneeds _ (qr.2 rfl);rw [gN]at hn;simp only [SC.den,h2]at hn;unfold rF at hn;split at hn
      ·rename_i kk I kk' N e1 e2;injection e2 with _ e2;subst e2;injection hn with hn;injection hn with hn;have hr:=ow hn;have h0:0≤I:=hr.1;have hI:I<(n:Int):=hr.2;rw [e1]at h2;obtain⟨m,m1,m2,m3,m4⟩:=qG hE hl hvs h2 h0 hI;rw [hv]at m3;injection m3 with m3;subst m3;have y2:(part e vs.toArray (I.toNat*s)).run P w=.ok (.agg (vs.toArray.extract (0+I.toNat*s+0) (0+I.toNat*s+0+m))) w:=by
        simp [part,aZ m1,aG m2]
       simp [execOp,←h1,e1,Instr.index,asIntOf,aA hu,aG hs,h0,hI,y2]
      ·cases hn
     ·split
      ·rename_i c hc;intro hneeds v hv;have hn:=hneeds _ (qr.2 rfl);rw [gN]at hn;simp only [SC.den,h2]at hn;unfold rF at hn;split at hn
       ·rename_i kk I kk' N e1 e2;injection e2 with _ e2;subst e2;injection hn with hn;injection hn with hn;have hr:=ow hn;have h0:0≤I:=hr.1;have hI:I<(n:Int):=hr.2;rw [e1]at h2;obtain⟨x,k,rfl,rfl,g2,_⟩:=sF hc;simp only [SV.den,SC.den,h2]at hv;simp only [aC]at hvs;split at hvs
        ·rename_i us k us' q1 q2 q3;injection q3 with q3;subst q3;split at hvs
         ·injection hvs with hvs;rw [qn]at hvs;subst hvs;simp only [q1]at hv;have hp:=aHd hv;have y2:(part e us (I.toNat*s)).run P w=.ok v w:=by
           simp [part,aZ g2,hp]
          simp [execOp,←h1,e1,Instr.index,asIntOf,aA hu,aG hs,h0,hI,y2]
         ·cases hvs
        ·cases hvs
       ·cases hn
      ·trivial
    ·trivial
   ·cases h1
  ·trivial
 case slice t x lo hi mx=>
  split
  ·rename_i ss hx hu;have h1:=hone (by simp [Op.operands]) hx;split
   ·rename_i sl sh hl hh;intro hneeds v hv;have n1:=hneeds (mA (.lit (.int .i64 0)) sl) (by simp);have n2:=hneeds (mA sl sh) (by simp);have n3:=hneeds (mA sh (kQ ss)) (by simp);rw [nX]at n1 n2 n3;simp only [SV.den,SC.den]at hv;split at hv
    ·rename_i vs vl vh d1 d2 d3;rw [h1]at d1;injection d1 with d1;unfold aWf at hv;split at hv
     ·rename_i s k1 i1 k2 i2;injection hv with hv;subst hv;simp only [SC.den,gO,d2,d3,h1,d1,ja,mS,leD,jk,zi,decide_eq_true_eq]at n1 n2 n3;have key:∀(lo' hi':Option Value),(match lo' with|some v=>v=.int k1 i1|none=>i1=0)→(match hi' with|some v=>v=.int k2 i2|none=>i2=s.size)→
       (Instr.sliceAt t (.string s) lo' hi' none).run P w=.ok (.string (s.extract i1.toNat i2.toNat)) w:=by
       intro lo' hi' e1 e2;have hh:i2.toNat≤s.size:=oq
       have n3':i2≤(s.size:Int):=n3;have hh2:((i2.toNat:Nat):Int)=i2:=oq
       cases lo' with
       | none=>
        simp only at e1;cases hi' with
        | none=>
         simp only at e2;subst e1;simp [Instr.sliceAt,aA hu,Instr.slice,Instr.sliceBounds,e2]
        | some v=>
         simp only at e2;subst e1 e2;have:(0:Int)≤i2∧i2≤(s.size:Int):=⟨oq,n3'⟩;simp [Instr.sliceAt,aA hu,Instr.slice,Instr.sliceBounds,Instr.sliceBound,asIntOf,this]
       | some u=>
        simp only at e1;subst e1;cases hi' with
        | none=>
         simp only at e2;have:(0:Int)≤i1∧i1≤(s.size:Int):=⟨n1,oq⟩;simp [Instr.sliceAt,aA hu,Instr.slice,Instr.sliceBounds,Instr.sliceBound,asIntOf,this,e2]
        | some v=>
         simp only at e2;subst e2;have h3:(0:Int)≤i2∧i2≤(s.size:Int):=⟨oq,n3'⟩;have h4:(0:Int)≤i1∧i1≤((i2.toNat:Nat):Int):=⟨n1,oq⟩;simp only [Instr.sliceAt,aA hu,Instr.slice,Instr.sliceBounds,Instr.sliceBound,asIntOf,qy,Result.andThen,jp,Option.isSome,zf,if_false,h3,h4,and_self,if_true]
      have hlo:(match lo.map a.eval with|some v=>v=.int k1 i1|none=>i1=0):=by
       cases lo with
       | none=>
        simp only at hl;injection hl with hl;subst hl;simp only [SC.den]at d2;injection d2 with d2;injection d2 with _ d2;exact d2.symm
       | some l=>
        have:=hone (x:=l) (by simp [Op.operands]) hl;rw [d2]at this;injection this with this;exact this.symm
      have hhi:(match hi.map a.eval with|some v=>v=.int k2 i2|none=>i2=s.size):=by
       cases hi with
       | none=>
        simp only at hh;injection hh with hh;subst hh;simp only [gO,SC.den,h1,d1,ja,mS]at d3;injection d3 with d3;injection d3 with _ d3;exact d3.symm
       | some l=>
        have:=hone (x:=l) (by simp [Op.operands]) hh;rw [d3]at this;injection this with this;exact this.symm
      have:=key _ _ hlo hhi;simp only [execOp,d1,Option.map_none,qy,this];rfl
     ·cases hv
    ·cases hv
   ·trivial
  ·rename_i b off n e hx hu;have h1:=hone (by simp [Op.operands]) hx;split
   ·rename_i l s hs;split
    ·rename_i k i hl;have h2:=hone (x:=l) (by simp [Op.operands]) hl;simp only [SC.den]at h2;injection h2 with h2;split
     ·rename_i hr;intro _ v hv;simp only [SC.den]at h1;simp only [SV.den,SC.den]at hv;split at h1
      ·rename_i m hm;injection h1 with h1;simp only [hm]at hv;injection hv with hv;subst hv;have hmi:¬ (n=i.toNat):=oq
       have hle:i≤(n:Int):=oq
       simp [execOp,←h1,←h2,Instr.sliceAt,Instr.sliceBounds,Instr.sliceBound,asIntOf,aA hu,Instr.sureAddr,aG hs,hr,hmi,hle,bN]
      ·cases h1
     ·trivial
    ·trivial
   ·rename_i l s hs;split
    ·rename_i sh hh;have h2:=hone (x:=l) (by simp [Op.operands]) hh;intro _ v hv;obtain⟨m,k2,i2,e1,e2,q1,q2,rfl⟩:=oK rfl (by simpa only [SV.den] using hv);rw [h2]at e2;injection e2 with e2;simp only [SC.den,e1]at h1;injection h1 with h1;have hle:(0:Int)≤i2∧i2≤(n:Int):=⟨q1,q2⟩;simp [execOp,←h1,e2,Instr.sliceAt,Instr.sliceBounds,Instr.sliceBound,asIntOf,aA hu,Instr.sureAddr,aG hs,hle,bN]
    ·trivial
   ·trivial
  ·rename_i ss e hx hu;have h1:=hone (by simp [Op.operands]) hx;split
   ·rename_i sl sh s hl hh hsz;split
    ·trivial
    intro _ v hv;simp only [SV.den,aIg,SC.den]at hv;split at hv
    ·rename_i vs vl vh d1 d2 d3;rw [h1]at d1;injection d1 with d1;obtain⟨A,n,c,k1,i1,k2,i2,e1,rfl,rfl,n1,n2,n3,rfl⟩:=rW hv;rw [e1]at d1;have key:∀(lo' hi':Option Value),(match lo' with|some v=>v=.int k1 i1|none=>i1=0)→(match hi' with|some v=>v=.int k2 i2|none=>i2=n)→
      (Instr.sliceAt t (.slice A n c) lo' hi' none).run P w=.ok (.slice (if c=i1.toNat then A else A.map fun a=>a.add (i1.toNat*s)) (i2.toNat-i1.toNat) (c-i1.toNat)) w:=by
      intro lo' hi' e1 e2;have h3:(0:Int)≤i2∧i2≤(c:Int):=⟨oq,n3⟩;have h4:(0:Int)≤i1∧i1≤((i2.toNat:Nat):Int):=⟨n1,oq⟩;cases lo' with
      | none=>
       simp only at e1;cases hi' with
       | none=>
        simp only at e2;subst e1;have e3:i2.toNat=n:=oq
        simp only [Instr.sliceAt,aA hu,Instr.slice,Instr.sliceBounds,aG hsz,qy,Result.andThen,jp,e3];rfl
       | some v=>
        simp only at e2;subst e1 e2;simp only [Instr.sliceAt,aA hu,Instr.slice,Instr.sliceBounds,Instr.sliceBound,asIntOf,aG hsz,qy,Result.andThen,jp,h3,and_self,if_true];rfl
      | some u=>
       simp only at e1;subst e1;cases hi' with
       | none=>
        simp only at e2;subst e2;have h5:(0:Int)≤i1∧i1≤(n:Int):=⟨n1,n2⟩;simp only [Instr.sliceAt,aA hu,Instr.slice,Instr.sliceBounds,Instr.sliceBound,asIntOf,aG hsz,qy,Result.andThen,jp,h5,and_self,if_true];rfl
       | some v=>
        simp only at e2;subst e2;simp only [Instr.sliceAt,aA hu,Instr.slice,Instr.sliceBounds,Instr.sliceBound,asIntOf,aG hsz,qy,Result.andThen,jp,Option.isSome,zf,if_false,h3,h4,and_self,if_true]
     have hlo:(match lo.map a.eval with|some v=>v=.int k1 i1|none=>i1=0):=by
      cases lo with
      | none=>
       simp only at hl;injection hl with hl;subst hl;simp only [SC.den]at d2;injection d2 with d2;injection d2 with _ d2;exact d2.symm
      | some l=>
       have:=hone (x:=l) (by simp [Op.operands]) hl;rw [d2]at this;injection this with this;exact this.symm
     have hhi:(match hi.map a.eval with|some v=>v=.int k2 i2|none=>i2=n):=by
      cases hi with
      | none=>
       simp only at hh;injection hh with hh;subst hh;simp only [gO,SC.den,h1,d1,ja,mS]at d3;injection d3 with d3;injection d3 with _ d3;exact d3.symm
      | some l=>
       have:=hone (x:=l) (by simp [Op.operands]) hh;rw [d3]at this;injection this with this;exact this.symm
     have:=key _ _ hlo hhi;simp only [execOp,d1,Option.map_none,qy,this];rfl
    ·cases hv
   ·trivial
  ·trivial
 case extract x i=>
  split
  ·rename_i vs hx;have h1:(SV.tup vs).den ρ=some (a.eval x):=by rw [←hx];exact hat (by simp [Op.operands]) (by rw [hx];simp)
   simp only [SV.den]at h1;split at h1
   ·rename_i us hus;injection h1 with h1;have hg:=mY hus;split
    ·rename_i cs hi;intro _ v hv;obtain⟨y,y1,y2⟩:=hg i _ hi;simp only [bV,gZ]at y2;simp only [bV,SV.den]at hv;rw [hv]at y2;injection y2 with y2;subst y2;simp [execOp,←h1,Instr.extract,y1]
    ·rename_i c hi;intro _ v hv;obtain⟨y,y1,y2⟩:=hg i _ hi;simp only [gZ]at y2;simp only [SV.den]at hv;rw [hv]at y2;injection y2 with y2;subst y2;simp [execOp,←h1,Instr.extract,y1]
    ·trivial
   ·cases h1
  ·trivial
 case call c=>
  obtain⟨callee,args,argTypes⟩:=c;simp only;cases callee with
  | invoke r name=>
   simp only;split
   ·rename_i t ag cs hr;have h1:(SV.ifc t ag cs).den ρ=some (a.eval r):=by rw [←hr];exact hat (by simp [Op.operands,Call.operands]) (by rw [hr];simp)
    simp only [SV.den]at h1;split at h1
    ·rename_i rv hrv;injection h1 with h1;have hargs:∀ws,argsD ρ (args.toList.map (opnd tm))=some ws→ws=args.toList.map a.eval:=fun ws h=>jB (a:=a) (fun x hx t e=>hk t (by subst e;simp [Op.operands,Call.operands,←Array.mem_toList_iff];exact .inr hx)) h;have hcall:∀g sv,rQ P t name=some g→sv.den ρ=some rv→aKw P ρ a w hp { dst,op:=.call { callee:=.invoke r name,args,argTypes },type,pos,after,guard } (mC P g (sv :: args.toList.map (opnd tm))):=by
      intro g sv hm hsv;unfold mC;split
      ·rename_i fn hfn;rw [nR]at hfn;split
       ·rename_i hok;intro vs hvs;simp only [argsD,hsv]at hvs;split at hvs
        ·rename_i g0 g2' g1 g2;injection hvs with hvs;subst hvs;injection g1 with g1;subst g1;have hus:=hargs _ g2;subst hus;simp only [qf,bne_iff_ne,ne_eq,Option.isSome_iff_ne_none]at hok;have hb:fn.body.isNone=false:=by
          cases hbb:fn.body with
          | none=>exact absurd hbb hok.2
          | some c=>rfl
         have hnm : (fn.name == "runtime.NumGoroutine") = false := by simpa using hok.1
         have hmm:=aDs (P:=P) (w:=w) (v:=rv) hm;have ex:(#[Value.iface t rv]++args.map a.eval).extract 1 (#[Value.iface t rv]++args.map a.eval).size=args.map a.eval:=by
          apply jc;simp only [Array.toList_extract,xu,xp,Array.size_append];simp;exact yz (by simp)
         have e0:(#[Value.iface t rv]++args.map a.eval)[0]?=some (Value.iface t rv):=by rw [kf (by simp)];rfl
         simp only [execOp,resolve,←h1,qy,jp,Result.andThen,invoke,e0,ex,callMethod,run_program,hmm,callFunc,hfn,hnm,hb,zf,if_false]
         congr 2
         apply jc;simp
        ·cases hvs
       ·trivial
      ·trivial
     split
     ·refine hcall _ (.agg _) ‹_› ?_;simp only [gZ]at hrv;simp only [SV.den];exact hrv
     ·rename_i g c hm;exact hcall g (.one c) hm (by simpa only [gZ,SV.den] using hrv)
     ·trivial
    ·cases h1
   ·trivial
  | builtin b=>
   cases b <;> simp only <;> try trivial
   case max=>
    split
    ·rename_i x y hxy;split
     ·rename_i sx sy hx hy;intro _ v hv;have hm:∀z∈[x,y],z∈(Op.call { callee:=.builtin .max,args:=args,argTypes:=argTypes }).operands:=fun z hz=>by
       simp only [Op.operands,Call.operands,yj,←jz,hxy];simpa using hz
      have h1:=hone (hm x (by simp)) hx;have h2:=hone (hm y (by simp)) hy;have ea:args=#[x,y]:=by apply jc;exact hxy
      subst ea;obtain⟨k,i,j,e1,e2,rfl⟩:=aMr hv h1 h2;simp only [execOp,resolve,invoke,builtin,Builtin.max_,qy,jp,Result.andThen,xj,zn,xw,e1,e2,List.foldlM_cons,List.foldlM_nil,Builtin.max2]
     ·trivial
    ·trivial
   case min=>
    split
    ·rename_i x y hxy;split
     ·rename_i sx sy hx hy;intro _ v hv;have hm:∀z∈[x,y],z∈(Op.call { callee:=.builtin .min,args:=args,argTypes:=argTypes }).operands:=fun z hz=>by
       simp only [Op.operands,Call.operands,yj,←jz,hxy];simpa using hz
      have h1:=hone (hm x (by simp)) hx;have h2:=hone (hm y (by simp)) hy;have ea:args=#[x,y]:=by apply jc;exact hxy
      subst ea;obtain⟨k,i,j,e1,e2,rfl⟩:=aHx hv h1 h2;simp only [execOp,resolve,invoke,builtin,Builtin.min_,qy,jp,Result.andThen,xj,zn,xw,e1,e2,List.foldlM_cons,List.foldlM_nil,Builtin.min2]
     ·trivial
    ·trivial
   case complex=>
    split
    ·rename_i x y hxy;split
     ·rename_i sx sy hx hy;intro _ v hv;have hm:∀z∈[x,y],z∈(Op.call { callee:=.builtin .complex,args:=args,argTypes:=argTypes }).operands:=fun z hz=>by
       simp only [Op.operands,Call.operands,yj,←jz,hxy];simpa using hz
      have h1:=hone (hm x (by simp)) hx;have h2:=hone (hm y (by simp)) hy;have ea:args=#[x,y]:=by apply jc;exact hxy
      subst ea;simp only [SV.den,aO,SC.den,h1,h2]at hv;obtain⟨k,i,j,e1,e2,rfl⟩:=aYp hv;simp only [execOp,resolve,invoke,builtin,xj,zn,xw,e1,e2,zH,qy,jp,Result.andThen]
     ·trivial
    ·trivial
   case real=>
    split
    ·rename_i x hxy;split
     ·rename_i sx hx;intro _ v hv;have h1:=hone (by simp [Op.operands,Call.operands,←Array.mem_toList_iff,hxy]) hx;have ea:args=#[x]:=by apply jc;exact hxy
      subst ea;simp only [SV.den,aO,SC.den,h1]at hv;obtain⟨k,i,j,e1,rfl⟩:=bCa hv;simp only [execOp,resolve,invoke,builtin,xj,zn,xw,e1,aPl,qy,jp,Result.andThen]
     ·trivial
    ·trivial
   case imag=>
    split
    ·rename_i x hxy;split
     ·rename_i sx hx;intro _ v hv;have h1:=hone (by simp [Op.operands,Call.operands,←Array.mem_toList_iff,hxy]) hx;have ea:args=#[x]:=by apply jc;exact hxy
      subst ea;simp only [SV.den,aO,SC.den,h1]at hv;obtain⟨k,i,j,e1,rfl⟩:=bBs hv;simp only [execOp,resolve,invoke,builtin,xj,zn,xw,e1,aMi,qy,jp,Result.andThen]
     ·trivial
    ·trivial
   split
   ·rename_i x tx hx htx;split
    ·rename_i b o n c e hs hu;have h1:=hone (by simp [Op.operands,Call.operands,←Array.mem_toList_iff,hx]) hs;intro hneeds v hv;have ea:args=#[x]:=by apply jc;exact hx
     have et:argTypes=#[tx]:=by apply jc;exact htx
     subst ea et;simp only [SC.den]at h1;split at h1
     ·injection h1 with h1;simp only [SV.den,SC.den]at hv;injection hv with hv;subst hv;simp [execOp,resolve,invoke,builtin,Builtin.len_,←h1,aA hu,goInt]
     ·cases h1
    ·rename_i b off len c z sh s' e hs hu;have h1:=hone (by simp [Op.operands,Call.operands,←Array.mem_toList_iff,hx]) hs;split
     ·rename_i hz;intro hneeds v hv;have hn:=hneeds _ (qr.2 rfl);have ea:args=#[x]:=by apply jc;exact hx
      have et:argTypes=#[tx]:=by apply jc;exact htx
      subst ea et;obtain⟨m,k2,i2,e1,e2,q1,q2,e3⟩:=oK hz h1;rw [aO]at hn;simp only [SV.den]at hv;rw [e2]at hv;injection hv with hv;subst hv;have hk:k2=.i64:=by
       simp only [SC.den,e2]at hn;cases k2 <;> first|rfl|(exfalso;revert hn;simp [eH])
      subst hk;have:((i2.toNat:Nat):Int)=i2:=oq
      simp [execOp,resolve,invoke,builtin,Builtin.len_,e3,aA hu,goInt,this]
     ·trivial
    ·rename_i sx hs hu;have h1:=hone (by simp [Op.operands,Call.operands,←Array.mem_toList_iff,hx]) hs;intro hneeds v hv;have hn:=hneeds _ (List.mem_singleton.2 rfl);have ea:args=#[x]:=by apply jc;exact hx
     have et:argTypes=#[tx]:=by apply jc;exact htx
     subst ea et;simp only [SV.den,gO,SC.den,h1,ja,mS]at hv;split at hv
     ·rename_i A n c e;simp [SC.den,h1,e,aAc]at hn
     ·rename_i s e;injection hv with hv;subst hv;simp [execOp,resolve,invoke,builtin,Builtin.len_,e,aA hu,goInt]
     ·cases hv
    ·rename_i sx e hs hu;have h1:=hone (by simp [Op.operands,Call.operands,←Array.mem_toList_iff,hx]) hs;intro hneeds v hv;have hn:=hneeds _ (List.mem_singleton.2 rfl);have ea:args=#[x]:=by apply jc;exact hx
     have et:argTypes=#[tx]:=by apply jc;exact htx
     subst ea et;simp only [SC.den,h1,ja]at hn;simp only [SV.den,gO,SC.den,h1,ja,mS]at hv;split at hv
     ·rename_i A n c e;injection hv with hv;subst hv;simp [execOp,resolve,invoke,builtin,Builtin.len_,e,aA hu,goInt]
     ·rename_i s e;simp [e,aAc]at hn
     ·cases hv
    ·trivial
   ·trivial
  | value f=>
   simp only;split
   ·rename_i g caps hf;have h1:=hone (x:=f) (by simp [Op.operands,Call.operands]) hf;split
    ·rename_i c hx;intro _ v hv;obtain⟨fn,sa,rfl,hargs,hfn,hb,ho,hxs⟩:=aFc hx;obtain⟨y,hy⟩:∃y,args.toList=[y]:=by
      cases hl:args.toList with
      | nil=>rw [hl]at hargs;simp at hargs
      | cons y ys=>cases ys with
       | nil=>exact⟨y,rfl⟩
       | cons z zs=>
        rw [hl]at hargs;have:=congrArg List.length hargs;simp at this
     rw [hy]at hargs;simp only [zn,xw,List.cons.injEq,and_true]at hargs;have hy1:=hone (x:=y) (by simp [Op.operands,Call.operands,←Array.mem_toList_iff,hy]) hargs;have hrun:=aTr (P:=P) (w:=w) hfn hb ho hxs hy1 hv;simp only [SC.den,jC]at h1;injection h1 with h1;have ea:args=#[y]:=by apply jc;exact hy
     subst ea;simp only [execOp,resolve,Deferred.ofValue,←h1,qy,jp,Result.andThen,invoke];have e3:(#[]++Array.map a.eval #[y]++#[]:Array Value)=#[a.eval y]:=by simp
     rw [e3];exact hrun
    ·unfold mC;split
     ·rename_i fn hfn;rw [nR]at hfn;split
      ·rename_i hok;intro vs hvs;obtain⟨us,ws,a1,a2,rfl⟩:=nF hvs;simp only [SC.den]at h1;split at h1
       ·rename_i cs hcs;injection h1 with h1;have:=sB a2 hcs;subst this;have hus:=jB (a:=a) (fun x hx t e=>hk t (by subst e;simp [Op.operands,Call.operands,←Array.mem_toList_iff];exact .inr hx)) a1;subst hus;simp only [Bool.and_eq_true,bne_iff_ne,ne_eq,Option.isSome_iff_ne_none]at hok;have hb:fn.body.isNone=false:=by
         cases hbb:fn.body with
         | none=>exact absurd hbb hok.2
         | some c=>rfl
        have hnm : (fn.name == "runtime.NumGoroutine") = false := by simpa using hok.1
        simp only [execOp,resolve,Deferred.ofValue,←h1,qy,jp,Result.andThen,invoke,callFunc,run_program,hfn,hnm,hb,zf,if_false]
        congr 2
        apply jc;simp
       ·cases h1
      ·trivial
     ·trivial
   ·trivial
def simple:SV→Bool
 | .one (.var _)=>true
 | .one (.lit _)=>true
 | .one (.ptr _ _)=>true
 | .one (.fn _ _)=>true
 | .one (.fnb _ _ _)=>true
 | .one (.slr _)=>true
 | .one (.psl _ _ _ _)=>true
 | .agg cs=>cs.all fun c=>!c.isRun
 | .tup _=>true
 | .one (.sl _ _ _ _)=>true
 | .ifc _ _ _=>true
 | .one (.elem (.sl _ _ _ _) _ _ _)=>true
 | .one (.slc (.sl _ _ _ _) (.lit (.int .u8 _)) _ _)=>true
 | _=>false
theorem bY {cl:Nat}{op:BinOp}{x y:SC}(h:simple (.one (bZ cl op x y))=true):∃z,(SV.one (bZ cl op x y)).den ρ=some z:=by
 unfold bZ at h ⊢;split at h
 ·split at h
  ·exact⟨_,rfl⟩
  ·cases h
 ·cases h
theorem qQ {a l h:SC}{s:Nat}(hmk:¬ aCq l=true) (hs:simple (.one (.slc a l h s))=true):False:=by
 unfold simple at hs;split at hs
 all_goals first|(rename_i he;cases he;done)|(rename_i he;injection he with he;cases he;done)|(rename_i he;injection he with he;injection he with he1 he2;subst he2;exact hmk rfl)|cases hs
theorem aEe {a l h:SC}{s:Nat}(ha:∃x,(SV.one a).den ρ=some x) (hmk:¬ aCq l=true) (hs:simple (.one (vN a l h s))=true):∃z,(SV.one (vN a l h s)).den ρ=some z:=by
 unfold vN at hs ⊢;split
 ·rename_i b off n c kl i kh j;split
  ·obtain⟨x,hx⟩:=ha;simp only [SV.den,SC.den]at hx ⊢;split at hx
   ·exact⟨_,rfl⟩
   ·cases hx
  ·rename_i hc;simp only [oh hc]at hs;exact (qQ hmk hs).elim
 ·simp only at hs;exact (qQ hmk hs).elim
theorem aKk {as bs:List SC}{r:SC}(h:eK as bs=some r) (hs:simple (.one r)=true):∃z,(SV.one r).den ρ=some z:=by
 unfold eK at h;split at h
 ·injection h with h;subst h;exact⟨_,rfl⟩
 ·split at h
  ·obtain⟨r',_,rfl⟩:=xk.1 h;cases hs
  ·cases h
 ·cases h
theorem aEd {as bs:List SC}{r:SC}(h:eK as bs=some r) (hs:simple (.one (sV r))=true):∃z,(SV.one (sV r)).den ρ=some z:=by
 unfold eK at h;split at h
 ·injection h with h;subst h;exact⟨_,rfl⟩
 ·split at h
  ·obtain⟨r',_,rfl⟩:=xk.1 h;cases hs
  ·cases h
 ·cases h
theorem xH {b n o:Nat}(h:ρ.blk b=some n):∃x,(SV.one (.ptr b o)).den ρ=some x:=⟨.pointer (some ⟨n,o,none⟩),by simp only [SV.den,SC.den,h]⟩
theorem vT (hE:ρ.Ok) {t:TypeId}{cs:List SC}{off:Nat}{sv:SV}{vs:List Value}(h:oB P t cs off=some sv) (hv:aC ρ cs=some vs):∃x,sv.den ρ=some x:=by
 rcases mX hE h hv with ⟨m,_,_,_,h4⟩|⟨m,v,_,_,_,h4⟩ <;> exact⟨_,h4⟩
theorem lD {b off n c s j:Nat}{i:SC}{y:Value}(hb:∃x,(SC.sl b off n c).den ρ=some x) (hi:i.den ρ=some y) (hr:(kP i (.lit (.int .i64 n))).den ρ=some (.bool true)):∃p,(SV.one (.elem (.sl b off n c) i s j)).den ρ=some p:=by
 rw [gN]at hr;simp only [SC.den,hi]at hr;cases y with
 | int kk I=>
  simp only [rF,jk,zi,decide_eq_true_eq]at hr;have h0:0≤I:=hr.1;have hI:I<(n:Int):=hr.2;obtain⟨x,hx⟩:=hb;simp only [SC.den]at hx;split at hx
  ·rename_i nn hn;exact⟨.pointer (some ⟨nn,off+I.toNat*s+j,none⟩),by simp only [SV.den,SC.den,hn,hi,iQ,h0,hI,and_self,if_true]⟩
  ·cases hx
 | _=>cases hr
theorem sL {a i:SC}{s j:Nat}(j':Nat) {v:Value}(h:(SC.elem a i s j).den ρ=some v):∃p,(SV.one (.elem a i s j')).den ρ=some p:=by
 simp only [SC.den]at h;split at h
 ·rename_i x y hx hy;obtain⟨b,o,n,c,k,I,rfl,rfl,h0,h1,rfl⟩:=dV h;exact⟨.pointer (some ⟨b,o+I.toNat*s+j',none⟩),by simp only [SV.den,SC.den,hx,hy,iQ,h0,h1,and_self,if_true]⟩
 ·cases h
theorem qU {o:Oper}(hE:ρ.Ok) (hpub:PubOk ρ hp) (hk:Knows1 ρ tm a o) {v:SV}{needs:List SC}(h:bF P tm hp o=.pure v needs) (hn:∀c∈needs,c.den ρ=some (.bool true)) (hs:simple v=true):∃x,v.den ρ=some x:=by
 obtain⟨dst,op,type,pos,after,guard⟩:=o;have hat:∀ {x:Operand},x∈op.operands→opnd tm x≠.top→(opnd tm x).den ρ=some (a.eval x):=fun hm hx=>hk.at hm hx;have hone:∀ {x:Operand}{c:SC},x∈op.operands→opnd tm x=.one c→c.den ρ=some (a.eval x):=fun hm hx=>aNk hx (hat hm (by rw [hx];simp));have hsv:∀ {x:Operand},x∈op.operands→simple (opnd tm x)=true→∃y,(opnd tm x).den ρ=some y:=fun {x} hm hx=>⟨_,hat hm (by intro e;rw [e]at hx;cases hx)⟩;unfold bF at h;cases op <;> simp only at h
 case move x=>injection h with h1 h2;subst h1;exact hsv (by simp [Op.operands]) hs
 case assign x=>injection h with h1 h2;subst h1;exact hsv (by simp [Op.operands]) hs
 case pick c x y=>
  split at h
  ·rename_i sc sx sy hc hx hy;injection h with h1 h2;subst h1;unfold gE at hs ⊢;split at hs
   ·rename_i b;cases b
    ·exact⟨_,hone (x:=y) (by simp [Op.operands]) hy⟩
    ·exact⟨_,hone (x:=x) (by simp [Op.operands]) hx⟩
   ·cases hs
  ·cases h
 case alloc=>repeat' split at h
             all_goals cases h
 case box=>repeat' split at h
           all_goals cases h
 case build t parts=>
  split at h
  ·rename_i i place hi hpl;split at h
   ·rename_i z hz;split at h
    ·rename_i cs hc;split at h
     ·rename_i out hf;injection h with h1 h2;subst h1;obtain⟨l1,_⟩:=fX (ρ:=ρ) hc
      obtain⟨us,u1,u2⟩:=jE hE (vals:=parts.toList.map fun p=>(p.1,a.eval p.2)) hf l1 (by simp) (fun i p q hp hq=>by
       simp only [jl]at hp hq;cases hg:parts.toList[i]? with
       | none=>rw [hg]at hp;cases hp
       | some r=>
        rw [hg]at hp hq;simp only [jm,jk]at hp hq;subst hp hq;refine⟨rfl,fun hne=>hat ?_ hne⟩;simp only [Op.operands,List.mem_toArray,xf]
        exact⟨r,za hg,rfl⟩)
      exact⟨.agg us.toArray,by simp only [SV.den,bV,u1]⟩
     ·cases h
    ·cases h
   ·cases h
  ·cases h
 case load=>repeat' split at h
            all_goals cases h
 case store=>repeat' split at h
             all_goals cases h
 case nilCheck x=>
  split at h
  ·rename_i b off hx;injection h with h1 h2;subst h1;exact⟨_,hone (x:=x) (by simp [Op.operands]) hx⟩
  ·rename_i f caps hx;injection h with h1 h2;subst h1;exact⟨_,hone (x:=x) (by simp [Op.operands]) hx⟩
  ·cases h
 case binOp op t x y yt=>
  split at h
  ·split at h
   ·injection h with h1 h2;subst h1;exact bY hs
   ·injection h with h1 h2;subst h1;exact bY hs
   ·injection h with h1 h2;subst h1;exact bY hs
   ·injection h with h1 h2;subst h1;exact bY hs
   ·injection h with h1 h2;subst h1;exact bY hs
   ·cases h
  ·split at h
   ·split at h
    ·split at h
     ·split at h
      ·rename_i r hr;injection h with h1 h2;subst h1;exact aKk hr hs
      ·rename_i r hr;injection h with h1 h2;subst h1;exact aEd hr hs
      ·cases h
     ·cases h
    ·cases h
   ·cases h
  ·cases h
 case unOp op t x=>
  split at h
  ·injection h with h1 h2;subst h1;unfold sV at hs ⊢;split at hs
   ·split at hs
    ·exact⟨_,rfl⟩
    ·cases hs
   ·cases hs
   ·cases hs
  ·injection h with h1 h2;subst h1;unfold aFr at hs ⊢;split at hs
   ·split at hs
    ·exact⟨_,rfl⟩
    ·cases hs
   ·cases hs
  ·cases h
 case convert s d x=>
  split at h
  ·injection h with h1 h2;subst h1;exact bY hs
  ·injection h with h1 h2;subst h1;exact bY hs
  ·injection h with h1 h2;subst h1;exact bY hs
  ·injection h with h1 h2;subst h1;unfold xA at hs ⊢;split at hs
   ·split at hs
    ·exact⟨_,rfl⟩
    ·cases hs
   ·cases hs
  ·injection h with h1 h2;subst h1;exact bY hs
  ·cases h
 case makeFunc fn first captured=>
  split at h
  ·rename_i f _;split at h
   ·rename_i ids hc;injection h with h1 h2;subst h1;have:=kH hpub (a:=a) (fun x hx t e=>hk t (by subst e;simp [Op.operands,←Array.mem_toList_iff];exact .inr (by simpa using hx))) hc;exact⟨.func (.func f) #[] (captured.toList.map a.eval).toArray,by simp only [SV.den,SC.den,this]⟩
   ·cases h
  ·cases h
 case fieldAddr s x f=>
  split at h
  ·rename_i b off fields hx hu;have h1:=hone (x:=x) (by simp [Op.operands]) hx;split at h
   ·split at h
    ·injection h with e1 e2;subst e1;simp only [SC.den]at h1;split at h1
     ·rename_i n hn;exact xH hn
     ·cases h1
    ·cases h
   ·cases h
  ·rename_i sa si s' j fields hx hu;have h1:=hone (x:=x) (by simp [Op.operands]) hx;split at h
   ·split at h
    ·injection h with e1 e2;subst e1;exact sL _ h1
    ·cases h
   ·cases h
  ·cases h
 case field t x f=>
  split at h
  ·rename_i cs fields hx hu;have h1:(SV.agg cs).den ρ=some (a.eval x):=by rw [←hx];exact hat (by simp [Op.operands]) (by rw [hx];simp)
   simp only [bV,SV.den]at h1;split at h1
   ·rename_i vs hvs;split at h
    ·split at h
     ·rename_i sv hsv;injection h with e1 e2;subst e1;exact vT hE hsv hvs
     ·cases h
    ·cases h
   ·cases h1
  ·cases h
 case makeInterface t x=>
  split at h
  ·cases h
  ·rename_i c d hne hx hu;injection h with e1 e2;subst e1;exact⟨.iface t (a.eval x),by simp only [SV.den,gZ,hone (x:=x) (by simp [Op.operands]) hx]⟩
  ·rename_i cs d hne hx hu;injection h with e1 e2;subst e1;have h1:(SV.agg cs).den ρ=some (a.eval x):=by rw [←hx];exact hat (by simp [Op.operands]) (by rw [hx];simp)
   simp only [SV.den]at h1;exact⟨.iface t (a.eval x),by simp only [SV.den,gZ,h1]⟩
  ·cases h
 case buildSlice=>repeat' split at h
                  all_goals cases h
 case indexAddr t x ix=>
  split at h
  ·rename_i b off n c k i e hx hix hu;have h1:=hone (x:=x) (by simp [Op.operands]) hx;split at h
   ·split at h
    ·injection h with e1 e2;subst e1;simp only [SC.den]at h1;split at h1
     ·rename_i n hn;exact xH hn
     ·cases h1
    ·cases h
   ·cases h
  ·rename_i b off k i n e hx hix hu;have h1:=hone (x:=x) (by simp [Op.operands]) hx;split at h
   ·split at h
    ·injection h with e1 e2;subst e1;simp only [SC.den]at h1;split at h1
     ·rename_i n hn;exact xH hn
     ·cases h1
    ·cases h
   ·cases h
  ·rename_i b off si n e _ hx hix hu;have h1:=hone (x:=x) (by simp [Op.operands]) hx;split at h
   ·injection h with e1 e2;subst e1 e2;simp only [SC.den]at h1;split at h1
    ·rename_i nn hb;exact lD ⟨.slice (some ⟨nn,off,none⟩) n n,by simp only [SC.den,hb]⟩ (hone (x:=ix) (by simp [Op.operands]) hix) (hn _ (qr.2 rfl))
    ·cases h1
   ·cases h
  ·rename_i b off len c si e _ hx hix hu;split at h
   ·injection h with e1 e2;subst e1 e2;exact lD ⟨_,hone (x:=x) (by simp [Op.operands]) hx⟩ (hone (x:=ix) (by simp [Op.operands]) hix) (hn _ (qr.2 rfl))
   ·cases h
  ·rename_i b off len c z sh s' si e hx hix hu;have h1:=hone (x:=x) (by simp [Op.operands]) hx;have h2:=hone (x:=ix) (by simp [Op.operands]) hix;split at h
   ·split at h
    ·rename_i hz;injection h with e1 e2;subst e1 e2;obtain⟨m,k2,i2,e1,e2,q1,q2,e3⟩:=oK hz h1;refine lD ⟨_,by simp only [SC.den,e1];rfl⟩ h2 ?_;have n1:=hn (kP si sh) (by simp);have n2:=hn (mA sh (.lit (.int .i64 len))) (by simp);rw [gN]at n1 ⊢;rw [nX]at n2;simp only [SC.den,e2,leD,jk,zi,decide_eq_true_eq]at n2;simp only [SC.den,h2,e2]at n1 ⊢;unfold rF at n1 ⊢;split at n1
     ·rename_i k3 i3 k4 i4 g1 g2;injection g2 with _ g2;subst g2;simp only [jk,zi,decide_eq_true_eq]at n1 ⊢;rw [g1];simp only [jk,zi,decide_eq_true_eq];omega
     ·cases n1
    ·cases h
   ·cases h
  ·rename_i sa si e _ hne _ hx hix hu;split at h
   ·injection h with e1 e2;subst e1;cases sa with
    | sl b off n c=>exact (hne _ _ _ _ rfl).elim
    | _=>cases hs
   ·cases h
  ·rename_i sa si s j k z n e hx hix hu;have h1:=hone (x:=x) (by simp [Op.operands]) hx;split at h
   ·split at h
    ·injection h with e1 e2;subst e1;exact sL _ h1
    ·cases h
   ·cases h
  ·cases h
 case index t x ix=>
  split at h
  ·rename_i cs k i n e hx hix hu;have h1:(SV.agg cs).den ρ=some (a.eval x):=by rw [←hx];exact hat (by simp [Op.operands]) (by rw [hx];simp)
   simp only [bV,SV.den]at h1;split at h1
   ·rename_i vs hvs;split at h
    ·split at h
     ·split at h
      ·rename_i sv hsv;injection h with e1 e2;subst e1;exact vT hE hsv hvs
      ·cases h
     ·cases h
    ·cases h
   ·cases h1
  ·injection h with e1 e2;subst e1;cases hs
  ·split at h
   ·split at h
    ·rename_i l hl;injection h with e1 e2;subst e1;unfold tE at hl;split at hl
     ·split at hl
      ·injection hl with hl;subst hl;cases hs
      ·cases hl
     ·split at hl
      ·injection hl with hl;subst hl;cases hs
      ·cases hl
     ·cases hl
    ·split at h
     ·rename_i c hc;injection h with e1 e2;subst e1;obtain⟨x,k,rfl,rfl,_⟩:=sF hc;cases hs
     ·cases h
   ·cases h
  ·cases h
 case slice t x lo hi mx=>
  split at h
  ·split at h
   ·injection h with e1 e2;subst e1;cases hs
   ·cases h
  ·rename_i b off n e hx hu;have h1:=hone (x:=x) (by simp [Op.operands]) hx;split at h
   ·split at h
    ·split at h
     ·injection h with e1 e2;subst e1;simp only [SC.den]at h1;split at h1
      ·rename_i m hm;exact⟨_,by simp only [SV.den,SC.den,hm];rfl⟩
      ·cases h1
     ·cases h
    ·cases h
   ·rename_i l s hs';split at h
    ·rename_i sh hh;injection h with e1 e2;subst e1 e2;have n1:=hn (mA (.lit (.int .i64 0)) sh) (by simp);have n2:=hn (mA sh (.lit (.int .i64 n))) (by simp);rw [nX]at n1 n2;have h2:=hone (x:=l) (by simp [Op.operands]) hh;simp only [SC.den]at h1;split at h1
     ·rename_i m hm;simp only [SC.den,h2]at n1 n2;unfold leD at n1;split at n1
      ·rename_i k3 i3 k4 i4 g1 g2;injection g1 with _ g1;subst g1;rw [g2]at n2 h2;simp only [leD,jk,zi,decide_eq_true_eq]at n1 n2;have hle:(0:Int)≤i4∧i4≤(n:Int):=⟨n1,n2⟩;exact⟨_,by simp only [SV.den,SC.den,hm,h2,slcD,Int.le_refl,hle,and_self,if_true];rfl⟩
      ·cases n1
     ·cases h1
    ·cases h
   ·cases h
  ·split at h
   ·split at h
    ·cases h
    ·rename_i hmk;injection h with e1 e2;subst e1;rename_i hx _ _ _ _ _ _ _ _ _ _;exact aEe ⟨_,by simpa only [SV.den] using hone (x:=x) (by simp [Op.operands]) (by assumption)⟩ hmk hs
   ·cases h
  ·cases h
 case extract x i=>
  split at h
  ·rename_i vs hx;have h1:(SV.tup vs).den ρ=some (a.eval x):=by rw [←hx];exact hat (by simp [Op.operands]) (by rw [hx];simp)
   simp only [SV.den]at h1;split at h1
   ·rename_i us hus;have hg:=mY hus;split at h
    ·rename_i cs hi;injection h with e1 e2;subst e1;obtain⟨y,_,y2⟩:=hg i _ hi;exact⟨y,y2⟩
    ·rename_i c hi;injection h with e1 e2;subst e1;obtain⟨y,_,y2⟩:=hg i _ hi;exact⟨y,y2⟩
    ·cases h
   ·cases h1
  ·cases h
 case call c=>
  obtain⟨callee,args,argTypes⟩:=c;simp only at h;cases callee with
  | invoke r m=>
   simp only [mC]at h
   repeat' split at h
   all_goals cases h
  | builtin b=>
   cases b <;> simp only at h <;> try (cases h;done)
   case max=>
    split at h
    ·rename_i x y hxy;split at h
     ·rename_i sx sy hx hy;injection h with e1 e2;subst e1;have hm:∀z∈[x,y],z∈(Op.call { callee:=.builtin .max,args:=args,argTypes:=argTypes }).operands:=fun z hz=>by
       simp only [Op.operands,Call.operands,yj,←jz,hxy];simpa using hz
      unfold gE at hs ⊢;split at hs
      ·rename_i b _;cases b
       ·exact⟨_,hone (x:=x) (hm _ (by simp)) hx⟩
       ·exact⟨_,hone (x:=y) (hm _ (by simp)) hy⟩
      ·cases hs
     ·cases h
    ·cases h
   case min=>
    split at h
    ·rename_i x y hxy;split at h
     ·rename_i sx sy hx hy;injection h with e1 e2;subst e1;have hm:∀z∈[x,y],z∈(Op.call { callee:=.builtin .min,args:=args,argTypes:=argTypes }).operands:=fun z hz=>by
       simp only [Op.operands,Call.operands,yj,←jz,hxy];simpa using hz
      unfold gE at hs ⊢;split at hs
      ·rename_i b _;cases b
       ·exact⟨_,hone (x:=x) (hm _ (by simp)) hx⟩
       ·exact⟨_,hone (x:=y) (hm _ (by simp)) hy⟩
      ·cases hs
     ·cases h
    ·cases h
   case complex=>
    split at h
    ·split at h
     ·injection h with e1 e2;subst e1;exact bY hs
     ·cases h
    ·cases h
   case real=>
    split at h
    ·split at h
     ·injection h with e1 e2;subst e1;exact bY hs
     ·cases h
    ·cases h
   case imag=>
    split at h
    ·split at h
     ·injection h with e1 e2;subst e1;exact bY hs
     ·cases h
    ·cases h
   split at h
   ·split at h
    ·injection h with e1 e2;subst e1;exact⟨_,rfl⟩
    ·split at h
     ·injection h with e1 e2;subst e1 e2;have n1:=hn _ (qr.2 rfl);rw [aO]at n1;rename_i b off len c z sh s' e hx hu hz;simp only [SC.den]at n1;cases hd:sh.den ρ with
      | none=>rw [hd]at n1;cases n1
      | some y=>exact⟨y,hd⟩
     ·cases h
    ·injection h with e1 e2;subst e1;unfold kQ at hs ⊢;split at hs
     ·split at hs
      ·exact⟨_,rfl⟩
      ·cases hs
     ·cases hs
    ·injection h with e1 e2;subst e1;unfold kQ at hs ⊢;split at hs
     ·split at hs
      ·exact⟨_,rfl⟩
      ·cases hs
     ·cases hs
    ·cases h
   ·cases h
  | value f=>
   simp only [mC]at h;split at h
   ·split at h
    ·rename_i hx;injection h with e1 e2;subst e1;obtain⟨fn,sa,_,_,_,_,_,hxs⟩:=aFc hx;unfold aLy at hxs
     repeat' split at hxs
     all_goals first|(injection hxs with hxs;subst hxs;exact bY hs)|cases hxs
    ·repeat' split at h
     all_goals cases h
   ·cases h
 all_goals cases h
theorem nN {o:Oper}(_hE:ρ.Ok) (_hpub:PubOk ρ hp) (hk:Knows1 ρ tm a o) {sa i:SC}{s j:Nat}{t:TypeId}(h:bF P tm hp o=.read sa i s j t):∃p,(SC.elem sa i s j).den ρ=some p:=by
 obtain⟨dst,op,type,pos,after,guard⟩:=o;have hat:∀ {x:Operand},x∈op.operands→opnd tm x≠.top→(opnd tm x).den ρ=some (a.eval x):=fun hm hx=>hk.at hm hx;unfold bF at h;cases op <;> simp only at h
 case load t' x=>
  repeat' split at h
  all_goals first|cases h|skip
  rename_i hx;have:=hat (x:=x) (by simp [Op.operands]) (by rw [hx];simp);rw [hx]at this;exact⟨_,this⟩
 all_goals (exfalso;revert h;repeat' split)
 all_goals first|(intro h;cases h;done)|(unfold mC;repeat' split)|skip
 all_goals (intro h;cases h)
theorem nM {o:Oper}(_hE:ρ.Ok) (_hpub:PubOk ρ hp) (hk:Knows1 ρ tm a o) {v:Nat}{i:SC}{s j:Nat}{t:TypeId}(h:bF P tm hp o=.getw v i s j t):∃p,(SC.elem (.slr v) i s j).den ρ=some p:=by
 obtain⟨dst,op,type,pos,after,guard⟩:=o;have hat:∀ {x:Operand},x∈op.operands→opnd tm x≠.top→(opnd tm x).den ρ=some (a.eval x):=fun hm hx=>hk.at hm hx;unfold bF at h;cases op <;> simp only at h
 case load t' x=>
  repeat' split at h
  all_goals first|cases h|skip
  rename_i hx;have:=hat (x:=x) (by simp [Op.operands]) (by rw [hx];simp);rw [hx]at this;exact⟨_,this⟩
 all_goals (exfalso;revert h;repeat' split)
 all_goals first|(intro h;cases h;done)|(unfold mC;repeat' split)|skip
 all_goals (intro h;cases h)
end
