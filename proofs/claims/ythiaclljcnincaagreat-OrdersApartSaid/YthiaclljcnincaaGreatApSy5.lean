/- A symbolic executor of the model's code: one operation is what it says. -/
import Derived.Test.YthiaclljcnincaaGreatApSy4
import Derived.ChangeKeysEq
namespace Go.Proofs.YthiaclljcnincaaGreat.Sy
open Go.RowKit
def argsD (ρ:Env):List SV→Option (List Value)
 | []=>some []
 | a :: l=>match a.den ρ,argsD ρ l with
  | some v,some vs=>some (v :: vs)
  | _,_=>none
theorem aB {P:Program}{w:World}{t:TypeId}{d:TypeDesc}(h:dB P t=some d):(underlying t).run P w=.ok d w:=by
 simp_all [jY,underlying]
theorem cI {P:Program}{w:World}{t:TypeId}{d:TypeInfo}(h:kS P t=some d):(typeInfo t).run P w=.ok d w:=by
 simp_all [iD,typeInfo]
theorem aE {P:Program}{w:World}{t:TypeId}{m:Nat}(h:bT P t=some m):(sizeOf t).run P w=.ok m w:=by
 unfold bT at h;rw [iD]at h;cases hi:P.info? t with
 | none=>simp [hi]at h
 | some i=>
  simp_all [sizeOf,typeInfo]
theorem bI {P:Program}{w:World}{t:TypeId}{b:Bool}(h:dD P t=some b):(isAgg t).run P w=.ok b w:=by
 unfold dD at h;rw [jY]at h;split at h
 ·rename_i fs hu;injection h with h;subst h;simp [isAgg,underlying,hu]
 ·rename_i n e hu;injection h with h;subst h;simp [isAgg,underlying,hu]
 ·rename_i d hu h1 h2;simp only [isAgg,underlying];cases d <;> first|rfl|exact absurd rfl (h1 _)|exact absurd rfl (h2 _ _)|simp_all
 ·cases h
theorem aBi {P:Program}{ρ:Env}(hE:ρ.Ok) {w:World}{t:TypeId}{cs:List SC}{off:Nat}{sv:SV}{vs:List Value}(h:oI P t cs off=some sv) (hv:aC ρ cs=some vs) :
 ∃x,sv.den ρ=some x∧(part t vs.toArray off).run P w=.ok x w:=by
 rcases nA hE h hv with ⟨m,h1,h2,h3,h4⟩|⟨m,v,h1,h2,h3,h4⟩ <;> simp_all [part,bI,aE]
theorem qU {P:Program}{ρ:Env}(hE:ρ.Ok) {w:World}{n:Nat}{T t:TypeId}{cs:List SC}{off:Nat}{sv:SV}{vs:List Value}(h:oI P t cs off=some sv) (hv:aC ρ cs=some vs) (hb:Blk w n T vs.toArray) :
 ∃x,sv.den ρ=some x∧(loadVar t ⟨n,off,none⟩).run P w=.ok x w:=by
 rcases nA hE h hv with ⟨m,h1,h2,h3,h4⟩|⟨m,v,h1,h2,h3,h4⟩
 ·have:=mJ (P:=P) hb (o:=off) (m:=m) oq
  simp_all [loadVar,bI,aE]
 ·refine⟨_,h4,?_⟩;have:w.cell? ⟨n,off,none⟩=some v:=by rw [hb.cell] <;> grind
  simp [loadVar,bI h1,this]
theorem jS {P:Program}{w:World}{n:Nat}{T t:TypeId}{off m:Nat}{cs:Array Value}{v:Value}(hb:Blk w n T cs) (hs:bT P t=some m) (hm:v.cells.size=m) (ho:off+m≤cs.size)
 (hsc:∀u∈v.cells.toList,u.scalar=true):(storeVar t ⟨n,off,none⟩ v).run P w=.ok () (World.putBlk w n T (over cs off v.cells.toList)):=by
 have:=lD (P:=P) v.cells.toList w n off 0 T cs hb hsc (by simp;omega)
 simp_all [storeVar,aE]
theorem tQ:∀(l:List Value) (cs:Array Value) (off k:Nat),
 (l.zipIdx k).foldl (fun cs (p:Value×Nat)=>cs.setIfInBounds (off+p.2) p.1) cs=over cs (off+k) l
 | [],_,_,_=>rfl
 | v :: l,cs,off,k=>by
  simp;rw [tQ l];rfl
theorem jM {ρ:Env}(hE:ρ.Ok) {place:Nat→Option (Nat×Nat)}:∀ {parts:List (Nat×SV)}{vals:List (Nat×Value)}{cells out:List SC}{vs:List Value},aAa place cells parts=some out→aC ρ cells=some vs→
 parts.length=vals.length→(∀(i:Nat) (p:Nat×SV) (q:Nat×Value),parts[i]?=some p→vals[i]?=some q→p.1=q.1∧(p.2≠SV.top→p.2.den ρ=some q.2))→
 ∃us,aC ρ out=some us∧Instr.fill place vs.toArray vals=some us.toArray
 | [],vals,cells,out,vs,h,hv,hl,hp=>by
  injection h with h;subst h;cases vals with
  | nil=>exact⟨vs,hv,rfl⟩
  | cons a b=>simp at hl
 | (i,sv) :: parts,vals,cells,out,vs,h,hv,hl,hp=>by
  cases vals with
  | nil=>simp at hl
  | cons q vals=>
   obtain⟨j,x⟩:=q;simp only [aAa]at h;split at h
   ·rename_i off size new h1 h2;split at h
    ·split at h
     ·rename_i cells' h3;have h0:=hp 0 _ _ rfl rfl;obtain⟨rfl,h0⟩:=h0;have hne:sv≠.top:=by rintro rfl;trivial
      have hx:=cells?_spec h2 (h0 hne);obtain⟨o1,o2⟩:=mZ hE h3 hv hx;obtain⟨us,u1,u2⟩:=jM hE h o1 (by simpa using hl) (fun i p q hi hq=>hp (i+1) p q (by simp_all) (by simp_all));refine⟨us,u1,?_⟩;have hsz:x.cells.size=size:=by grind [cQ]
      unfold Instr.fill;simp only [h1];rw [oh (by simp_all)];rw [←u2]
      congr 1
      have:=tQ x.cells.toList vs.toArray off 0
      grind [Array.toList_zipIdx]
     ·cases h
    ·cases h
   ·cases h
theorem uE {P:Program}{w:World}:∀ {fs:List Field}{l:List (Nat×Nat)},kY P fs=some l→
 (fs.mapM (m:=Sem) fun f=>do pure (f.offset,←sizeOf f.type)).run P w=.ok l w
 | [],l,h=>by simp only [kY]at h <;> simp_all
 | f :: fs,l,h=>by
  simp only [kY]at h;split at h
  ·rename_i s l' h1 h2;injection h with h;subst h;have ih:=uE (w:=w) h2;simp only [List.mapM_cons,qw,aE h1,Result.andThen,ih,jd]
  ·cases h
theorem aKj {P:Program}{w:World}{t:TypeId}{z:Value}{place:Nat→Option (Nat×Nat)}{parts:Array (Nat×Value)}{us:Array Value}(hz:(zeroValue t).run P w=.ok z w)
 (hp:xV P t=some place) (hf:Instr.fill place z.cells parts.toList=some us):(Instr.build t parts).run P w=.ok (.agg us) w:=by
 unfold xV at hp;split at hp
 ·rename_i fields hu;split at hp
  ·rename_i l hl;have h1:=uE (w:=w) hl;have h2:(fields.mapM (m:=Sem) fun f=>do pure (f.offset,←sizeOf f.type)).run P w=.ok l.toArray w:=by
    rw [xx,Sem.run_map,h1];rfl
   simp_all [Instr.build,aB]
  ·cases hp
 ·rename_i n e hu;cases hs:bT P e with
  | none=>simp_all
  | some s=>
   simp_all [Instr.build,aB,aE]
 ·cases hp
theorem gB {ρ:Env}{v:Value}{cs:List SC}(h:iF v=some cs):aC ρ cs=some v.cells.toList∧(∀u∈v.cells.toList,u.scalar=true):=by
 unfold iF at h;split at h
 ·rename_i l;split at h
  ·rename_i hs;injection h with h;subst h;have hall:∀u∈l.toList,u.scalar=true:=fun u hu=>vp.1 hs u hu;exact⟨by rw [iP _ hall];rfl,hall⟩
  ·cases h
 ·cases h
 ·injection h with h;subst h;have hs:v.scalar=true:=by cases v <;> first|rfl|simp_all|simp_all
  simp_all [jT,aC,SC.den,SC.scalar]
theorem xH {v:Value}{cs:List SC}(h:iF v=some cs):cs=v.cells.toList.map .lit:=by
 unfold iF at h;split at h
 ·split at h
  ·injection h with h;exact h.symm
  ·cases h
 ·cases h
 ·injection h with h;subst h;have hs:v.scalar=true:=by cases v <;> first|rfl|simp_all|simp_all
  rw [jT hs];rfl
def fI (P:Program) (t:TypeId) (x:Value):Prop:=match dD P t,bT P t with
 | some true,some m=>∃cs,x=.agg cs∧cs.size=m
 | some false,some _=>x.scalar=true
 | _,_=>False
theorem qL {P:Program}{ρ:Env}(hE:ρ.Ok) {t:TypeId}{cs l:List SC}{off n s j:Nat}{i:SC}{vs:List Value}{kk:IntKind}{I:Int}(h:tS P t cs off n s i j=some l) (hv:aC ρ cs=some vs) (hi:i.den ρ=some (.int kk I)) (h0:0≤I) (h1:I<n) :
 ∃m,dD P t=some true∧bT P t=some m∧(SV.agg l).den ρ=some (.agg (vs.toArray.extract (off+I.toNat*s+j) (off+I.toNat*s+j+m)))∧off+I.toNat*s+j+m≤vs.length:=by
 unfold tS at h;split at h
 ·rename_i x N m h2 h3 h4;split at h
  ·rename_i hN;injection h with h;subst h;obtain⟨c1,c2⟩:=fE hE h2 hv;simp only [aC]at c1;split at c1
   ·rename_i avs k us g1 g2 g3;injection g3 with g3;subst g3;split at c1
    ·rename_i hk;rw [qo]at c1;injection c1 with c1;obtain⟨cs',e,e1,e2⟩:=hE _ _ _ g2 g1;injection e with e;subst e;have hI:I.toNat<n:=oq
     have hmul:(I.toNat+1)*s≤n*s:=ol s hI;have hmul':(I.toNat+1)*s=I.toNat*s+s:=zj _ _;have hle:off+I.toNat*s+j+m≤vs.length:=oq
     refine⟨m,h3,h4,?_,hle⟩;simp only [SV.den,zB,eJ,g1,g2,hi,hk,if_true]
     congr 2
     apply zk;rw [Array.toList_extract];apply wj;intro q;simp only [pickL,jb,xj,vv,kj]
     by_cases hq:q<m
     ·have e1:off+I.toNat*s+j+m-(off+I.toNat*s+j)=m:=oq
      rw [e1,og hq,xz hq];simp only [je];have e3:avs[I.toNat*s+j+q]?=vs[off+I.toNat*s+j+q]?:=by
       rw [←jk,c1,vv,kj,og oq]
       congr 1
       omega
      grind
     grind
    ·cases c1
   ·cases c1
  ·cases h
 ·rename_i x N k0 z s0 j0 m0 m h2 h3 h4;split at h
  ·rename_i hN;injection h with h;subst h;obtain⟨c1,c2⟩:=fE hE h2 hv;simp only [aC]at c1;split at c1
   ·rename_i l us g1 g2;injection g2 with g2;subst g2;rw [qo]at c1;injection c1 with c1;simp only [eJ,SC.den]at g1;split at g1
    ·rename_i avs k k1 z1 f1 f2 f3;split at g1
     ·rename_i hk;injection g1 with g1;rw [c1]at g1;have hI:I.toNat<n:=oq
      have hmul:(I.toNat+1)*s≤n*s:=ol s hI;have hmul':(I.toNat+1)*s=I.toNat*s+s:=zj _ _;have hle:off+I.toNat*s+j+m≤vs.length:=oq
      refine⟨m,h3,h4,?_,hle⟩;simp only [SV.den,zB,eJ,f1,f2,hi,hk,if_true]
      congr 2
      apply zk;rw [Array.toList_extract];apply wj;intro q;simp only [pickL,jb,xj,vv,kj]
      by_cases hq:q<m
      ·have e4:=congrArg (fun l=>l[I.toNat*s+j+q]?) g1;simp only [pickL,jb,vv,kj]at e4 <;> grind
      grind
     ·cases g1
    ·cases g1
   ·cases c1
  ·cases h
 ·cases h
theorem lT {ρ:Env}{b off n c s j:Nat}{i:SC}{v:Value}(h:(SC.elem (.sl b off n c) i s j).den ρ=some v):∃nn kk I,ρ.blk b=some nn∧i.den ρ=some (.int kk I)∧0≤I∧I<n∧v=.pointer (some ⟨nn,off+I.toNat*s+j,none⟩):=by
 simp only [SC.den]at h;split at h
 ·rename_i x y hx hy;split at hx
  ·obtain⟨b',o,n',c',k,I,e1,rfl,h0,h1,rfl⟩:=dU h <;> grind
  ·cases hx
 ·cases h
theorem aGd {ρ:Env}(hE:ρ.Ok) {c:SC}{us:List Value}(h:aC ρ [c]=some us) (hnw:∀u∈us,u.noWord=true):eJ ρ c=some us:=by
 cases hc:c.scalar with
 | false=>exact qC hc h
 | true=>
  have hall:=cD hE h;have hone:∃v,c.den ρ=some v∧us=[v]:=by
   rw [cF (by cases c <;> first|rfl|cases hc) (fun i m e=>by subst e;cases hc),og hc]at h
   grind [aC]
  obtain⟨v,hd,rfl⟩:=hone;have hv:aDh (c.den ρ)=some [v]:=by simp_all [aDh]
  cases c <;> first|exact hv|cases hc
theorem sR {P:Program}{t:TypeId}{cs:List SC}{n s:Nat}{i c:SC}(h:aEx P t cs n s i=some c):∃x k,cs=[.seg x (n*s)]∧c=.cel x i s k∧dD P t=some false∧0<s:=by
 unfold aEx at h <;> grind
theorem aIw {o:Nat}{new cs l:List SC}(h:tP o new cs=some l):∀c∈new,c∈l:=by
 unfold tP at h <;> grind
theorem uZ {ρ:Env}(hE:ρ.Ok):∀(ys:List SC) (y:SC) {us:List Value},aC ρ (y :: ys)=some us→(∀u∈us,u.noWord=true)→eJ ρ (sP y ys)=some us
 | [],_,_,h,hn=>aGd hE h hn
 | z :: l,y,us,h,hn=>by
  obtain⟨a,b,h1,h2,rfl⟩:=cM h;simp only [sP,eJ,aGd hE h1 fun u hu=>hn u (List.mem_append_left _ hu),uZ hE l z h2 fun u hu=>hn u (List.mem_append_right _ hu)]
theorem lY {kd:Nat→Option LK}:∀(ys:List SC) (y:SC),wordless kd (sP y ys)=true→(y :: ys).all (wordless kd)=true
 | [],y,h=>by grind [sP]
 | z :: l,y,h=>by
  simp only [sP,wordless,qf]at h;rw [List.all_cons,h.1,lY l z h.2];rfl
theorem aEo {ρ:Env}(hE:ρ.Ok) {cs l new:List SC}{off n s j m:Nat}{i:SC}{us:List Value}(h:aBw cs off n s i j m new=some l) (hw:l.all (wordless ρ.kd)=true) (hu:aC ρ new=some us):∀u∈us,u.noWord=true:=by
 unfold aBw at h;split at h
 ·split at h
  ·have:=vp.1 hw _ (aIw h _ (qt.2 rfl));exact bO hE (lY _ _ this) hu
  ·cases h
 ·cases h
theorem sQ:∀(ys:List SC) (y:SC),(sP y ys).width=widths (y :: ys)
 | [],y=>by rfl
 | z :: l,y=>by simp [sP,SC.width,sQ l z,widths]
theorem aEn {ρ:Env}(hE:ρ.Ok) {cs l new:List SC}{off n s j m:Nat}{i:SC}{vs us:List Value}{kk:IntKind}{I:Int}(h:aBw cs off n s i j m new=some l) (hv:aC ρ cs=some vs) (hu:aC ρ new=some us) (hi:i.den ρ=some (.int kk I)) (h0:0≤I) (h1:I<n) (hnw:∀u∈us,u.noWord=true) :
 aC ρ l=some (over vs.toArray (off+I.toNat*s+j) us).toList∧off+I.toNat*s+j+us.length≤vs.length:=by
 unfold aBw at h;split at h
 ·rename_i x N y ys h2;split at h
  ·rename_i hN;obtain⟨rfl,hj,hw⟩:=hN;obtain⟨c1,c2⟩:=fE hE h2 hv;have hulen:=cQ hE hu;rw [←sQ]at hulen;simp only [aC]at c1;split at c1
   ·rename_i avs k' us' g1 g2 g3;injection g3 with g3;subst g3;split at c1
    ·rw [qo]at c1;injection c1 with c1;have hI:I.toNat<n:=oq
     have hmul:(I.toNat+1)*s≤n*s:=ol s hI;have hmul':(I.toNat+1)*s=I.toNat*s+s:=zj _ _;have hle:off+I.toNat*s+j+us.length≤vs.length:=oq
     have hrun:aC ρ [.upd x (n*s) i s j (sP y ys)]=some (over avs (I.toNat*s+j) us).toList:=by
      simp_all [aC,eJ,uZ,List.append_nil]
     obtain⟨o1,o2⟩:=mZ hE h hv hrun;refine⟨o1.trans ?_,hle⟩
     congr 1
     have havs:avs.size=n*s:=by
      obtain⟨cs',e,e1,e2⟩:=hE _ _ _ g2 g1 <;> simp_all
     have l2:I.toNat*s+j+us.length≤avs.size:=oq
     rw [over_eq _ _ _ oq,over_eq _ _ _ l2,over_eq _ _ _ oq];rw [c1];apply wj;simp only [jn,vv,kj,od,kz,List.length_drop]
     grind
    ·cases c1
   ·cases c1
  ·cases h
 ·cases h
def aLa (P:Program) (ρ:Env) (a:Act) (w:World) (hp:Nat→Option SB) (o:Oper):Eff→Prop
 | .pure v needs=>(∀c∈needs,c.den ρ=some (.bool true))→∀x,v.den ρ=some x→(execOp a.eval o).run P w=.ok (.value x) w
 | .load v b=>∀blk n vs,hp b=some blk→ρ.blk b=some n→aC ρ blk.cells=some vs→Blk w n blk.ty vs.toArray→
  ∃x,v.den ρ=some x∧(execOp a.eval o).run P w=.ok (.value x) w
 | .alloc ty cells sl=>∃vs,aC ρ cells=some vs∧(execOp a.eval o).run P w=.ok (.value (yE sl w.heap.size)) { w with heap:=w.heap.push (.cells vs.toArray ty) }
 | .store b cells=>cells.all (wordless ρ.kd)=true→∀blk n vs,hp b=some blk→ρ.blk b=some n→aC ρ blk.cells=some vs→Blk w n blk.ty vs.toArray→
  ∃us,aC ρ cells=some us∧(execOp a.eval o).run P w=.ok .skip (World.putBlk w n blk.ty us.toArray)
 | .call f args=>∀vs,argsD ρ args=some vs→(execOp a.eval o).run P w=.ok (.enter f vs.toArray) w
 | .getw v i s j t=>∀(b o' n c:Nat) (k:IntKind) (I:Int) (x:Value),(SC.slr v).den ρ=some (.slice (some ⟨b,o',none⟩) n c)→i.den ρ=some (.int k I)→0≤I→I<n→
  fI P t x→(∀(p:Nat) u,x.cells[p]?=some u→w.cell? ⟨b,o'+(I.toNat*s+j+p),none⟩=some u)→(execOp a.eval o).run P w=.ok (.value x) w
 | .read sa i s j t=>∀(b o' n c:Nat) (k:IntKind) (I:Int) (x:Value),sa.den ρ=some (.slice (some ⟨b,o',none⟩) n c)→i.den ρ=some (.int k I)→0≤I→I<n→
  fI P t x→(∀(p:Nat) u,x.cells[p]?=some u→w.cell? ⟨b,o'+(I.toNat*s+j+p),none⟩=some u)→(execOp a.eval o).run P w=.ok (.value x) w
 | .fail _=>True
theorem jI {P:Program}{w:World}{n o:Nat}:∀(us:List Value) (i:Nat) (acc:Array Value),(∀d u,us[d]?=some u→w.cell? ⟨n,o+i+d,none⟩=some u)→
 (loadCellsFrom ⟨n,o,none⟩ i us.length acc).run P w=.ok (acc++us.toArray) w
 | [],i,acc,_=>by rfl
 | u :: us,i,acc,h=>by
  have h0:w.cell? ⟨n,o+i,none⟩=some u:=by simpa using h 0 u rfl
  have hl:(load ((⟨n,o,none⟩:Addr).add i)).run P w=.ok u w:=by
   rw [bK] <;> simp_all
  rw [qk];unfold loadCellsFrom
  rw [lC hl,jI us (i+1) _ fun d v hd=>by
   have:=h (d+1) v (by simpa using hd) <;> grind]
  simp_all
theorem aBj {P:Program}{w:World}{t:TypeId}{b o:Nat}{x:Value}(h:fI P t x) (hc:∀(p:Nat) u,x.cells[p]?=some u→w.cell? ⟨b,o+p,none⟩=some u):(loadVar t ⟨b,o,none⟩).run P w=.ok x w:=by
 unfold fI at h;split at h
 ·obtain⟨cs,rfl,hm⟩:=h;have:=jI (P:=P) (w:=w) (n:=b) (o:=o) cs.toList 0 #[] fun d u hd=>hc d u (show cs[d]?=some u by simpa using hd) <;> simp_all [loadVar,bI,aE,loadCells]
 ·have e:x.cells=#[x]:=by cases x <;> first|rfl|cases h
  have:=hc 0 x (by rw [e];rfl) <;> simp_all [loadVar,bI]
 simp_all
section
variable {P:Program}{ρ:Env}{tm:Tmp→SV}{hp:Nat→Option SB}{a:Act}{w:World}
def Knows1 (ρ:Env) (tm:Tmp→SV) (a:Act) (o:Oper):Prop:=∀t,Operand.tmp t∈o.op.operands→Ok ρ (tm t) (a.tmps.getD t undef)
theorem Knows1.at {o:Oper}{x:Operand}(h:Knows1 ρ tm a o) (hm:x∈o.op.operands) (hx:opnd tm x≠.top):(opnd tm x).den ρ=some (a.eval x):=
 iA (fun t e=>h t (e▸hm)) hx
theorem xU {c x y:SC}{v vc:Value}(h:(gM c x y).den ρ=some v) (hc:c.den ρ=some vc):∃b,vc=.bool b∧(if b then x else y).den ρ=some v:=by
 unfold gM at h;split at h
 ·grind [SC.den]
 ·simp only [SC.den]at h;split at h
  ·obtain⟨b,rfl,rfl⟩:=oJ h <;> grind
  ·cases h
theorem pQ {cl:Nat}{op:BinOp}{t:TypeId}{x y v:Value}{xo yo:Operand}(h:eL cl op x y=some v)
 (hc:cl≤2) (ht:cl=1→dB P t=some .bool)
 (hn:(op=.quo∨op=.rem)→nzD y=some (.bool true)) (hsft:(op=.shl∨op=.shr)→∃k i,y=.int k i∧0≤i) (hf:op=.add→∀s u,x=.string s→y=.string u→s.size+u.size≤9223372036854775807) :
 (do eqGuard op t xo yo x y;binOp op t x y:Sem Value).run P w=.ok v w:=by
 unfold eL at h;split at h
 ·rename_i k i k' j;have hg:(eqGuard op t xo yo (.int k i) (.int k' j)).run P w=.ok () w:=by
   unfold eqGuard <;> simp_all
  simp only [qw,hg,Result.andThen];cases op
  all_goals (try (simp only at h;split at h <;> (try cases h)))
  all_goals (try (rename_i hk;subst hk))
  all_goals (try (injection h with h;subst h))
  case h_1.quo.isTrue.refl=>
   have:=hn (.inl rfl);simp only [nzD,jy,zn,decide_eq_true_eq]at this;simp [binOp,Op.intDiv,this]
  case h_1.rem.isTrue.refl=>
   have:=hn (.inr rfl);simp only [nzD,jy,zn,decide_eq_true_eq]at this;simp [binOp,Op.intDiv,this]
  case h_1.shl=>
   obtain⟨k2,i2,e,h0⟩:=hsft (.inl rfl);injection e with e1 e2;simp only [binOp,Op.shift];rw [oh oq];rfl
  case h_1.shr=>
   obtain⟨k2,i2,e,h0⟩:=hsft (.inr rfl);injection e with e1 e2;simp only [binOp,Op.shift];rw [oh oq];rfl
  all_goals simp [binOp,Op.intArith,Op.intBits,Op.intCmp]
 ·rename_i b c;have hg:(eqGuard op t xo yo (.bool b) (.bool c)).run P w=.ok () w:=by
   unfold eqGuard <;> simp_all
  have hu:=ht rfl;have he:(Op.equal t (.bool b) (.bool c)).run P w=.ok (b == c) w:=by
   unfold Op.equal Op.maxDepth Op.equalIn;simp [aB hu]
  cases op <;> simp only at h <;> (try cases h) <;> simp_all [binOp]
 ·rename_i s u;cases op <;> simp only at h <;> (try cases h)
  case h_3.add.refl=>
   have:=hf rfl s u rfl rfl;simp only [binOp,Op.stringOp];have e:IntKind.i64.max=9223372036854775807:=oz
   rw [e,oh oq];rfl
  all_goals rfl
 ·unfold mO at h <;> grind
theorem fJ {cl:Nat}{op:BinOp}{x y v:Value}(h:eL cl op x y=some v) (hc:3≤cl):mO cl op x y=some v:=by
 unfold eL at h <;> grind
theorem aKk {s d:TypeId}{ks:IntKind}{k:FloatKind}{x v:Value}(hus:dB P s=some (.int ks)) (hu:dB P d=some (.float k)) (h:eL 5 .add x (.float k 0)=some v) :
 (convert s d x).run P w=.ok v w:=by
 have hx:∃k' n,x=.int k' n:=by cases x <;> first|exact⟨_,_,rfl⟩|cases h
 obtain⟨k',n,rfl⟩:=hx;injection h with h <;> simp_all [convert,aB,Conv.intToFloat]
theorem aKl {s d:TypeId}{ks k:FloatKind}{x v:Value}(hus:dB P s=some (.float ks)) (hu:dB P d=some (.float k)) (h:eL 6 .add x (.float k 0)=some v) (hok:eL 7 .add x (.float k 0)=some (.bool true)) :
 (convert s d x).run P w=.ok v w:=by
 have hx:∃k' n,x=.float k' n:=by cases x <;> first|exact⟨_,_,rfl⟩|cases h
 obtain⟨k',n,rfl⟩:=hx;injection h with h;subst h;injection hok with hok;unfold kH at hok;unfold f2f;simp only [convert,qw,aB hus,aB hu,Conv.floatToFloat]
 by_cases hk:k'=k
 ·simp_all
 ·split at hok <;> simp_all
theorem aGe {k k':FloatKind}{n:Nat}(hok:kH k k' n=true):(Conv.floatToFloat k n k').run P w=.ok (.float k' (f2f k k' n)) w:=by
 unfold kH at hok;unfold f2f Conv.floatToFloat
 by_cases hk:k=k'
 ·simp_all
 ·split at hok <;> simp_all
theorem aEa {s d:TypeId}{ks k:FloatKind}{x v:Value}(hus:dB P s=some (.complex ks)) (hu:dB P d=some (.complex k)) (h:eL 15 .add x (.complex k 0 0)=some v) (hok:eL 16 .add x (.complex k 0 0)=some (.bool true)) :
 (convert s d x).run P w=.ok v w:=by
 have hx:∃k' n m,x=.complex k' n m:=by cases x <;> first|exact⟨_,_,_,rfl⟩|cases h
 obtain⟨k',n,m,rfl⟩:=hx;injection h with h;injection hok with hok <;> simp_all [convert,aB,Conv.complexToComplex,aGe]
theorem aXx {x y v:Value}(h:eL 12 .add x y=some v):∃k a b,x=.float k a∧y=.float k b∧v=.complex k a b:=by
 replace h:=fJ h oz;simp only [mO]at h <;> grind
theorem bAs {x y v:Value}(h:eL 13 .add x y=some v):∃k a b,x=.complex k a b∧v=.float k a:=by
 have hx:∃k a b,x=.complex k a b:=by cases x <;> first|exact⟨_,_,_,rfl⟩|cases h
 obtain⟨k,a,b,rfl⟩:=hx;injection h with h <;> grind
theorem bAm {x y v:Value}(h:eL 14 .add x y=some v):∃k a b,x=.complex k a b∧v=.float k b:=by
 have hx:∃k a b,x=.complex k a b:=by cases x <;> first|exact⟨_,_,_,rfl⟩|cases h
 obtain⟨k,a,b,rfl⟩:=hx;injection h with h <;> grind
theorem zO {ts:Array TypeId}{t:TypeId}{k:FloatKind}{a b:Nat}:Builtin.complex_ ts t #[.float k a,.float k b]=pure (.complex k a b):=by
 show (if k=k then _ else _)=_ <;> grind
theorem aPq {ts:Array TypeId}{t:TypeId}{k:FloatKind}{a b:Nat}:Builtin.real_ ts t #[.complex k a b]=pure (.float k a):=rfl
theorem aMp {ts:Array TypeId}{t:TypeId}{k:FloatKind}{a b:Nat}:Builtin.imag_ ts t #[.complex k a b]=pure (.float k b):=rfl
theorem aQa {op:BinOp}{t:TypeId}{x y v:Value}{xo yo:Operand}(h:eL 17 op x y=some v) :
 (do eqGuard op t xo yo x y;binOp op t x y:Sem Value).run P w=.ok v w:=by
 replace h:=fJ h oz;have hx:∃k a b,x=.complex k a b:=by cases x <;> first|exact⟨_,_,_,rfl⟩|cases h
 obtain⟨k,a,b,rfl⟩:=hx;have hy:∃k a b,y=.complex k a b:=by cases y <;> first|exact⟨_,_,_,rfl⟩|cases h
 obtain⟨k',c,d,rfl⟩:=hy;simp only [mO]at h;split at h
 ·have hg:(eqGuard op t xo yo (.complex k a b) (.complex k c d)).run P w=.ok () w:=by
   unfold eqGuard <;> simp_all
  cases op <;> (simp_all) <;> (try cases h)
  all_goals simp [binOp,Op.complexOp,Op.Complex.cmp,Op.floatCmp,asBool]
 ·cases h
theorem aQc {op:BinOp}{t e:TypeId}{x y v:Value}{xo yo:Operand}(ht:dB P t=some (.slice e)) (h:eL 18 op x y=some v) :
 (do eqGuard op t xo yo x y;binOp op t x y:Sem Value).run P w=.ok v w:=by
 replace h:=fJ h oz;have hx:∃a n c,x=.slice a n c:=by cases x <;> first|exact⟨_,_,_,rfl⟩|cases h
 obtain⟨a,n,c,rfl⟩:=hx;have hy:y=.slice none 0 0:=by unfold mO at h;split at h <;> first|rfl|omega|cases h
 subst hy;have he (d:Nat):(Op.equalIn (d+1) t (.slice a n c) (.slice none 0 0)).run P w=.ok a.isNone w:=by
  cases a <;> simp [Op.equalIn,aB ht]
 have hg:(eqGuard op t xo yo (.slice a n c) (.slice none 0 0)).run P w=.ok () w:=by
  unfold eqGuard <;> simp_all
 cases op <;> simp only [mO]at h <;> cases h
 all_goals simp only [qw,hg,Result.andThen,binOp];simp [Op.equal,Op.maxDepth,he 9999]
theorem aKm {s d:TypeId}{ks:FloatKind}{k:IntKind}{x v:Value}(hus:dB P s=some (.float ks)) (hu:dB P d=some (.int k)) (h:eL 8 .add x (.int k 0)=some v) (hok:eL 9 .add x (.int k 0)=some (.bool true)) :
 (convert s d x).run P w=.ok v w:=by
 have hx:∃k' n,x=.float k' n:=by cases x <;> first|exact⟨_,_,rfl⟩|cases h
 obtain⟨k',n,rfl⟩:=hx;injection h with h;subst h;injection hok with hok;unfold aWk at hok;unfold f2i;simp only [convert,qw,aB hus,aB hu,Conv.floatToInt];split at hok <;> simp_all
theorem aQb {op:BinOp}{t:TypeId}{x y v:Value}{xo yo:Operand}(h:eL 3 op x y=some v) (hf:(op=.add∨op=.sub∨op=.mul∨op=.quo)→eL 4 op x y=some (.bool true)) :
 (do eqGuard op t xo yo x y;binOp op t x y:Sem Value).run P w=.ok v w:=by
 replace h:=fJ h oz;have hx:∃k a,x=.float k a:=by cases x <;> first|exact⟨_,_,rfl⟩|cases h
 obtain⟨k,a,rfl⟩:=hx;have hy:∃k a,y=.float k a:=by cases y <;> first|exact⟨_,_,rfl⟩|cases h
 obtain⟨k',b,rfl⟩:=hy;simp only [mO]at h;split at h
 ·rename_i hk;subst hk;have hg:(eqGuard op t xo yo (.float k a) (.float k b)).run P w=.ok () w:=by
   unfold eqGuard <;> simp_all
  simp only [qw,hg];have key:∀o,(o=BinOp.add∨o=.sub∨o=.mul∨o=.quo)→op=o→(Op.floatArith o k a b).run P w=.ok (.float k ((aCp k o a b).getD 0)) w:=by
   rintro o ho rfl;have:=fJ (hf ho) oz;simp only [mO,jy,zn]at this;obtain⟨r,hr⟩:=Option.isSome_iff_exists.1 this;rcases ho with rfl|rfl|rfl|rfl <;> (simp_all [aCp,Op.floatArith])
  cases op <;> (try simp at h) <;> (try cases h)
  all_goals first
   | (simp only [binOp,ne_eq];exact key _ (by simp) rfl)
   | simp [binOp,Op.floatCmp]
 ·cases h
theorem aFc {g:FuncId}{caps:List Nat}{args:List SV}{c:SC}(h:aYa P g caps args=some c) :
 ∃ fn sa, caps = [] ∧ args = [.one sa] ∧ P.funcs[g]? = some fn ∧ fn.body.isNone = true ∧ fn.origin = "" ∧ aMh fn.name sa = some c := by
 unfold aYa at h;split at h
 ·rename_i fn a hf;rw [jN]at hf;split at h
  ·rename_i hc;simp only [qf,beq_iff_eq]at hc;exact⟨fn,a,rfl,rfl,hf,hc.1,hc.2,h⟩
  ·cases h
 ·cases h
theorem nX {fn : Func} {n : String} (h : fn.name = n) (ho : fn.origin = "") (hn : n = "math.Float64bits" ∨ n = "math.Float64frombits" ∨ n = "math.Float32bits" ∨ n = "math.Float32frombits") :
 Extern.findNext fn = none ∧ (fn.name == "runtime.NumGoroutine") = false := by
 unfold Extern.findNext;rw [h,ho];rcases hn with rfl|rfl|rfl|rfl <;> exact⟨rfl,rfl⟩
theorem aMi {fn:Func} :
 (fn.name = "math.Float64bits" → Extern.find fn = some Extern.MathFloatBits.float64bits) ∧ (fn.name = "math.Float64frombits" → Extern.find fn = some Extern.MathFloatBits.float64frombits) ∧
 (fn.name = "math.Float32bits" → Extern.find fn = some Extern.MathFloatBits.float32bits) ∧ (fn.name = "math.Float32frombits" → Extern.find fn = some Extern.MathFloatBits.float32frombits) := by
 unfold Extern.find;refine⟨fun h=>?_,fun h=>?_,fun h=>?_,fun h=>?_⟩ <;> rw [h] <;> rfl
theorem aEu {op:BinOp}{x v:Value}{ik:IntKind}(h:mO 10 op x (.int ik 0)=some v):∃k n,x=.float k n∧v=.int ik n∧(k=.f64∧ik=.u64∨k=.f32∧ik=.u32):=by
 cases x with
 | float k n=>cases k <;> cases ik <;> first|(injection h with h;subst h;exact⟨_,_,rfl,rfl,by simp⟩)|cases h
 | _=>cases h
theorem aEv {op:BinOp}{x v:Value}{k:FloatKind}(h:mO 11 op x (.float k 0)=some v):∃ik n,x=.int ik n∧v=.float k n.toNat∧(k=.f64∧ik=.u64∨k=.f32∧ik=.u32):=by
 cases x with
 | int ik n=>cases k <;> cases ik <;> first|(injection h with h;subst h;exact⟨_,_,rfl,rfl,by simp⟩)|cases h
 | _=>cases h
theorem aTj {ρ : Env} {g : FuncId} {fn : Func} {sa c : SC} {x v : Value} (hf : P.funcs[g]? = some fn) (hb : fn.body.isNone = true) (ho : fn.origin = "") (h : aMh fn.name sa = some c) (hx : sa.den ρ = some x) (hv : c.den ρ = some v) :
 (callFunc g #[x]).run P w=.ok (.value v) w:=by
 obtain⟨f1,f2,f3,f4⟩:=aMi (fn:=fn);unfold aMh at h;split at h
 ·rename_i hn;injection h with h;subst h;simp only [aP,SC.den,hx]at hv;have hv:=fJ hv oz;obtain⟨e1,e2⟩:=nX hn ho (.inl rfl);rw [run_callFunc_extern hf e2 hb e1 (f1 hn)];obtain⟨k,n,rfl,rfl,hk⟩:=aEu hv;rcases hk with ⟨e,e'⟩|⟨e,e'⟩ <;> cases e <;> cases e';rfl
 split at h
 ·rename_i hn;injection h with h;subst h;simp only [aP,SC.den,hx]at hv;have hv:=fJ hv oz;obtain⟨e1,e2⟩:=nX hn ho (.inr (.inl rfl));rw [run_callFunc_extern hf e2 hb e1 (f2 hn)];obtain⟨k,n,rfl,rfl,hk⟩:=aEv hv;rcases hk with ⟨e,e'⟩|⟨e,e'⟩ <;> cases e <;> cases e';rfl
 split at h
 ·rename_i hn;injection h with h;subst h;simp only [aP,SC.den,hx]at hv;have hv:=fJ hv oz;obtain⟨e1,e2⟩:=nX hn ho (.inr (.inr (.inl rfl)));rw [run_callFunc_extern hf e2 hb e1 (f3 hn)];obtain⟨k,n,rfl,rfl,hk⟩:=aEu hv;rcases hk with ⟨e,e'⟩|⟨e,e'⟩ <;> cases e <;> cases e';rfl
 split at h
 ·rename_i hn;injection h with h;subst h;simp only [aP,SC.den,hx]at hv;have hv:=fJ hv oz;obtain⟨e1,e2⟩:=nX hn ho (.inr (.inr (.inr rfl)));rw [run_callFunc_extern hf e2 hb e1 (f4 hn)];obtain⟨k,n,rfl,rfl,hk⟩:=aEv hv;rcases hk with ⟨e,e'⟩|⟨e,e'⟩ <;> cases e <;> cases e';rfl
 ·cases h
theorem qD {ρ:Env}{c:SC}{cs:List SC}{vs:List Value}(hs:c.scalar=true) (h:aC ρ (c :: cs)=some vs):∃p us,vs=p :: us∧c.den ρ=some p∧aC ρ cs=some us:=by
 have hr:c.isRun=false:=by cases c <;> first|rfl|cases hs
 rw [cF hr (fun i m e=>by rw [e]at hs;cases hs),og hs]at h <;> grind
theorem uW {ρ:Env}{cs:List SC}{v:Value}(h:(SV.agg cs).den ρ=some v):∃us,aC ρ cs=some us∧v=.agg us.toArray:=by
 simp only [SV.den,bU]at h <;> grind
theorem nV {P:Program}{ρ:Env}{w:World}{e:TypeId}{kk:IntKind}(hu:dB P e=some (.int kk)) (d:Nat) (xs ys:Array Value):∀(as bs:List SC) (r:SC) (us vs:List Value) (o:Nat) (v:Value),gA as bs=some r→r.den ρ=some v→aC ρ as=some us→aC ρ bs=some vs→
 (∀i:Nat,xs[o+i]?=us[i]?)→(∀i:Nat,ys[o+i]?=vs[i]?)→∃b,v=.bool b∧(Op.eqItems (d+1) e 1 xs ys (List.range' o as.length)).run P w=.ok b w
 | [],[],r,us,vs,o,v,h,hv,_,_,_,_=>by
  simp only [gA,jy]at h;subst h <;> simp_all [SC.den,Option.some.injEq,Op.eqItems]
 | [],_ :: _,_,_,_,_,_,h,_,_,_,_,_=>by trivial
 | _ :: _,[],_,_,_,_,_,h,_,_,_,_,_=>by trivial
 | a :: as,b :: bs,r,us,vs,o,v,h,hv,ha,hb,hx,hy=>by
  unfold gA at h;split at h
  ·rename_i hs;obtain⟨hs1,hs2⟩:=Bool.and_eq_true_iff.1 hs;obtain⟨r',hr',rfl⟩:=vr.1 h;obtain⟨p,us',rfl,hp,hus⟩:=qD hs1 ha;obtain⟨q,vs',rfl,hq,hvs⟩:=qD hs2 hb;simp only [SC.den,aP,hp,hq]at hv;split at hv
   ·rename_i z1 z2 z3 h1 h2 h3;obtain⟨b',rfl,hb'⟩:=nV (P:=P) (w:=w) hu d xs ys as bs r' us' vs' (o+1) z2 hr' h2 hus hvs (fun i=>by rw [xr,vg 1 i,hx];rfl) (fun i=>by rw [xr,vg 1 i,hy];rfl);obtain⟨c,rfl,rfl⟩:=oJ hv;have hx0:xs[o]?=some p:=hx 0;have hy0:ys[o]?=some q:=hy 0;have hag:dD P e=some false:=by grind [dD]
    have hpx:(part e xs o).run P w=.ok p w:=by simp [part,bI hag,hx0]
    have hpy:(part e ys o).run P w=.ok q w:=by simp [part,bI hag,hy0]
    rw [jY]at hu;have he:∃k i j,p=.int k i∧q=.int k j∧c=(i == j):=by
     cases p <;> cases q <;> simp only [eL]at h1 <;> try cases h1
     grind
    obtain⟨k,i,j,rfl,rfl,rfl⟩:=he;have hr:=run_equalIn_int w d e k kk i j hu;rw [qk,List.range'_succ];simp only [Op.eqItems,js,qw,hpx,hpy,hr,xb];cases hij:(i == j) <;> simp_all
   ·cases hv
  ·cases h
theorem wG {P:Program}{ρ:Env}{w:World}{t e:TypeId}{n:Nat}{kk:IntKind}{as bs:List SC}{us vs:List Value}{r:SC}{v:Value}{xo yo:Operand}(ht:dB P t=some (.array n e)) (hu:dB P e=some (.int kk)) (hz:bT P e=some 1) (hn:as.length=n)
 (h:gA as bs=some r) (hv:r.den ρ=some v) (ha:aC ρ as=some us) (hb:aC ρ bs=some vs) :
 (do eqGuard .eql t xo yo (.agg us.toArray) (.agg vs.toArray);binOp .eql t (.agg us.toArray) (.agg vs.toArray):Sem Value).run P w=.ok v w∧∀u,aDc v=some u→(do eqGuard .neq t xo yo (.agg us.toArray) (.agg vs.toArray);binOp .neq t (.agg us.toArray) (.agg vs.toArray):Sem Value).run P w=.ok u w:=by
 subst hn;have hi:∃i,P.info? e=some i∧i.size=1:=by
  simp_all [bT,iD]
 obtain⟨i,hi,hi1⟩:=hi;have hc:P.cellsOf e=1:=by grind [Program.cellsOf]
 obtain⟨b,rfl,hr⟩:=nV (P:=P) (w:=w) hu 9998 us.toArray vs.toArray as bs r us vs 0 v h hv ha hb (fun i=>by simp) (fun i=>by simp);rw [jY]at ht hu;have hgt:P.eqGuardType P.depth t=false:=by
  rw [show P.depth=2*(P.types.size+Made.depth)+1+1 from rfl];unfold Program.eqGuardType;rw [ht];simp;unfold Program.eqGuardType;rw [hu]
 refine⟨?_,fun u hu'=>?_⟩
 ·rw [qw,run_eqGuard_agg w .eql t xo yo _ _ hgt,xb,run_eql_struct,show (10000:Nat)=9999+1 from rfl,run_equalIn_array w 9999 _ _ ht hi,hc,List.range_eq_range',hr];rfl
 ·simp only [aDc,jy]at hu';subst hu';rw [qw,run_eqGuard_agg w .neq t xo yo _ _ hgt,xb,run_neq_struct,show (10000:Nat)=9999+1 from rfl,run_equalIn_array w 9999 _ _ ht hi,hc,List.range_eq_range',hr];rfl
theorem aNo {ρ:Env}{c:SC}{v:Value}{sv:SV}(h:sv=.one c) (hv:sv.den ρ=some v):c.den ρ=some v:=by subst h;exact hv
theorem iZ {ρ:Env}:∀ {l:List SV}{vs:List Value},argsD ρ l=some vs→vs.length=l.length∧∀(i:Nat) (sv:SV),l[i]?=some sv→∃v,vs[i]?=some v∧sv.den ρ=some v
 | [],vs,h=>by simp only [argsD]at h <;> simp_all
 | x :: l,vs,h=>by
  simp only [argsD]at h;split at h
  ·rename_i v us h1 h2;obtain⟨i1,i2⟩:=iZ h2 <;> grind
  ·cases h
theorem nL {ρ:Env}:∀ {l r:List SV}{vs:List Value},argsD ρ (l++r)=some vs→∃us ws,argsD ρ l=some us∧argsD ρ r=some ws∧vs=us++ws
 | [],r,vs,h=>⟨[],vs,rfl,h,rfl⟩
 | x :: l,r,vs,h=>by
  simp only [List.cons_append,argsD]at h;split at h
  ·rename_i v us h1 h2;injection h with h;subst h;obtain⟨us',ws,i1,i2,rfl⟩:=nL h2;exact⟨v :: us',ws,by simp [argsD,h1,i1],i2,rfl⟩
  ·cases h
theorem sK {ρ:Env}:∀ {is:List Nat}{vs us:List Value},argsD ρ (is.map fun i=>.one (.var i))=some vs→kJ ρ is=some us→vs=us
 | [],vs,us,h,h'=>by simp_all [argsD,kJ]
 | i :: is,vs,us,h,h'=>by
  simp only [zr,argsD]at h;simp only [kJ]at h';split at h
  ·rename_i v ws h1 h2;split at h'
   ·rename_i v' ws' h1' h2';have:=sK h2 h2' <;> grind [SV.den,SC.den]
   ·cases h'
  ·cases h
theorem jL {ρ:Env}{tm:Tmp→SV}{a:Act}:∀ {l:List Operand}{vs:List Value},(∀x∈l,∀t,x=.tmp t→Ok ρ (tm t) (a.tmps.getD t undef))→argsD ρ (l.map (opnd tm))=some vs→vs=l.map a.eval
 | [],vs,_,h=>by simp only [xg,argsD]at h <;> simp_all
 | x :: l,vs,hk,h=>by
  simp only [zr,argsD]at h;split at h
  ·rename_i v us h1 h2;injection h with h;subst h;have hne:opnd tm x≠.top:=fun e=>by rw [e]at h1;cases h1
   have:=iA (ρ:=ρ) (a:=a) (hk x (by simp)) hne;rw [h1]at this;injection this with this;rw [this,jL (fun y hy=>hk y (by simp [hy])) h2];rfl
  ·cases h
theorem nB {ρ:Env}:∀ {l:List (Bool×List SC)}{vs:List Value},iI ρ l=some vs→∀(i:Nat) p,l[i]?=some p→∃v,vs[i]?=some v∧iH ρ p=some v
 | [],vs,h,i,p,hi=>by simp at hi
 | x :: l,vs,h,i,p,hi=>by
  simp only [iI]at h;split at h
  ·rename_i v us h1 h2;injection h with h;subst h;cases i with
   | zero=>simp_all
   | succ i=>exact nB h2 i p (by simp_all)
  ·cases h
theorem aHy {k:IntKind}{i:Int}{y:Value}(h:leD (.int k i) y=some (.bool true)):∃k' j,y=.int k' j∧i≤j:=by
 unfold leD at h <;> grind
def PubOk (ρ:Env) (hp:Nat→Option SB):Prop:=∀b blk,hp b=some blk→blk.pub=true→∃n,ρ.blk b=some n∧ρ.val blk.pv=some (.pointer (some ⟨n,0,none⟩))
theorem kN (hpub:PubOk ρ hp):∀ {xs:List Operand}{ids:List Nat},(∀x∈xs,∀t,x=.tmp t→Ok ρ (tm t) (a.tmps.getD t undef))→sL tm hp xs=some ids→kJ ρ ids=some (xs.map a.eval)
 | [],ids,_,h=>by injection h with h;subst h;rfl
 | x :: xs,ids,hk,h=>by
  unfold sL at h;split at h
  ·rename_i b hx;split at h
   ·rename_i blk hb;split at h
    ·rename_i hp';cases hc:sL tm hp xs with
     | none=>simp_all
     | some is=>
      rw [hc]at h;injection h with h;subst h;have ih:=kN hpub (fun y hy=>hk y (by simp [hy])) hc;obtain⟨n,h1,h2⟩:=hpub b blk hb hp';have he:=iA (ρ:=ρ) (a:=a) (hk x (by simp)) (by rw [hx];simp) <;> simp_all [SV.den,SC.den,kJ]
    ·cases h
   ·cases h
  ·cases h
theorem aEb {P:Program}{w:World}{t:TypeId}{name:String}{f:FuncId}{v:Value}(h:rY P t name=some f) :
 (Go.method (P.types.size+Made.depth) t v name).run P w=.ok (f,v) w:=by
 unfold rY at h;split at h
 ·cases h
 ·rename_i i d hne hi hu;split at h
  ·rename_i m hm;split at h
   ·rename_i hp;split at h
    ·rename_i f' hf;injection h with h;subst h;have hp':m.path=#[]:=ji hp;have e:P.types.size+Made.depth=(P.types.size+99)+1:=rfl;rw [e];unfold Go.method;simp only [qw,cI hi,Result.andThen,hm,hp',hf,follow,jd,receiverAt,aB hu];rfl
    ·cases h
   ·cases h
  ·cases h
 ·cases h
theorem aMw {ρ:Env}{a b:SC}{v x y:Value}(h:(SV.one (gM (bY 0 .lss a b) b a)).den ρ=some v) (h1:a.den ρ=some x) (h2:b.den ρ=some y) :
 ∃k i j,x=.int k i∧y=.int k j∧v=.int k (if j > i then j else i):=by
 have hc:∃cv,(bY 0 .lss a b).den ρ=some cv:=by
  by_cases hl:∃b0,bY 0 .lss a b=.lit (.bool b0)
  ·obtain⟨b0,e⟩:=hl;rw [e];exact⟨_,rfl⟩
  ·unfold gM at h <;> grind [SV.den,SC.den]
 obtain⟨cv,hc⟩:=hc;obtain⟨b0,rfl,h4⟩:=xU (ρ:=ρ) h hc;rw [aP]at hc;simp only [SC.den,h1,h2]at hc;cases x <;> cases y <;> simp only [eL]at hc <;> try cases hc
 rename_i k i k' j;split at hc
 ·rename_i hk;subst hk;refine⟨_,i,j,rfl,rfl,?_⟩ <;> grind
 ·cases hc
theorem aIc {ρ:Env}{a b:SC}{v x y:Value}(h:(SV.one (gM (bY 0 .lss b a) b a)).den ρ=some v) (h1:a.den ρ=some x) (h2:b.den ρ=some y) :
 ∃k i j,x=.int k i∧y=.int k j∧v=.int k (if j<i then j else i):=by
 have hc:∃cv,(bY 0 .lss b a).den ρ=some cv:=by
  by_cases hl:∃b0,bY 0 .lss b a=.lit (.bool b0)
  ·obtain⟨b0,e⟩:=hl;rw [e];exact⟨_,rfl⟩
  ·unfold gM at h <;> grind [SV.den,SC.den]
 obtain⟨cv,hc⟩:=hc;obtain⟨b0,rfl,h4⟩:=xU (ρ:=ρ) h hc;rw [aP]at hc;simp only [SC.den,h1,h2]at hc;cases x <;> cases y <;> simp only [eL]at hc <;> try cases hc
 rename_i k i k' j;split at hc
 ·rename_i hk;subst hk;refine⟨_,i,j,rfl,rfl,?_⟩ <;> grind
 ·cases hc
theorem oR {ρ:Env}{b off len c s':Nat}{z:Int}{sh:SC}{v:Value}(hz:z=0) (h:(SC.slc (.sl b off len c) (.lit (.int .u8 z)) sh s').den ρ=some v):∃m k2 i2,ρ.blk b=some m∧sh.den ρ=some (.int k2 i2)∧0≤i2∧i2≤(c:Int)∧v=.slice (some ⟨m,off,none⟩) i2.toNat c:=by
 simp only [SC.den]at h;split at h
 ·rename_i x y u d1 d2 d3;split at d1
  ·obtain⟨A,n',c',k1,i1,k2,i2,e1,e2,rfl,q1,q2,q3,rfl⟩:=sE h
   grind [Addr.add]
  ·cases d1
 ·cases h
theorem fC {o:Oper}(hE:ρ.Ok) (hpub:PubOk ρ hp) (hk:Knows1 ρ tm a o):aLa P ρ a w hp o (bD P tm hp o):=by
 obtain⟨dst,op,type,pos,after,guard⟩:=o;have hat:∀ {x:Operand},x∈op.operands→opnd tm x≠.top→(opnd tm x).den ρ=some (a.eval x):=fun hm hx=>hk.at hm hx;have hone:∀ {x:Operand}{c:SC},x∈op.operands→opnd tm x=.one c→c.den ρ=some (a.eval x):=fun hm hx=>aNo hx (hat hm (by rw [hx];simp));unfold bD;cases op <;> simp only
 all_goals try exact trivial
 case move x=>
  intro _ v hv;have:=hat (x:=x) (by simp [Op.operands]) (fun e=>by rw [e]at hv;cases hv) <;> simp_all [Op.operands,execOp]
 case assign x=>
  intro _ v hv;have:=hat (x:=x) (by simp [Op.operands]) (fun e=>by rw [e]at hv;cases hv) <;> simp_all [Op.operands,execOp]
 case pick c x y=>
  split
  ·rename_i sc sx sy hc hx hy;intro _ v hv;have h1:=hone (by simp [Op.operands]) hc;have h2:=hone (by simp [Op.operands]) hx;have h3:=hone (by simp [Op.operands]) hy;obtain⟨b,e,h4⟩:=xU (ρ:=ρ) hv h1;simp only [execOp,e,asBool,Sem.run_bind,Sem.run_pure,Result.andThen] <;> grind
  ·trivial
 case alloc elem=>
  split
  ·rename_i i hi;split
   ·rename_i z hz;split
    ·rename_i cs hc;refine⟨_,(gB hc).1,?_⟩;simp [execOp,Instr.alloc,zeroValue,cI hi,hz,newVar,newRow,yE]
    ·trivial
   ·trivial
  ·trivial
 case box elem x=>
  split
  ·rename_i cs hc;have hne:opnd tm x≠.top:=fun e=>by rw [e]at hc;cases hc
   have:=hat (x:=x) (by simp [Op.operands]) hne;refine⟨_,cells?_spec hc this,?_⟩;rfl
  ·trivial
 case build t parts=>
  split
  ·rename_i i place hi hpl;split
   ·rename_i z hz;split
    ·rename_i cs hc;split
     ·rename_i out hf;intro _ v hv;obtain⟨l1,_⟩:=gB (ρ:=ρ) hc
      obtain⟨us,u1,u2⟩:=jM hE (vals:=parts.toList.map fun p=>(p.1,a.eval p.2)) hf l1 (by simp) (fun i p q hp hq=>by
       simp only [jb]at hp hq;cases hg:parts.toList[i]? with
       | none=>simp_all
       | some r=>
        rw [hg]at hp hq;simp only [je,jy]at hp hq;subst hp hq;refine⟨rfl,fun hne=>hat ?_ hne⟩
        simp only [Op.operands,List.mem_toArray,xh] <;> grind)
      simp_all [bU,SV.den,zeroValue,cI,Value.cells,aKj,execOp,Sem.run_bind]
     ·trivial
    ·trivial
   ·trivial
  ·trivial
 case load t x=>
  split
  ·rename_i b off hx;have h1:=hone (by simp [Op.operands]) hx;split
   ·rename_i blk hb;split
    ·rename_i v hv;intro blk' n vs hb' hn hc hB;rw [hb]at hb';injection hb' with hb';subst hb';simp only [SC.den,hn]at h1;injection h1 with h1;obtain⟨y,y1,y2⟩:=qU hE (P:=P) (w:=w) hv hc hB;refine⟨y,y1,?_⟩;simp [execOp,←h1,Instr.loadAt,Instr.sureAddr,y2]
    ·trivial
   ·trivial
  ·rename_i b off n c i s j hx;have h1:=hone (by simp [Op.operands]) hx;split
   ·rename_i blk hb;split
    ·rename_i cs hcs;intro blk' nn vs hb' hn hc hB;rw [hb]at hb';injection hb' with hb';subst hb';obtain⟨nn',kk,I,hn',hi,h0,hI,hp⟩:=lT h1;rw [hn]at hn';injection hn' with hn';subst hn';obtain⟨m,m1,m2,m3,m4⟩:=qL hE hcs hc hi h0 hI;refine⟨_,m3,?_⟩;have:=mJ (P:=P) hB (o:=off+I.toNat*s+j) (m:=m) oq
     simp_all [execOp,Instr.loadAt,Instr.sureAddr,loadVar,bI,aE]
    ·split
     ·rename_i c' hcl;split
      ·rename_i hj;subst hj;intro blk' nn vs hb' hn hc hB;rw [hb]at hb';injection hb' with hb';subst hb';obtain⟨nn',kk,I,hn',hi,h0,hI,hp⟩:=lT h1;rw [hn]at hn';injection hn' with hn';subst hn';obtain⟨cs,hcut,hcel⟩:=qp.1 hcl;obtain⟨x,k,rfl,rfl,g2,g0⟩:=sR hcel;obtain⟨c1,c2⟩:=fE hE hcut hc;simp only [aC]at c1;split at c1
       ·rename_i us k' us' q1 q2 q3;injection q3 with q3;subst q3;split at c1
        ·rename_i hk;injection c1 with c1;rw [qo]at c1;obtain⟨us',e,e1,e2⟩:=hE _ _ _ q2 q1;injection e with e;subst e;have hI':I.toNat<n:=oq
         have hmul:(I.toNat+1)*s≤n*s:=ol s hI';have hmul':(I.toNat+1)*s=I.toNat*s+s:=zj _ _;have hlt:I.toNat*s<us.size:=oq
         have hsc:=(e2 us[I.toNat*s] (by simp)).1;have hd:aCd us (I.toNat*s)=some us[I.toNat*s]:=by
          unfold aCd;rw [ql hlt];generalize us[I.toNat*s]=u at *
          cases u <;> first|rfl|cases hsc
         refine⟨us[I.toNat*s],by simp_all [SV.den,SC.den],?_⟩;have hcell:w.cell? ⟨nn,off+I.toNat*s,none⟩=some us[I.toNat*s]:=by
          rw [hB.cell];have:=congrArg (fun l=>l[I.toNat*s]?) c1 <;> grind
         simp_all [execOp,Instr.loadAt,Instr.sureAddr,loadVar,bI]
        ·cases c1
       ·cases c1
      ·trivial
     ·trivial
   ·trivial
  ·rename_i v i s j hx;have h1:=hone (by simp [Op.operands]) hx;intro b o' n c k I y hv hi h0 hI hsh hw;rw [SC.den]at h1;simp only [hv,hi,kG,h0,hI,and_self,if_true]at h1;injection h1 with h1;have:=aBj (P:=P) (w:=w) (b:=b) (o:=o'+I.toNat*s+j) hsh fun p u hu=>by
    grind
   simp [execOp,←h1,Instr.loadAt,Instr.sureAddr,this]
  ·rename_i sa si s j _ _ hx;have h1:=hone (by simp [Op.operands]) hx;intro b o' n c k I y hv hi h0 hI hsh hw;simp only [SC.den,hv,hi,kG,h0,hI,and_self,if_true]at h1;injection h1 with h1;have:=aBj (P:=P) (w:=w) (b:=b) (o:=o'+I.toNat*s+j) hsh fun p u hu=>by
    grind
   simp [execOp,←h1,Instr.loadAt,Instr.sureAddr,this]
  ·trivial
 case store t x y=>
  split
  ·rename_i b off new m hx hnew hm;have h1:=hone (by simp [Op.operands]) hx;split
   ·rename_i blk hb;split
    ·rename_i hw;split
     ·rename_i cs hov;intro _ blk' n vs hb' hn hc hB;rw [hb]at hb';injection hb' with hb';subst hb';simp only [SC.den,hn]at h1;injection h1 with h1;have hne:opnd tm y≠.top:=fun e=>by rw [e]at hnew;cases hnew
      have h2:=hat (x:=y) (by simp [Op.operands]) hne;have h3:=cells?_spec hnew h2;obtain⟨o1,o2⟩:=mZ hE hov hc h3;refine⟨_,o1,?_⟩;simp only [Bool.and_eq_true,decide_eq_true_eq]at hw;have hlen:=cQ hE h3;have hsz:(a.eval y).cells.size=m:=by simp_all
      have hl2:(a.eval y).cells.toList.length=m:=oq
      have:=jS (P:=P) (w:=w) (t:=t) (off:=off) (v:=a.eval y) hB hm hsz (by simp_all) (cD hE h3);simp [execOp,←h1,Instr.storeAt,Instr.sureAddr,this]
     ·trivial
    ·trivial
   ·trivial
  ·rename_i b off n c i s j new m hx hnew hm;have h1:=hone (by simp [Op.operands]) hx;split
   ·rename_i blk hb;split
    ·rename_i hw;split
     ·rename_i cs hov;intro hcw blk' nn vs hb' hn hc hB;rw [hb]at hb';injection hb' with hb';subst hb';obtain⟨nn',kk,I,hn',hi,h0,hI,hp⟩:=lT h1;rw [hn]at hn';injection hn' with hn';subst hn';have hne:opnd tm y≠.top:=fun e=>by rw [e]at hnew;cases hnew
      have h2:=hat (x:=y) (by simp [Op.operands]) hne;have h3:=cells?_spec hnew h2;obtain⟨o1,o2⟩:=aEn hE hov hc h3 hi h0 hI (aEo hE hov hcw h3);refine⟨_,o1,?_⟩;simp only [Bool.and_eq_true,decide_eq_true_eq]at hw;have hlen:=cQ hE h3;have hsz:(a.eval y).cells.size=m:=by simp_all
      have hl2:(a.eval y).cells.toList.length=m:=oq
      have:=jS (P:=P) (w:=w) (t:=t) (off:=off+I.toNat*s+j) (v:=a.eval y) hB hm hsz (by simp_all) (cD hE h3)
      simp_all [execOp,Instr.storeAt,Instr.sureAddr]
     ·trivial
    ·trivial
   ·trivial
  ·trivial
 case nilCheck x=>
  split
  ·rename_i b off hx;intro _ v hv;have h1:=hone (by simp [Op.operands]) hx;simp only [SV.den]at hv;rw [h1]at hv;injection hv with hv;simp only [SC.den]at h1;split at h1
   ·injection h1 with h1;subst hv;simp [execOp,←h1]
   ·cases h1
  ·rename_i f caps hx;intro _ v hv;have h1:=hone (by simp [Op.operands]) hx;simp only [SV.den]at hv;rw [h1]at hv;injection hv with hv;simp only [SC.den]at h1;split at h1
   ·injection h1 with h1;subst hv;simp [execOp,←h1]
   ·cases h1
  ·trivial
 case binOp op t x y yt=>
  split
  ·rename_i sa sb hx hy;have h1:=hone (by simp [Op.operands]) hx;have h2:=hone (by simp [Op.operands]) hy;split
   ·rename_i k hu;intro hneeds v hv;simp only [SV.den,aP,SC.den,h1,h2]at hv
    have:=pQ (P:=P) (w:=w) (t:=t) (xo:=x) (yo:=y) hv oz (by simp) (fun h=>by
     have:(aTv sb).den ρ=some (.bool true):=hneeds _ (by grind)
     simp_all [aNc,SC.den])
     (fun h=>by
       have:(lW (.lit (.int .i64 0)) sb).den ρ=some (.bool true):=hneeds _ (by grind)
       grind [oD,SC.den,aHy])
     (fun _ s u e1 e2=>by rw [e1,e2]at hv;cases hv)
    simp only [execOp,qw]at this ⊢
    simp_all
   ·rename_i hu;intro _ v hv;simp only [SV.den,aP,SC.den,h1,h2]at hv;have:=pQ (P:=P) (w:=w) (t:=t) (xo:=x) (yo:=y) hv oz (fun _=>hu)
     (fun h=>by unfold eL at hv;split at hv <;> first|omega|grind|cases hv)
     (fun h=>by unfold eL at hv;split at hv <;> first|omega|grind|cases hv)
     (fun _ s u e1 e2=>by rw [e1,e2]at hv;cases hv)
    simp only [execOp,qw]at this ⊢
    simp_all
   ·rename_i hu;intro hneeds v hv;simp only [SV.den,aP,SC.den,h1,h2]at hv;have:=pQ (P:=P) (w:=w) (t:=t) (xo:=x) (yo:=y) hv oz (by simp)
     (fun h=>by unfold eL at hv;split at hv <;> first|omega|grind|cases hv)
     (fun h=>by unfold eL at hv;split at hv <;> first|omega|grind|cases hv)
     (fun h s u e1 e2=>by
       subst h;have:(SC.fit sa sb).den ρ=some (.bool true):=hneeds _ (by simp);simp only [SC.den,h1,h2,e1,e2,aTk,jy,zn,decide_eq_true_eq]at this
       omega)
    simp only [execOp,qw]at this ⊢
    simp_all
   ·rename_i k hu;intro hneeds v hv;simp only [SV.den,aP,SC.den,h1,h2]at hv
    have:=aQb (P:=P) (w:=w) (t:=t) (xo:=x) (yo:=y) hv (fun h=>by
     have:(bY 4 op sa sb).den ρ=some (.bool true):=hneeds _ (by grind)
     simp_all [aP,SC.den])
    simp only [execOp,qw]at this ⊢
    simp_all
   ·rename_i k hu;intro hneeds v hv;simp only [SV.den,aP,SC.den,h1,h2]at hv;have:=aQa (P:=P) (w:=w) (t:=t) (xo:=x) (yo:=y) hv;simp only [execOp,qw]at this ⊢
    simp_all
   ·rename_i k hu;intro hneeds v hv;simp only [SV.den,aP,SC.den,h1,h2]at hv;have:=aQc (P:=P) (w:=w) (t:=t) (xo:=x) (yo:=y) hu hv;simp only [execOp,qw]at this ⊢
    simp_all
   ·trivial
  ·rename_i as bs hx hy;split
   ·rename_i n e hu;split
    ·rename_i kk he hz;split
     ·rename_i hn;have h1:=hat (x:=x) (by simp [Op.operands]) (by rw [hx];simp);have h2:=hat (x:=y) (by simp [Op.operands]) (by rw [hy];simp);rw [hx]at h1;rw [hy]at h2;obtain⟨us,hus,e1⟩:=uW h1;obtain⟨vs,hvs,e2⟩:=uW h2;split
      ·rename_i r hr;intro _ v hv;have:=(wG (P:=P) (w:=w) (xo:=x) (yo:=y) hu he hz hn hr hv hus hvs).1;rw [←e1,←e2]at this;simp only [execOp,qw]at this ⊢
       simp_all
      ·rename_i r hr;intro _ v hv;simp only [SV.den,vS,SC.den]at hv;cases hv':r.den ρ with
       | none=>simp_all
       | some v'=>
        rw [hv']at hv;have:=(wG (P:=P) (w:=w) (xo:=x) (yo:=y) hu he hz hn hr hv' hus hvs).2 v hv;rw [←e1,←e2]at this;simp only [execOp,qw]at this ⊢
        simp_all
      ·trivial
     ·trivial
    ·trivial
   ·trivial
  ·trivial
 case unOp op t x=>
  split
  ·rename_i sa e hx;have h1:=hone (by simp [Op.operands]) hx;intro _ v hv;simp only [SV.den,vS,SC.den,h1,Option.bind_some,aDc]at hv;split at hv <;> simp_all [execOp,Op.unary]
  ·rename_i sa e hx;have h1:=hone (by simp [Op.operands]) hx;intro _ v hv;simp only [SV.den,aIf,SC.den,h1,Option.bind_some,aNj]at hv;split at hv <;> simp_all [execOp,Op.unary,Op.intArith]
  ·trivial
 case convert s d x=>
  split
  ·rename_i ks k sa hus hu hx;have h1:=hone (by simp [Op.operands]) hx;intro _ v hv <;> simp_all [SV.den,aP,SC.den,aKk,execOp]
  ·rename_i ks k sa hus hu hx;have h1:=hone (by simp [Op.operands]) hx;intro hneeds v hv;have hn:=hneeds _ (List.mem_singleton.2 rfl);simp only [aP,SC.den,h1]at hn;simp only [SV.den,aP,SC.den,h1]at hv;have:=aKl (P:=P) (w:=w) hus hu hv hn;simp only [execOp,qw,this];rfl
  ·rename_i ks k sa hus hu hx;have h1:=hone (by simp [Op.operands]) hx;intro hneeds v hv;have hn:=hneeds _ (List.mem_singleton.2 rfl);simp only [aP,SC.den,h1]at hn;simp only [SV.den,aP,SC.den,h1]at hv;have:=aKm (P:=P) (w:=w) hus hu hv hn;simp only [execOp,qw,this];rfl
  ·rename_i ds k sa hneg hus hu hx;have h1:=hone (by simp [Op.operands]) hx;intro _ v hv;simp only [SV.den,aCx,SC.den,h1,Option.bind_some,zQ]at hv;split at hv <;> simp_all [convert,Sem.run_bind,aB,Result.andThen,Conv.intToInt,Sem.run_pure,execOp]
  ·rename_i ks k sa hus hu hx;have h1:=hone (by simp [Op.operands]) hx;intro hneeds v hv;have hn:=hneeds _ (List.mem_singleton.2 rfl);simp only [aP,SC.den,h1]at hn;simp only [SV.den,aP,SC.den,h1]at hv;have:=aEa (P:=P) (w:=w) hus hu hv hn;simp only [execOp,qw,this];rfl
  ·trivial
 case makeFunc fn first captured=>
  split
  ·rename_i f hs;split
   ·rename_i ids hc;intro _ v hv;have e1:first=#[]:=ji hs
    subst e1;have:=kN hpub (a:=a) (fun x hx t e=>hk t (by simp_all [Op.operands,Array.mem_toList_iff])) hc;simp only [SV.den,SC.den,this]at hv;injection hv with hv;subst hv;have em:captured.map a.eval=(captured.toList.map a.eval).toArray:=by grind
    grind [execOp,Instr.makeFunc,Sem.run_bind,Sem.run_pure,Result.andThen]
   ·trivial
  ·trivial
 case fieldAddr s x f=>
  split
  ·rename_i b off fields hx hu;have h1:=hone (by simp [Op.operands]) hx;split
   ·rename_i fd hf;split
    ·rename_i m hm;intro _ v hv;simp only [SC.den]at h1;simp only [SV.den,SC.den]at hv;split at h1
     ·rename_i n hn;injection h1 with h1;simp only [hn]at hv;injection hv with hv;subst hv;simp [execOp,←h1,Instr.fieldAt,aB hu,hf,Instr.sureAddr,fieldPlace,aE hm,bK]
     ·cases h1
    ·trivial
   ·trivial
  ·rename_i sa si s' j fields hx hu;have h1:=hone (by simp [Op.operands]) hx;split
   ·rename_i fd hf;split
    ·rename_i m hm;intro _ v hv;simp only [SC.den]at h1;simp only [SV.den,SC.den]at hv;split at h1
     ·rename_i va vi hva hvi;simp only [hva,hvi]at hv;obtain⟨b,o,n,c,k,I,rfl,rfl,h0,hI,e⟩:=dU h1;obtain⟨_,_,_,_,_,_,e1,e2,_,_,rfl⟩:=dU hv
      simp_all [execOp,Instr.fieldAt,aB,Instr.sureAddr,fieldPlace,aE,bK,Nat.add_assoc]
     ·cases h1
    ·trivial
   ·trivial
  ·trivial
 case field t x f=>
  split
  ·rename_i cs fields hx hu;have h1:(SV.agg cs).den ρ=some (a.eval x):=by simp_all [Op.operands]
   simp only [bU,SV.den]at h1;split at h1
   ·rename_i vs hvs;injection h1 with h1;split
    ·rename_i fd hf;split
     ·rename_i sv hsv;intro _ v hv;obtain⟨y,y1,y2⟩:=aBi hE (P:=P) (w:=w) hsv hvs;rw [hv]at y1;injection y1 with y1;subst y1;simp [execOp,←h1,Instr.field,aB hu,hf,asAgg,y2]
     ·trivial
    ·trivial
   ·cases h1
  ·trivial
 case makeInterface t x=>
  split
  ·trivial
  ·rename_i c d hne hx hu;intro _ v hv;have h1:=hone (by simp [Op.operands]) hx
   simp_all [SV.den,iH,execOp,Instr.makeInterface,Sem.run_bind,aB,Result.andThen]
  ·rename_i cs d hne hx hu;intro _ v hv;have h1:(SV.agg cs).den ρ=some (a.eval x):=by simp_all [Op.operands]
   simp_all [SV.den,iH,execOp,Instr.makeInterface,Sem.run_bind,aB,Result.andThen]
  ·trivial
 case buildSlice t len parts=>
  split
  ·rename_i e hu;split
   ·rename_i i size hi hs;split
    ·rename_i z hz;split
     ·rename_i zc hc;split
      ·rename_i hle;split
       ·rename_i out hf;obtain⟨l1,l2⟩:=gB (ρ:=ρ) hc;have hzc:zc=z.cells.toList.map .lit:=xH hc;have hsz:∀j,(zc[j % zc.length]?).getD (.lit (.bool false))=SC.lit ((z.cells.toList[j % z.cells.size]?).getD (.bool false)):=fun j=>by
         rw [hzc];simp only [jb,List.length_map,ja];cases z.cells.toList[j % z.cells.size]? <;> rfl
        have hall:∀u∈(List.range (len*size)).map (fun j=>(z.cells.toList[j % z.cells.size]?).getD (.bool false)),u.scalar=true:=by
         intro u hu;obtain⟨j,_,rfl⟩:=xh.1 hu;cases hj:z.cells.toList[j % z.cells.size]? with
         | none=>rfl
         | some q=>exact l2 q (zh hj)
        have hcl:=iP (ρ:=ρ) _ hall;rw [List.map_map]at hcl;have e0:((List.range (len*size)).map fun i=>(zc[i % zc.length]?).getD (.lit (.bool false)))=(List.range (len*size)).map (SC.lit ∘ fun j=>(z.cells.toList[j % z.cells.size]?).getD (.bool false)):=
         List.map_congr_left fun j _=>hsz j
        rw [e0]at hf
        obtain⟨us,u1,u2⟩:=jM hE (vals:=parts.toList.map fun p=>(p.1,a.eval p.2)) hf hcl (by simp) (fun i p q hp hq=>by
         simp only [jb]at hp hq;cases hg:parts.toList[i]? with
         | none=>rw [hg]at hp;cases hp
         | some r=>
          rw [hg]at hp hq;simp only [je,jy]at hp hq;subst hp hq;refine⟨rfl,fun hne=>hat ?_ hne⟩;simp only [Op.operands,List.mem_toArray,xh]
          exact⟨r,zh hg,rfl⟩)
        refine⟨us,u1,?_⟩;have hzz:(zeroValue e).run P w=.ok z w:=by simp [zeroValue,cI hi,hz]
        have e1:((Array.range (len*size)).map (z.cells[· % z.cells.size]!))=((List.range (len*size)).map fun j=>(z.cells.toList[j % z.cells.size]?).getD (.bool false)).toArray:=by
         have hpos:0<z.cells.size:=by have:=hle.2.2;rw [hzc]at this;simp at this;exact zx (by simpa using this)
         apply zk;simp only [yg,Array.toList_range];refine List.map_congr_left fun j _=>?_;have hlt:=qg j hpos;have hlt':j % z.cells.size<z.cells.toList.length:=by simpa using hlt
         rw [getElem!_pos z.cells _ hlt,qi hlt'];simp
        have e2:(parts.map fun (x:Nat×Operand)=>(x.1,a.eval x.2)).toList=parts.toList.map fun p=>(p.1,a.eval p.2):=by simp
        have e3:¬ (len*size > 2^24):=by have:=hle.1;omega
        simp only [execOp,Instr.buildSlice,qw,aB hu,aE hs,Result.andThen,e3,if_false,oh hle.2.1,hzz,jd,e1,e2,u2,newRow,yE];simp
       ·trivial
      ·trivial
     ·trivial
    ·trivial
   ·trivial
  ·trivial
 case indexAddr t x ix=>
  split
  ·rename_i b off n c k i e hx hix hu;have h1:=hone (by simp [Op.operands]) hx;have h2:=hone (by simp [Op.operands]) hix;simp only [SC.den]at h2;injection h2 with h2;split
   ·rename_i s hs;split
    ·rename_i hr;intro _ v hv;simp only [SC.den]at h1;simp only [SV.den,SC.den]at hv;split at h1
     ·rename_i m hm;injection h1 with h1;simp only [hm]at hv;injection hv with hv;subst hv;simp [execOp,←h1,←h2,Instr.indexAt,asIntOf,aB hu,Instr.sureAddr,aE hs,hr,bK]
     ·cases h1
    ·trivial
   ·trivial
  ·rename_i b off k i n e hx hix hu;have h1:=hone (by simp [Op.operands]) hx;have h2:=hone (by simp [Op.operands]) hix;simp only [SC.den]at h2;injection h2 with h2;split
   ·rename_i s hs;split
    ·rename_i hr;intro _ v hv;simp only [SC.den]at h1;simp only [SV.den,SC.den]at hv;split at h1
     ·rename_i m hm;injection h1 with h1;simp only [hm]at hv;injection hv with hv;subst hv;simp [execOp,←h1,←h2,Instr.indexAt,asIntOf,aB hu,Instr.sureAddr,aE hs,hr,bK]
     ·cases h1
    ·trivial
   ·trivial
  ·rename_i b off si n e _ hx hix hu;have h1:=hone (by simp [Op.operands]) hx;have h2:=hone (by simp [Op.operands]) hix;split
   ·rename_i s hs;intro _ v hv;obtain⟨nn,kk,I,hn,hi,h0,hI,rfl⟩:=lT (by simpa only [SV.den] using hv);rw [h2]at hi;injection hi with hi;simp only [SC.den,hn]at h1;injection h1 with h1;simp [execOp,←h1,hi,Instr.indexAt,asIntOf,aB hu,Instr.sureAddr,aE hs,h0,hI,bK]
   ·trivial
  ·rename_i b off len c si e _ hx hix hu;have h1:=hone (by simp [Op.operands]) hx;have h2:=hone (by simp [Op.operands]) hix;split
   ·rename_i s hs;intro _ v hv;obtain⟨nn,kk,I,hn,hi,h0,hI,rfl⟩:=lT (by simpa only [SV.den] using hv);rw [h2]at hi;injection hi with hi;simp only [SC.den,hn]at h1;injection h1 with h1;simp [execOp,←h1,hi,Instr.indexAt,asIntOf,aB hu,Instr.sureAddr,aE hs,h0,hI,bK]
   ·trivial
  ·rename_i b off len c z sh s' si e hx hix hu;have h1:=hone (by simp [Op.operands]) hx;have h2:=hone (by simp [Op.operands]) hix;split
   ·rename_i s hs;split
    ·rename_i hz;intro hneeds v hv;obtain⟨nn,kk,I,hn,hi,h0,hI,rfl⟩:=lT (by simpa only [SV.den] using hv);rw [h2]at hi;injection hi with hi;have n1:=hneeds (kT si sh) (by simp);rw [hC]at n1;obtain⟨m,k2,i2,e1,e2,q1,q2,e3⟩:=oR hz h1;rw [hn]at e1;injection e1 with e1;subst e1;simp only [SC.den,h2,hi,e2,tJ,jy,zn,decide_eq_true_eq]at n1;have hI2:I<((i2.toNat:Nat):Int):=oq
     generalize i2.toNat=N at e3 hI2;simp [execOp,e3,hi,Instr.indexAt,asIntOf,aB hu,Instr.sureAddr,aE hs,h0,hI2,bK]
    ·trivial
   ·trivial
  ·rename_i sa si e _ _ _ _ hx hix hu;have h1:=hone (by simp [Op.operands]) hx;have h2:=hone (by simp [Op.operands]) hix;split
   ·rename_i s hs;intro _ v hv;simp only [SV.den,SC.den,h1,h2]at hv;obtain⟨b,o,n,c,k,I,e1,e2,h0,hI,rfl⟩:=dU hv;simp [execOp,e1,e2,Instr.indexAt,asIntOf,aB hu,Instr.sureAddr,aE hs,h0,hI,bK]
   ·trivial
  ·rename_i sa si s j k z n e hx hix hu;have h1:=hone (by simp [Op.operands]) hx;have h2:=hone (by simp [Op.operands]) hix;simp only [SC.den]at h2;injection h2 with h2;split
   ·rename_i s' hs;split
    ·rename_i hr;intro _ v hv;simp only [SC.den]at h1;simp only [SV.den,SC.den]at hv;split at h1
     ·rename_i va vi hva hvi;simp only [hva,hvi]at hv;obtain⟨b,o,n',c,k',I,rfl,rfl,h0,hI,e1⟩:=dU h1;obtain⟨b2,o2,n2,c2,k2,I2,e3,e4,_,_,rfl⟩:=dU hv;injection e3 with e3 e5;injection e3 with e3;injection e3 with e3 e6;injection e4 with e4 e7;subst e3 e6 e7;have e8:o+I.toNat*s+(j+z.toNat*s')=o+I.toNat*s+j+z.toNat*s':=oq
      simp [execOp,e1,←h2,Instr.indexAt,asIntOf,aB hu,Instr.sureAddr,aE hs,hr,bK,e8]
     ·cases h1
    ·trivial
   ·trivial
  ·trivial
 case index t x ix=>
  split
  ·rename_i cs k i n e hx hix hu;have h1:(SV.agg cs).den ρ=some (a.eval x):=by rw [←hx];exact hat (by simp [Op.operands]) (by rw [hx];simp)
   have h2:=hone (by simp [Op.operands]) hix;simp only [SC.den]at h2;injection h2 with h2;simp only [bU,SV.den]at h1;split at h1
   ·rename_i vs hvs;injection h1 with h1;split
    ·rename_i s hs;split
     ·rename_i hr;split
      ·rename_i sv hsv;intro _ v hv;obtain⟨y,y1,y2⟩:=aBi hE (P:=P) (w:=w) hsv hvs;rw [hv]at y1;injection y1 with y1;subst y1;simp [execOp,←h1,←h2,Instr.index,asIntOf,aB hu,aE hs,hr,y2]
      ·trivial
     ·trivial
    ·trivial
   ·cases h1
  ·rename_i ss si hx hix hu;have h1:=hone (by simp [Op.operands]) hx;have h2:=hone (by simp [Op.operands]) hix;intro hneeds v hv;have hn:=hneeds _ (qt.2 rfl);rw [hC]at hn;simp only [SC.den,hH,h1,h2,zz]at hn;simp only [SV.den,SC.den,h1,h2,aEw]at hv;split at hv
   ·rename_i s k i e1 e2;injection hv with hv;subst hv;rw [e1,e2]at hn;simp only [oA,tJ,jy,zn,decide_eq_true_eq]at hn;have hlt:i.toNat<s.size:=oq
    have:(Instr.index t (.string s) (.int k i)).run P w=.ok (.int .u8 (s[i.toNat]?.getD 0).toNat) w:=by
     simp [Instr.index,asIntOf,aB hu,hn.1,hlt]
    simp only [execOp,e1,e2,qw,this];rfl
   ·cases hv
  ·rename_i cs si n e _ hx hix hu;have h1:(SV.agg cs).den ρ=some (a.eval x):=by rw [←hx];exact hat (by simp [Op.operands]) (by rw [hx];simp)
   have h2:=hone (by simp [Op.operands]) hix;simp only [bU,SV.den]at h1;split at h1
   ·rename_i vs hvs;injection h1 with h1;split
    ·rename_i s hs;split
     ·rename_i l hl;intro hneeds v hv;have hn:=hneeds _ (qt.2 rfl);rw [hC]at hn;simp only [SC.den,h2]at hn;unfold tJ at hn;split at hn
      ·rename_i kk I kk' N e1 e2;injection e2 with _ e2;subst e2;injection hn with hn;injection hn with hn;have hr:=ow hn;have h0:0≤I:=hr.1;have hI:I<(n:Int):=hr.2;rw [e1]at h2;obtain⟨m,m1,m2,m3,m4⟩:=qL hE hl hvs h2 h0 hI;rw [hv]at m3;injection m3 with m3;subst m3;have y2:(part e vs.toArray (I.toNat*s)).run P w=.ok (.agg (vs.toArray.extract (0+I.toNat*s+0) (0+I.toNat*s+0+m))) w:=by
        simp [part,bI m1,aE m2]
       simp [execOp,←h1,e1,Instr.index,asIntOf,aB hu,aE hs,h0,hI,y2]
      ·cases hn
     ·split
      ·rename_i c hc;intro hneeds v hv;have hn:=hneeds _ (qt.2 rfl);rw [hC]at hn;simp only [SC.den,h2]at hn;unfold tJ at hn;split at hn
       ·rename_i kk I kk' N e1 e2;injection e2 with _ e2;subst e2;injection hn with hn;injection hn with hn;have hr:=ow hn;have h0:0≤I:=hr.1;have hI:I<(n:Int):=hr.2;rw [e1]at h2;obtain⟨x,k,rfl,rfl,g2,_⟩:=sR hc;simp only [SV.den,SC.den,h2]at hv;simp only [aC]at hvs;split at hvs
        ·rename_i us k us' q1 q2 q3;injection q3 with q3;subst q3;split at hvs
         ·injection hvs with hvs;rw [qo]at hvs;subst hvs;simp only [q1]at hv;have hp:=aGz hv;have y2:(part e us (I.toNat*s)).run P w=.ok v w:=by
           simp [part,bI g2,hp]
          simp [execOp,←h1,e1,Instr.index,asIntOf,aB hu,aE hs,h0,hI,y2]
         ·cases hvs
        ·cases hvs
       ·cases hn
      ·trivial
    ·trivial
   ·cases h1
  ·trivial
 case slice t x lo hi mx=>
  split
  ·rename_i ss hx hu;have h1:=hone (by simp [Op.operands]) hx;split
   ·rename_i sl sh hl hh;intro hneeds v hv;have n1:=hneeds (lW (.lit (.int .i64 0)) sl) (by simp);have n2:=hneeds (lW sl sh) (by simp);have n3:=hneeds (lW sh (kU ss)) (by simp);rw [oD]at n1 n2 n3;simp only [SV.den,SC.den]at hv;split at hv
    ·rename_i vs vl vh d1 d2 d3;rw [h1]at d1;injection d1 with d1;unfold aVl at hv;split at hv
     ·rename_i s k1 i1 k2 i2;injection hv with hv;subst hv;simp only [SC.den,hH,d2,d3,h1,d1,zz,oA,leD,jy,zn,decide_eq_true_eq]at n1 n2 n3;have key:∀(lo' hi':Option Value),(match lo' with|some v=>v=.int k1 i1|none=>i1=0)→(match hi' with|some v=>v=.int k2 i2|none=>i2=s.size)→
       (Instr.sliceAt t (.string s) lo' hi' none).run P w=.ok (.string (s.extract i1.toNat i2.toNat)) w:=by
       intro lo' hi' e1 e2;have hh:i2.toNat≤s.size:=oq
       have n3':i2≤(s.size:Int):=n3;have hh2:((i2.toNat:Nat):Int)=i2:=oq
       cases lo' with
       | none=>
        simp only at e1;cases hi' with
        | none=>
         simp only at e2;subst e1;simp [Instr.sliceAt,aB hu,Instr.slice,Instr.sliceBounds,e2]
        | some v=>
         simp only at e2;subst e1 e2;have:(0:Int)≤i2∧i2≤(s.size:Int):=⟨oq,n3'⟩;simp [Instr.sliceAt,aB hu,Instr.slice,Instr.sliceBounds,Instr.sliceBound,asIntOf,this]
       | some u=>
        simp only at e1;subst e1;cases hi' with
        | none=>
         simp only at e2;have:(0:Int)≤i1∧i1≤(s.size:Int):=⟨n1,oq⟩;simp [Instr.sliceAt,aB hu,Instr.slice,Instr.sliceBounds,Instr.sliceBound,asIntOf,this,e2]
        | some v=>
         simp only at e2;subst e2;have h3:(0:Int)≤i2∧i2≤(s.size:Int):=⟨oq,n3'⟩;have h4:(0:Int)≤i1∧i1≤((i2.toNat:Nat):Int):=⟨n1,oq⟩;simp only [Instr.sliceAt,aB hu,Instr.slice,Instr.sliceBounds,Instr.sliceBound,asIntOf,qw,Result.andThen,jd,Option.isSome,xu,if_false,h3,h4,and_self,if_true]
      have hlo:(match lo.map a.eval with|some v=>v=.int k1 i1|none=>i1=0):=by
       cases lo with
       | none=>
        simp only at hl;injection hl with hl;subst hl;simp only [SC.den]at d2;injection d2 with d2;injection d2 with _ d2;exact d2.symm
       | some l=>
        have:=hone (x:=l) (by simp [Op.operands]) hl;rw [d2]at this;injection this with this;exact this.symm
      have hhi:(match hi.map a.eval with|some v=>v=.int k2 i2|none=>i2=s.size):=by
       cases hi with
       | none=>
        simp only at hh;injection hh with hh;subst hh;simp only [hH,SC.den,h1,d1,zz,oA]at d3;injection d3 with d3;injection d3 with _ d3;exact d3.symm
       | some l=>
        have:=hone (x:=l) (by simp [Op.operands]) hh;rw [d3]at this;injection this with this;exact this.symm
      have:=key _ _ hlo hhi;simp only [execOp,d1,Option.map_none,qw,this];rfl
     ·cases hv
    ·cases hv
   ·trivial
  ·rename_i b off n e hx hu;have h1:=hone (by simp [Op.operands]) hx;split
   ·rename_i l s hs;split
    ·rename_i k i hl;have h2:=hone (x:=l) (by simp [Op.operands]) hl;simp only [SC.den]at h2;injection h2 with h2;split
     ·rename_i hr;intro _ v hv;simp only [SC.den]at h1;simp only [SV.den,SC.den]at hv;split at h1
      ·rename_i m hm;injection h1 with h1;simp only [hm]at hv;injection hv with hv;subst hv;have hmi:¬ (n=i.toNat):=oq
       have hle:i≤(n:Int):=oq
       simp [execOp,←h1,←h2,Instr.sliceAt,Instr.sliceBounds,Instr.sliceBound,asIntOf,aB hu,Instr.sureAddr,aE hs,hr,hmi,hle,bK]
      ·cases h1
     ·trivial
    ·trivial
   ·rename_i l s hs;split
    ·rename_i sh hh;have h2:=hone (x:=l) (by simp [Op.operands]) hh;intro _ v hv;obtain⟨m,k2,i2,e1,e2,q1,q2,rfl⟩:=oR rfl (by simpa only [SV.den] using hv);rw [h2]at e2;injection e2 with e2;simp only [SC.den,e1]at h1;injection h1 with h1;have hle:(0:Int)≤i2∧i2≤(n:Int):=⟨q1,q2⟩;simp [execOp,←h1,e2,Instr.sliceAt,Instr.sliceBounds,Instr.sliceBound,asIntOf,aB hu,Instr.sureAddr,aE hs,hle,bK]
    ·trivial
   ·trivial
  ·rename_i ss e hx hu;have h1:=hone (by simp [Op.operands]) hx;split
   ·rename_i sl sh s hl hh hsz;split
    ·trivial
    intro _ v hv;simp only [SV.den,aIh,SC.den]at hv;split at hv
    ·rename_i vs vl vh d1 d2 d3;rw [h1]at d1;injection d1 with d1;obtain⟨A,n,c,k1,i1,k2,i2,e1,rfl,rfl,n1,n2,n3,rfl⟩:=sE hv;rw [e1]at d1;have key:∀(lo' hi':Option Value),(match lo' with|some v=>v=.int k1 i1|none=>i1=0)→(match hi' with|some v=>v=.int k2 i2|none=>i2=n)→
      (Instr.sliceAt t (.slice A n c) lo' hi' none).run P w=.ok (.slice (if c=i1.toNat then A else A.map fun a=>a.add (i1.toNat*s)) (i2.toNat-i1.toNat) (c-i1.toNat)) w:=by
      intro lo' hi' e1 e2;have h3:(0:Int)≤i2∧i2≤(c:Int):=⟨oq,n3⟩;have h4:(0:Int)≤i1∧i1≤((i2.toNat:Nat):Int):=⟨n1,oq⟩;cases lo' with
      | none=>
       simp only at e1;cases hi' with
       | none=>
        simp only at e2;subst e1;have e3:i2.toNat=n:=oq
        simp only [Instr.sliceAt,aB hu,Instr.slice,Instr.sliceBounds,aE hsz,qw,Result.andThen,jd,e3];rfl
       | some v=>
        simp only at e2;subst e1 e2;simp only [Instr.sliceAt,aB hu,Instr.slice,Instr.sliceBounds,Instr.sliceBound,asIntOf,aE hsz,qw,Result.andThen,jd,h3,and_self,if_true];rfl
      | some u=>
       simp only at e1;subst e1;cases hi' with
       | none=>
        simp only at e2;subst e2;have h5:(0:Int)≤i1∧i1≤(n:Int):=⟨n1,n2⟩;simp only [Instr.sliceAt,aB hu,Instr.slice,Instr.sliceBounds,Instr.sliceBound,asIntOf,aE hsz,qw,Result.andThen,jd,h5,and_self,if_true];rfl
       | some v=>
        simp only at e2;subst e2;simp only [Instr.sliceAt,aB hu,Instr.slice,Instr.sliceBounds,Instr.sliceBound,asIntOf,aE hsz,qw,Result.andThen,jd,Option.isSome,xu,if_false,h3,h4,and_self,if_true]
     have hlo:(match lo.map a.eval with|some v=>v=.int k1 i1|none=>i1=0):=by
      cases lo with
      | none=>
       simp only at hl;injection hl with hl;subst hl;simp only [SC.den]at d2;injection d2 with d2;injection d2 with _ d2;exact d2.symm
      | some l=>
       have:=hone (x:=l) (by simp [Op.operands]) hl;rw [d2]at this;injection this with this;exact this.symm
     have hhi:(match hi.map a.eval with|some v=>v=.int k2 i2|none=>i2=n):=by
      cases hi with
      | none=>
       simp only at hh;injection hh with hh;subst hh;simp only [hH,SC.den,h1,d1,zz,oA]at d3;injection d3 with d3;injection d3 with _ d3;exact d3.symm
      | some l=>
       have:=hone (x:=l) (by simp [Op.operands]) hh;rw [d3]at this;injection this with this;exact this.symm
     have:=key _ _ hlo hhi;simp only [execOp,d1,Option.map_none,qw,this];rfl
    ·cases hv
   ·trivial
  ·trivial
 case extract x i=>
  split
  ·rename_i vs hx;have h1:(SV.tup vs).den ρ=some (a.eval x):=by rw [←hx];exact hat (by simp [Op.operands]) (by rw [hx];simp)
   simp only [SV.den]at h1;split at h1
   ·rename_i us hus;injection h1 with h1;have hg:=nB hus;split
    ·rename_i cs hi;intro _ v hv;obtain⟨y,y1,y2⟩:=hg i _ hi;simp only [bU,iH]at y2;simp only [bU,SV.den]at hv;rw [hv]at y2;injection y2 with y2;subst y2;simp [execOp,←h1,Instr.extract,y1]
    ·rename_i c hi;intro _ v hv;obtain⟨y,y1,y2⟩:=hg i _ hi;simp only [iH]at y2;simp only [SV.den]at hv;rw [hv]at y2;injection y2 with y2;subst y2;simp [execOp,←h1,Instr.extract,y1]
    ·trivial
   ·cases h1
  ·trivial
 case call c=>
  obtain⟨callee,args,argTypes⟩:=c;simp only;cases callee with
  | invoke r name=>
   simp only;split
   ·rename_i t ag cs hr;have h1:(SV.ifc t ag cs).den ρ=some (a.eval r):=by rw [←hr];exact hat (by simp [Op.operands,Call.operands]) (by rw [hr];simp)
    simp only [SV.den]at h1;split at h1
    ·rename_i rv hrv;injection h1 with h1;have hargs:∀ws,argsD ρ (args.toList.map (opnd tm))=some ws→ws=args.toList.map a.eval:=fun ws h=>jL (a:=a) (fun x hx t e=>hk t (by subst e;simp [Op.operands,Call.operands,←Array.mem_toList_iff];exact .inr hx)) h;have hcall:∀g sv,rY P t name=some g→sv.den ρ=some rv→aLa P ρ a w hp { dst,op:=.call { callee:=.invoke r name,args,argTypes },type,pos,after,guard } (lX P g (sv :: args.toList.map (opnd tm))):=by
      intro g sv hm hsv;unfold lX;split
      ·rename_i fn hfn;rw [jN]at hfn;split
       ·rename_i hok;intro vs hvs;simp only [argsD,hsv]at hvs;split at hvs
        ·rename_i g0 g2' g1 g2;injection hvs with hvs;subst hvs;injection g1 with g1;subst g1;have hus:=hargs _ g2;subst hus;simp only [qf,bne_iff_ne,ne_eq,Option.isSome_iff_ne_none]at hok;have hb:fn.body.isNone=false:=by
          cases hbb:fn.body with
          | none=>exact absurd hbb hok.2
          | some c=>rfl
         have hnm : (fn.name == "runtime.NumGoroutine") = false := by simpa using hok.1
         have hmm:=aEb (P:=P) (w:=w) (v:=rv) hm;have ex:(#[Value.iface t rv]++args.map a.eval).extract 1 (#[Value.iface t rv]++args.map a.eval).size=args.map a.eval:=by
          apply zk;simp only [Array.toList_extract,zd,xj,Array.size_append];simp;exact wm (by simp)
         have e0:(#[Value.iface t rv]++args.map a.eval)[0]?=some (Value.iface t rv):=by rw [vo (by simp)];rfl
         simp only [execOp,resolve,←h1,qw,jd,Result.andThen,invoke,e0,ex,callMethod,run_program,hmm,callFunc,hfn,hnm,hb,xu,if_false]
         congr 2
         apply zk;simp
        ·cases hvs
       ·trivial
      ·trivial
     split
     ·refine hcall _ (.agg _) ‹_› ?_;simp only [iH]at hrv;simp only [SV.den];exact hrv
     ·rename_i g c hm;exact hcall g (.one c) hm (by simpa only [iH,SV.den] using hrv)
     ·trivial
    ·cases h1
   ·trivial
  | builtin b=>
   cases b <;> simp only <;> try trivial
   case max=>
    split
    ·rename_i x y hxy;split
     ·rename_i sx sy hx hy;intro _ v hv;have hm:∀z∈[x,y],z∈(Op.call { callee:=.builtin .max,args:=args,argTypes:=argTypes }).operands:=fun z hz=>by
       simp only [Op.operands,Call.operands,wh,←jz,hxy];simpa using hz
      have h1:=hone (hm x (by simp)) hx;have h2:=hone (hm y (by simp)) hy;have ea:args=#[x,y]:=by apply zk;exact hxy
      subst ea;obtain⟨k,i,j,e1,e2,rfl⟩:=aMw hv h1 h2;simp only [execOp,resolve,invoke,builtin,Builtin.max_,qw,jd,Result.andThen,vm,zr,xg,e1,e2,List.foldlM_cons,List.foldlM_nil,Builtin.max2]
     ·trivial
    ·trivial
   case min=>
    split
    ·rename_i x y hxy;split
     ·rename_i sx sy hx hy;intro _ v hv;have hm:∀z∈[x,y],z∈(Op.call { callee:=.builtin .min,args:=args,argTypes:=argTypes }).operands:=fun z hz=>by
       simp only [Op.operands,Call.operands,wh,←jz,hxy];simpa using hz
      have h1:=hone (hm x (by simp)) hx;have h2:=hone (hm y (by simp)) hy;have ea:args=#[x,y]:=by apply zk;exact hxy
      subst ea;obtain⟨k,i,j,e1,e2,rfl⟩:=aIc hv h1 h2;simp only [execOp,resolve,invoke,builtin,Builtin.min_,qw,jd,Result.andThen,vm,zr,xg,e1,e2,List.foldlM_cons,List.foldlM_nil,Builtin.min2]
     ·trivial
    ·trivial
   case complex=>
    split
    ·rename_i x y hxy;split
     ·rename_i sx sy hx hy;intro _ v hv;have hm:∀z∈[x,y],z∈(Op.call { callee:=.builtin .complex,args:=args,argTypes:=argTypes }).operands:=fun z hz=>by
       simp only [Op.operands,Call.operands,wh,←jz,hxy];simpa using hz
      have h1:=hone (hm x (by simp)) hx;have h2:=hone (hm y (by simp)) hy;have ea:args=#[x,y]:=by apply zk;exact hxy
      subst ea;simp only [SV.den,aP,SC.den,h1,h2]at hv;obtain⟨k,i,j,e1,e2,rfl⟩:=aXx hv;simp only [execOp,resolve,invoke,builtin,vm,zr,xg,e1,e2,zO,qw,jd,Result.andThen]
     ·trivial
    ·trivial
   case real=>
    split
    ·rename_i x hxy;split
     ·rename_i sx hx;intro _ v hv;have h1:=hone (by simp [Op.operands,Call.operands,←Array.mem_toList_iff,hxy]) hx;have ea:args=#[x]:=by apply zk;exact hxy
      subst ea;simp only [SV.den,aP,SC.den,h1]at hv;obtain⟨k,i,j,e1,rfl⟩:=bAs hv;simp only [execOp,resolve,invoke,builtin,vm,zr,xg,e1,aPq,qw,jd,Result.andThen]
     ·trivial
    ·trivial
   case imag=>
    split
    ·rename_i x hxy;split
     ·rename_i sx hx;intro _ v hv;have h1:=hone (by simp [Op.operands,Call.operands,←Array.mem_toList_iff,hxy]) hx;have ea:args=#[x]:=by apply zk;exact hxy
      subst ea;simp only [SV.den,aP,SC.den,h1]at hv;obtain⟨k,i,j,e1,rfl⟩:=bAm hv;simp only [execOp,resolve,invoke,builtin,vm,zr,xg,e1,aMp,qw,jd,Result.andThen]
     ·trivial
    ·trivial
   split
   ·rename_i x tx hx htx;split
    ·rename_i b o n c e hs hu;have h1:=hone (by simp [Op.operands,Call.operands,←Array.mem_toList_iff,hx]) hs;intro hneeds v hv;have ea:args=#[x]:=by apply zk;exact hx
     have et:argTypes=#[tx]:=by apply zk;exact htx
     subst ea et;simp only [SC.den]at h1;split at h1
     ·injection h1 with h1;simp only [SV.den,SC.den]at hv;injection hv with hv;subst hv;simp [execOp,resolve,invoke,builtin,Builtin.len_,←h1,aB hu,goInt]
     ·cases h1
    ·rename_i b off len c z sh s' e hs hu;have h1:=hone (by simp [Op.operands,Call.operands,←Array.mem_toList_iff,hx]) hs;split
     ·rename_i hz;intro hneeds v hv;have hn:=hneeds _ (qt.2 rfl);have ea:args=#[x]:=by apply zk;exact hx
      have et:argTypes=#[tx]:=by apply zk;exact htx
      subst ea et;obtain⟨m,k2,i2,e1,e2,q1,q2,e3⟩:=oR hz h1;rw [aP]at hn;simp only [SV.den]at hv;rw [e2]at hv;injection hv with hv;subst hv;have hk:k2=.i64:=by
       simp only [SC.den,e2]at hn;cases k2 <;> first|rfl|(exfalso;revert hn;simp [eL])
      subst hk;have:((i2.toNat:Nat):Int)=i2:=oq
      simp [execOp,resolve,invoke,builtin,Builtin.len_,e3,aB hu,goInt,this]
     ·trivial
    ·rename_i sx hs hu;have h1:=hone (by simp [Op.operands,Call.operands,←Array.mem_toList_iff,hx]) hs;intro hneeds v hv;have hn:=hneeds _ (List.mem_singleton.2 rfl);have ea:args=#[x]:=by apply zk;exact hx
     have et:argTypes=#[tx]:=by apply zk;exact htx
     subst ea et;simp only [SV.den,hH,SC.den,h1,zz,oA]at hv;split at hv
     ·rename_i A n c e;simp [SC.den,h1,e,aAi]at hn
     ·rename_i s e;injection hv with hv;subst hv;simp [execOp,resolve,invoke,builtin,Builtin.len_,e,aB hu,goInt]
     ·cases hv
    ·rename_i sx e hs hu;have h1:=hone (by simp [Op.operands,Call.operands,←Array.mem_toList_iff,hx]) hs;intro hneeds v hv;have hn:=hneeds _ (List.mem_singleton.2 rfl);have ea:args=#[x]:=by apply zk;exact hx
     have et:argTypes=#[tx]:=by apply zk;exact htx
     subst ea et;simp only [SC.den,h1,zz]at hn;simp only [SV.den,hH,SC.den,h1,zz,oA]at hv;split at hv
     ·rename_i A n c e;injection hv with hv;subst hv;simp [execOp,resolve,invoke,builtin,Builtin.len_,e,aB hu,goInt]
     ·rename_i s e;simp [e,aAi]at hn
     ·cases hv
    ·trivial
   ·trivial
  | value f=>
   simp only;split
   ·rename_i g caps hf;have h1:=hone (x:=f) (by simp [Op.operands,Call.operands]) hf;split
    ·rename_i c hx;intro _ v hv;obtain⟨fn,sa,rfl,hargs,hfn,hb,ho,hxs⟩:=aFc hx;obtain⟨y,hy⟩:∃y,args.toList=[y]:=by
      cases hl:args.toList with
      | nil=>rw [hl]at hargs;simp at hargs
      | cons y ys=>cases ys with
       | nil=>exact⟨y,rfl⟩
       | cons z zs=>
        rw [hl]at hargs;have:=congrArg List.length hargs;simp at this
     rw [hy]at hargs;simp only [zr,xg,List.cons.injEq,and_true]at hargs;have hy1:=hone (x:=y) (by simp [Op.operands,Call.operands,←Array.mem_toList_iff,hy]) hargs;have hrun:=aTj (P:=P) (w:=w) hfn hb ho hxs hy1 hv;simp only [SC.den,kJ]at h1;injection h1 with h1;have ea:args=#[y]:=by apply zk;exact hy
     subst ea;simp only [execOp,resolve,Deferred.ofValue,←h1,qw,jd,Result.andThen,invoke];have e3:(#[]++Array.map a.eval #[y]++#[]:Array Value)=#[a.eval y]:=by simp
     rw [e3];exact hrun
    ·unfold lX;split
     ·rename_i fn hfn;rw [jN]at hfn;split
      ·rename_i hok;intro vs hvs;obtain⟨us,ws,a1,a2,rfl⟩:=nL hvs;simp only [SC.den]at h1;split at h1
       ·rename_i cs hcs;injection h1 with h1;have:=sK a2 hcs;subst this;have hus:=jL (a:=a) (fun x hx t e=>hk t (by subst e;simp [Op.operands,Call.operands,←Array.mem_toList_iff];exact .inr hx)) a1;subst hus;simp only [Bool.and_eq_true,bne_iff_ne,ne_eq,Option.isSome_iff_ne_none]at hok;have hb:fn.body.isNone=false:=by
         cases hbb:fn.body with
         | none=>exact absurd hbb hok.2
         | some c=>rfl
        have hnm : (fn.name == "runtime.NumGoroutine") = false := by simpa using hok.1
        simp only [execOp,resolve,Deferred.ofValue,←h1,qw,jd,Result.andThen,invoke,callFunc,run_program,hfn,hnm,hb,xu,if_false]
        congr 2
        apply zk;simp
       ·cases h1
      ·trivial
     ·trivial
   ·trivial
def simple:SV→Bool
 | .one (.var _)=>true
 | .one (.lit _)=>true
 | .one (.ptr _ _)=>true
 | .one (.fn _ _)=>true
 | .one (.fnb _ _ _)=>true
 | .one (.slr _)=>true
 | .one (.psl _ _ _ _)=>true
 | .agg cs=>cs.all fun c=>!c.isRun
 | .tup _=>true
 | .one (.sl _ _ _ _)=>true
 | .ifc _ _ _=>true
 | .one (.elem (.sl _ _ _ _) _ _ _)=>true
 | .one (.slc (.sl _ _ _ _) (.lit (.int .u8 _)) _ _)=>true
 | _=>false
theorem bP {cl:Nat}{op:BinOp}{x y:SC}(h:simple (.one (bY cl op x y))=true):∃z,(SV.one (bY cl op x y)).den ρ=some z:=by
 unfold bY at h ⊢;split at h
 ·split at h
  ·exact⟨_,rfl⟩
  ·cases h
 ·cases h
theorem qW {a l h:SC}{s:Nat}(hmk:¬ aCs l=true) (hs:simple (.one (.slc a l h s))=true):False:=by
 unfold simple at hs;split at hs
 all_goals first|(rename_i he;cases he;done)|(done)|(rename_i he;injection he with he;injection he with he1 he2;subst he2;exact hmk rfl)|cases hs
theorem aEg {a l h:SC}{s:Nat}(ha:∃x,(SV.one a).den ρ=some x) (hmk:¬ aCs l=true) (hs:simple (.one (vU a l h s))=true):∃z,(SV.one (vU a l h s)).den ρ=some z:=by
 unfold vU at hs ⊢;split
 ·split
  ·obtain⟨x,hx⟩:=ha;simp only [SV.den,SC.den]at hx ⊢ <;> grind
  ·grind [qW]
 grind [qW]
theorem aKq {as bs:List SC}{r:SC}(h:gA as bs=some r) (hs:simple (.one r)=true):∃z,(SV.one r).den ρ=some z:=by
 unfold gA at h;split at h
 ·injection h with h;subst h;exact⟨_,rfl⟩
 ·split at h
  ·obtain⟨r',_,rfl⟩:=vr.1 h;cases hs
  ·cases h
 ·cases h
theorem aEf {as bs:List SC}{r:SC}(h:gA as bs=some r) (hs:simple (.one (tL r))=true):∃z,(SV.one (tL r)).den ρ=some z:=by
 unfold gA at h;split at h
 ·injection h with h;subst h;exact⟨_,rfl⟩
 ·split at h
  ·obtain⟨r',_,rfl⟩:=vr.1 h;cases hs
  ·cases h
 ·cases h
theorem xW {b n o:Nat}(h:ρ.blk b=some n):∃x,(SV.one (.ptr b o)).den ρ=some x:=⟨.pointer (some ⟨n,o,none⟩),by grind [SV.den,SC.den]⟩
theorem vZ (hE:ρ.Ok) {t:TypeId}{cs:List SC}{off:Nat}{sv:SV}{vs:List Value}(h:oI P t cs off=some sv) (hv:aC ρ cs=some vs):∃x,sv.den ρ=some x:=by
 rcases nA hE h hv with ⟨m,_,_,_,h4⟩|⟨m,v,_,_,_,h4⟩ <;> exact⟨_,h4⟩
theorem lF {b off n c s j:Nat}{i:SC}{y:Value}(hb:∃x,(SC.sl b off n c).den ρ=some x) (hi:i.den ρ=some y) (hr:(kT i (.lit (.int .i64 n))).den ρ=some (.bool true)):∃p,(SV.one (.elem (.sl b off n c) i s j)).den ρ=some p:=by
 rw [hC]at hr;simp only [SC.den,hi]at hr;cases y with
 | int kk I=>
  simp only [tJ,jy,zn,decide_eq_true_eq]at hr;have h0:0≤I:=hr.1;have hI:I<(n:Int):=hr.2;obtain⟨x,hx⟩:=hb;simp only [SC.den]at hx;split at hx
  ·rename_i nn hn;exact⟨.pointer (some ⟨nn,off+I.toNat*s+j,none⟩),by simp only [SV.den,SC.den,hn,hi,kG,h0,hI,and_self,if_true]⟩
  ·cases hx
 | _=>cases hr
theorem sZ {a i:SC}{s j:Nat}(j':Nat) {v:Value}(h:(SC.elem a i s j).den ρ=some v):∃p,(SV.one (.elem a i s j')).den ρ=some p:=by
 simp only [SC.den]at h;split at h
 ·rename_i x y hx hy;obtain⟨b,o,n,c,k,I,rfl,rfl,h0,h1,rfl⟩:=dU h;exact⟨.pointer (some ⟨b,o+I.toNat*s+j',none⟩),by simp only [SV.den,SC.den,hx,hy,kG,h0,h1,and_self,if_true]⟩
 ·cases h
theorem rB {o:Oper}(hE:ρ.Ok) (hpub:PubOk ρ hp) (hk:Knows1 ρ tm a o) {v:SV}{needs:List SC}(h:bD P tm hp o=.pure v needs) (hn:∀c∈needs,c.den ρ=some (.bool true)) (hs:simple v=true):∃x,v.den ρ=some x:=by
 obtain⟨dst,op,type,pos,after,guard⟩:=o;have hat:∀ {x:Operand},x∈op.operands→opnd tm x≠.top→(opnd tm x).den ρ=some (a.eval x):=fun hm hx=>hk.at hm hx;have hone:∀ {x:Operand}{c:SC},x∈op.operands→opnd tm x=.one c→c.den ρ=some (a.eval x):=fun hm hx=>aNo hx (hat hm (by rw [hx];simp));have hsv:∀ {x:Operand},x∈op.operands→simple (opnd tm x)=true→∃y,(opnd tm x).den ρ=some y:=fun {x} hm hx=>⟨_,hat hm (by intro e;rw [e]at hx;cases hx)⟩;unfold bD at h;cases op <;> simp only at h
 case move x=>simp_all [Op.operands]
 case assign x=>simp_all [Op.operands]
 case pick c x y=>
  split at h
  ·rename_i sc sx sy hc hx hy;injection h with h1 h2;subst h1;unfold gM at hs ⊢;split at hs
   ·grind [Op.operands]
   ·cases hs
  ·cases h
 case alloc=>repeat' split at h
             all_goals cases h
 case box=>repeat' split at h
           all_goals cases h
 case build t parts=>
  split at h
  ·rename_i i place hi hpl;split at h
   ·rename_i z hz;split at h
    ·rename_i cs hc;split at h
     ·rename_i out hf;injection h with h1 h2;subst h1;obtain⟨l1,_⟩:=gB (ρ:=ρ) hc
      obtain⟨us,u1,u2⟩:=jM hE (vals:=parts.toList.map fun p=>(p.1,a.eval p.2)) hf l1 (by simp) (fun i p q hp hq=>by
       simp only [jb]at hp hq;cases hg:parts.toList[i]? with
       | none=>rw [hg]at hp;cases hp
       | some r=>
        rw [hg]at hp hq;simp only [je,jy]at hp hq;subst hp hq;refine⟨rfl,fun hne=>hat ?_ hne⟩;simp only [Op.operands,List.mem_toArray,xh]
        exact⟨r,zh hg,rfl⟩)
      exact⟨.agg us.toArray,by simp only [SV.den,bU,u1]⟩
     ·cases h
    ·cases h
   ·cases h
  ·cases h
 case load=>repeat' split at h
            all_goals cases h
 case store=>repeat' split at h
             all_goals cases h
 case nilCheck x=>
  split at h
  ·rename_i b off hx;injection h with h1 h2;subst h1;exact⟨_,hone (x:=x) (by simp [Op.operands]) hx⟩
  ·rename_i f caps hx;injection h with h1 h2;subst h1;exact⟨_,hone (x:=x) (by simp [Op.operands]) hx⟩
  ·cases h
 case binOp op t x y yt=>
  split at h
  ·split at h
   ·injection h with h1 h2;subst h1;exact bP hs
   ·injection h with h1 h2;subst h1;exact bP hs
   ·injection h with h1 h2;subst h1;exact bP hs
   ·injection h with h1 h2;subst h1;exact bP hs
   ·injection h with h1 h2;subst h1;exact bP hs
   ·injection h with h1 h2;subst h1;exact bP hs
   ·cases h
  ·split at h
   ·split at h
    ·split at h
     ·split at h
      ·rename_i r hr;injection h with h1 h2;subst h1;exact aKq hr hs
      ·rename_i r hr;injection h with h1 h2;subst h1;exact aEf hr hs
      ·cases h
     ·cases h
    ·cases h
   ·cases h
  ·cases h
 case unOp op t x=>
  split at h
  ·injection h with h1 h2;subst h1;unfold tL at hs ⊢;split at hs
   ·split at hs
    ·exact⟨_,rfl⟩
    ·cases hs
   ·cases hs
   ·cases hs
  ·injection h with h1 h2;subst h1;unfold aFm at hs ⊢;split at hs
   ·split at hs
    ·exact⟨_,rfl⟩
    ·cases hs
   ·cases hs
  ·cases h
 case convert s d x=>
  split at h
  ·injection h with h1 h2;subst h1;exact bP hs
  ·injection h with h1 h2;subst h1;exact bP hs
  ·injection h with h1 h2;subst h1;exact bP hs
  ·injection h with h1 h2;subst h1;unfold xL at hs ⊢;split at hs
   ·split at hs
    ·exact⟨_,rfl⟩
    ·cases hs
   ·cases hs
  ·injection h with h1 h2;subst h1;exact bP hs
  ·cases h
 case makeFunc fn first captured=>
  split at h
  ·rename_i f _;split at h
   ·rename_i ids hc;injection h with h1 h2;subst h1;have:=kN hpub (a:=a) (fun x hx t e=>hk t (by subst e;simp [Op.operands,←Array.mem_toList_iff];exact .inr (by simpa using hx))) hc;exact⟨.func (.func f) #[] (captured.toList.map a.eval).toArray,by simp only [SV.den,SC.den,this]⟩
   ·cases h
  ·cases h
 case fieldAddr s x f=>
  split at h
  ·rename_i b off fields hx hu;have h1:=hone (x:=x) (by simp [Op.operands]) hx;split at h
   ·split at h
    ·injection h with e1 e2;subst e1;simp only [SC.den]at h1;split at h1
     ·rename_i n hn;exact xW hn
     ·cases h1
    ·cases h
   ·cases h
  ·rename_i sa si s' j fields hx hu;have h1:=hone (x:=x) (by simp [Op.operands]) hx;split at h
   ·split at h
    ·injection h with e1 e2;subst e1;exact sZ _ h1
    ·cases h
   ·cases h
  ·cases h
 case field t x f=>
  split at h
  ·rename_i cs fields hx hu;have h1:(SV.agg cs).den ρ=some (a.eval x):=by rw [←hx];exact hat (by simp [Op.operands]) (by rw [hx];simp)
   simp only [bU,SV.den]at h1;split at h1
   ·rename_i vs hvs;split at h
    ·split at h
     ·rename_i sv hsv;injection h with e1 e2;subst e1;exact vZ hE hsv hvs
     ·cases h
    ·cases h
   ·cases h1
  ·cases h
 case makeInterface t x=>
  split at h
  ·cases h
  ·rename_i c d hne hx hu;injection h with e1 e2;subst e1;exact⟨.iface t (a.eval x),by simp only [SV.den,iH,hone (x:=x) (by simp [Op.operands]) hx]⟩
  ·rename_i cs d hne hx hu;injection h with e1 e2;subst e1;have h1:(SV.agg cs).den ρ=some (a.eval x):=by rw [←hx];exact hat (by simp [Op.operands]) (by rw [hx];simp)
   simp only [SV.den]at h1;exact⟨.iface t (a.eval x),by simp only [SV.den,iH,h1]⟩
  ·cases h
 case buildSlice=>repeat' split at h
                  all_goals cases h
 case indexAddr t x ix=>
  split at h
  ·rename_i b off n c k i e hx hix hu;have h1:=hone (x:=x) (by simp [Op.operands]) hx;split at h
   ·split at h
    ·injection h with e1 e2;subst e1;simp only [SC.den]at h1;split at h1
     ·rename_i n hn;exact xW hn
     ·cases h1
    ·cases h
   ·cases h
  ·rename_i b off k i n e hx hix hu;have h1:=hone (x:=x) (by simp [Op.operands]) hx;split at h
   ·split at h
    ·injection h with e1 e2;subst e1;simp only [SC.den]at h1;split at h1
     ·rename_i n hn;exact xW hn
     ·cases h1
    ·cases h
   ·cases h
  ·rename_i b off si n e _ hx hix hu;have h1:=hone (x:=x) (by simp [Op.operands]) hx;split at h
   ·injection h with e1 e2;subst e1 e2;simp only [SC.den]at h1;split at h1
    ·rename_i nn hb;exact lF ⟨.slice (some ⟨nn,off,none⟩) n n,by simp only [SC.den,hb]⟩ (hone (x:=ix) (by simp [Op.operands]) hix) (hn _ (qt.2 rfl))
    ·cases h1
   ·cases h
  ·rename_i b off len c si e _ hx hix hu;split at h
   ·injection h with e1 e2;subst e1 e2;exact lF ⟨_,hone (x:=x) (by simp [Op.operands]) hx⟩ (hone (x:=ix) (by simp [Op.operands]) hix) (hn _ (qt.2 rfl))
   ·cases h
  ·rename_i b off len c z sh s' si e hx hix hu;have h1:=hone (x:=x) (by simp [Op.operands]) hx;have h2:=hone (x:=ix) (by simp [Op.operands]) hix;split at h
   ·split at h
    ·rename_i hz;injection h with e1 e2;subst e1 e2;obtain⟨m,k2,i2,e1,e2,q1,q2,e3⟩:=oR hz h1;refine lF ⟨_,by simp only [SC.den,e1];rfl⟩ h2 ?_;have n1:=hn (kT si sh) (by simp);have n2:=hn (lW sh (.lit (.int .i64 len))) (by simp);rw [hC]at n1 ⊢;rw [oD]at n2;simp only [SC.den,e2,leD,jy,zn,decide_eq_true_eq]at n2;simp only [SC.den,h2,e2]at n1 ⊢;unfold tJ at n1 ⊢;split at n1
     ·rename_i k3 i3 k4 i4 g1 g2;injection g2 with _ g2;subst g2;simp only [jy,zn,decide_eq_true_eq]at n1 ⊢;rw [g1];simp only [jy,zn,decide_eq_true_eq];omega
     ·cases n1
    ·cases h
   ·cases h
  ·rename_i sa si e _ hne _ hx hix hu;split at h
   ·injection h with e1 e2;subst e1;cases sa with
    | sl b off n c=>exact (hne _ _ _ _ rfl).elim
    | _=>cases hs
   ·cases h
  ·rename_i sa si s j k z n e hx hix hu;have h1:=hone (x:=x) (by simp [Op.operands]) hx;split at h
   ·split at h
    ·injection h with e1 e2;subst e1;exact sZ _ h1
    ·cases h
   ·cases h
  ·cases h
 case index t x ix=>
  split at h
  ·rename_i cs k i n e hx hix hu;have h1:(SV.agg cs).den ρ=some (a.eval x):=by rw [←hx];exact hat (by simp [Op.operands]) (by rw [hx];simp)
   simp only [bU,SV.den]at h1;split at h1
   ·rename_i vs hvs;split at h
    ·split at h
     ·split at h
      ·rename_i sv hsv;injection h with e1 e2;subst e1;exact vZ hE hsv hvs
      ·cases h
     ·cases h
    ·cases h
   ·cases h1
  ·injection h with e1 e2;subst e1;cases hs
  ·split at h
   ·split at h
    ·rename_i l hl;injection h with e1 e2;subst e1;unfold tS at hl;split at hl
     ·split at hl
      ·injection hl with hl;subst hl;cases hs
      ·cases hl
     ·split at hl
      ·injection hl with hl;subst hl;cases hs
      ·cases hl
     ·cases hl
    ·split at h
     ·rename_i c hc;injection h with e1 e2;subst e1;obtain⟨x,k,rfl,rfl,_⟩:=sR hc;cases hs
     ·cases h
   ·cases h
  ·cases h
 case slice t x lo hi mx=>
  split at h
  ·split at h
   ·injection h with e1 e2;subst e1;cases hs
   ·cases h
  ·rename_i b off n e hx hu;have h1:=hone (x:=x) (by simp [Op.operands]) hx;split at h
   ·split at h
    ·split at h
     ·injection h with e1 e2;subst e1;simp only [SC.den]at h1;split at h1
      ·rename_i m hm;exact⟨_,by simp only [SV.den,SC.den,hm];rfl⟩
      ·cases h1
     ·cases h
    ·cases h
   ·rename_i l s hs';split at h
    ·rename_i sh hh;injection h with e1 e2;subst e1 e2;have n1:=hn (lW (.lit (.int .i64 0)) sh) (by simp);have n2:=hn (lW sh (.lit (.int .i64 n))) (by simp);rw [oD]at n1 n2;have h2:=hone (x:=l) (by simp [Op.operands]) hh;simp only [SC.den]at h1;split at h1
     ·rename_i m hm;simp only [SC.den,h2]at n1 n2;unfold leD at n1;split at n1
      ·rename_i k3 i3 k4 i4 g1 g2;injection g1 with _ g1;subst g1;rw [g2]at n2 h2;simp only [leD,jy,zn,decide_eq_true_eq]at n1 n2;have hle:(0:Int)≤i4∧i4≤(n:Int):=⟨n1,n2⟩;exact⟨_,by simp only [SV.den,SC.den,hm,h2,slcD,Int.le_refl,hle,and_self,if_true];rfl⟩
      ·cases n1
     ·cases h1
    ·cases h
   ·cases h
  ·split at h
   ·split at h
    ·cases h
    ·rename_i hmk;injection h with e1 e2;subst e1;exact aEg ⟨_,by simpa only [SV.den] using hone (x:=x) (by simp [Op.operands]) (by assumption)⟩ hmk hs
   ·cases h
  ·cases h
 case extract x i=>
  split at h
  ·rename_i vs hx;have h1:(SV.tup vs).den ρ=some (a.eval x):=by rw [←hx];exact hat (by simp [Op.operands]) (by rw [hx];simp)
   simp only [SV.den]at h1;split at h1
   ·rename_i us hus;have hg:=nB hus;split at h
    ·rename_i cs hi;injection h with e1 e2;subst e1;obtain⟨y,_,y2⟩:=hg i _ hi;exact⟨y,y2⟩
    ·rename_i c hi;injection h with e1 e2;subst e1;obtain⟨y,_,y2⟩:=hg i _ hi;exact⟨y,y2⟩
    ·cases h
   ·cases h1
  ·cases h
 case call c=>
  obtain⟨callee,args,argTypes⟩:=c;cases callee with
  | invoke r m=>
   simp only [lX]at h
   repeat' split at h
   all_goals cases h
  | builtin b=>
   cases b <;> simp only at h <;> try (cases h)
   case max=>
    split at h
    ·rename_i x y hxy;split at h
     ·rename_i sx sy hx hy;injection h with e1 e2;subst e1;have hm:∀z∈[x,y],z∈(Op.call { callee:=.builtin .max,args:=args,argTypes:=argTypes }).operands:=fun z hz=>by
       simp only [Op.operands,Call.operands,wh,←jz,hxy];simpa using hz
      unfold gM at hs ⊢;split at hs
      ·rename_i b _;cases b
       ·exact⟨_,hone (x:=x) (hm _ (by simp)) hx⟩
       ·exact⟨_,hone (x:=y) (hm _ (by simp)) hy⟩
      ·cases hs
     ·cases h
    ·cases h
   case min=>
    split at h
    ·rename_i x y hxy;split at h
     ·rename_i sx sy hx hy;injection h with e1 e2;subst e1;have hm:∀z∈[x,y],z∈(Op.call { callee:=.builtin .min,args:=args,argTypes:=argTypes }).operands:=fun z hz=>by
       simp only [Op.operands,Call.operands,wh,←jz,hxy];simpa using hz
      unfold gM at hs ⊢;split at hs
      ·rename_i b _;cases b
       ·exact⟨_,hone (x:=x) (hm _ (by simp)) hx⟩
       ·exact⟨_,hone (x:=y) (hm _ (by simp)) hy⟩
      ·cases hs
     ·cases h
    ·cases h
   case complex=>
    split at h
    ·split at h
     ·injection h with e1 e2;subst e1;exact bP hs
     ·cases h
    ·cases h
   case real=>
    split at h
    ·split at h
     ·injection h with e1 e2;subst e1;exact bP hs
     ·cases h
    ·cases h
   case imag=>
    split at h
    ·split at h
     ·injection h with e1 e2;subst e1;exact bP hs
     ·cases h
    ·cases h
   split at h
   ·split at h
    ·injection h with e1 e2;subst e1;exact⟨_,rfl⟩
    ·split at h
     ·injection h with e1 e2;subst e1 e2;have n1:=hn _ (qt.2 rfl);rw [aP]at n1;rename_i b off len c z sh s' e hx hu hz;simp only [SC.den]at n1;cases hd:sh.den ρ with
      | none=>rw [hd]at n1;cases n1
      | some y=>exact⟨y,hd⟩
     ·cases h
    ·injection h with e1 e2;subst e1;unfold kU at hs ⊢;split at hs
     ·split at hs
      ·exact⟨_,rfl⟩
      ·cases hs
     ·cases hs
    ·injection h with e1 e2;subst e1;unfold kU at hs ⊢;split at hs
     ·split at hs
      ·exact⟨_,rfl⟩
      ·cases hs
     ·cases hs
    ·cases h
   ·cases h
  | value f=>
   simp only [lX]at h;split at h
   ·split at h
    ·rename_i hx;injection h with e1 e2;subst e1;obtain⟨fn,sa,_,_,_,_,_,hxs⟩:=aFc hx;unfold aMh at hxs
     repeat' split at hxs
     all_goals first|(injection hxs with hxs;subst hxs;exact bP hs)|cases hxs
    ·repeat' split at h
     all_goals cases h
   ·cases h
 all_goals cases h
theorem nU {o:Oper}(_hE:ρ.Ok) (_hpub:PubOk ρ hp) (hk:Knows1 ρ tm a o) {sa i:SC}{s j:Nat}{t:TypeId}(h:bD P tm hp o=.read sa i s j t):∃p,(SC.elem sa i s j).den ρ=some p:=by
 obtain⟨dst,op,type,pos,after,guard⟩:=o;have hat:∀ {x:Operand},x∈op.operands→opnd tm x≠.top→(opnd tm x).den ρ=some (a.eval x):=fun hm hx=>hk.at hm hx;unfold bD at h;cases op <;> simp only at h
 case load t' x=>
  repeat' split at h
  all_goals first|cases h|skip
  rename_i hx;have:=hat (x:=x) (by simp [Op.operands]) (by rw [hx];simp);rw [hx]at this;exact⟨_,this⟩
 all_goals (revert h;repeat' split)
 all_goals first|(cases h)|(unfold lX;repeat' split)|skip
 all_goals simp_all
theorem nT {o:Oper}(_hE:ρ.Ok) (_hpub:PubOk ρ hp) (hk:Knows1 ρ tm a o) {v:Nat}{i:SC}{s j:Nat}{t:TypeId}(h:bD P tm hp o=.getw v i s j t):∃p,(SC.elem (.slr v) i s j).den ρ=some p:=by
 obtain⟨dst,op,type,pos,after,guard⟩:=o;have hat:∀ {x:Operand},x∈op.operands→opnd tm x≠.top→(opnd tm x).den ρ=some (a.eval x):=fun hm hx=>hk.at hm hx;unfold bD at h;cases op <;> simp only at h
 case load t' x=>
  repeat' split at h
  all_goals first|cases h|skip
  rename_i hx;have:=hat (x:=x) (by simp [Op.operands]) (by rw [hx];simp);rw [hx]at this;exact⟨_,this⟩
 all_goals (revert h;repeat' split)
 all_goals first|(cases h)|(unfold lX;repeat' split)|skip
 all_goals simp_all
end
