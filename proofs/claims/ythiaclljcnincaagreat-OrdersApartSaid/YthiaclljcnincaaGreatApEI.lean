/- Several texts in one. (Printed by prep.py.) -/
import Derived.Test.YthiaclljcnincaaGreatApOC
set_option maxHeartbeats 1000000
namespace Go.Proofs.YthiaclljcnincaaGreat
open Num Plain
theorem W4.real_add (a b:Rat):W4.real (a+b)=(W4.real a).add (W4.real b):=by
 refine W4.ext' (Q4.ext' ?_ ?_ ?_ ?_) (Q4.ext' ?_ ?_ ?_ ?_) <;> simp only [W4.real,W4.add,Q4.add,Q4.real,Q4.zero] <;> grind
theorem W4.real_mul (a b:Rat):W4.real (a*b)=(W4.real a).mul (W4.real b):=by
 refine W4.ext' (Q4.ext' ?_ ?_ ?_ ?_) (Q4.ext' ?_ ?_ ?_ ?_) <;> simp only [W4.real,W4.mul,Q4.mul,Q4.sub,Q4.add,Q4.neg,Q4.real,Q4.zero] <;> grind
theorem W4.conj_add (x y:W4):(x.add y).conj=x.conj.add y.conj:=by
 refine W4.ext' rfl (Q4.ext' ?_ ?_ ?_ ?_) <;> simp only [W4.conj,W4.add,Q4.add,Q4.neg] <;> grind
theorem W4.neg_real (x:W4):x.neg=(W4.real (-1)).mul x:=by
 refine W4.ext' (Q4.ext' ?_ ?_ ?_ ?_) (Q4.ext' ?_ ?_ ?_ ?_) <;> simp only [W4.mul,W4.neg,W4.real,Q4.mul,Q4.sub,Q4.add,Q4.neg,Q4.real,Q4.zero] <;> grind
theorem W4.sub_eq (x y:W4):x.sub y=x.add y.neg:=by
 refine W4.ext' (Q4.ext' ?_ ?_ ?_ ?_) (Q4.ext' ?_ ?_ ?_ ?_) <;> simp only [W4.sub,W4.add,W4.neg,Q4.sub,Q4.add,Q4.neg] <;> grind
instance:Add W4:=⟨W4.add⟩
instance:Mul W4:=⟨W4.mul⟩
instance:Neg W4:=⟨W4.neg⟩
instance:Sub W4:=⟨W4.sub⟩
instance:OfNat W4 0:=⟨W4.zero⟩
instance:OfNat W4 1:=⟨W4.real 1⟩
theorem W4.zero_eq:(0:W4)=W4.zero:=rfl
theorem W4.one_ne:(1:W4)≠0:=by
 show W4.real 1≠W4.zero;decide +kernel
namespace Ek
section
variable (x y z:W4)
theorem aA:x+y+z=x+(y+z):=W4.add_assoc x y z
theorem aL:x+(y+z)=y+(x+z):=W4.add_left x y z
theorem mC:x*y=y*x:=W4.mul_comm x y
theorem mA:x*y*z=x*(y*z):=W4.mul_assoc x y z
theorem mL:x*(y*z)=y*(x*z):=W4.mul_left x y z
theorem mD:x*(y+z)=x*y+x*z:=W4.mul_add x y z
theorem dM:(x+y)*z=x*z+y*z:=W4.add_mul x y z
theorem a0:x+0=x:=W4.add_zero x
theorem z0:0+x=x:=W4.zero_add x
theorem m0:x*0=0:=W4.mul_zero x
theorem zm:0*x=0:=W4.zero_mul x
theorem m1:x*1=x:=W4.mul_one x
theorem om:1*x=x:=(W4.mul_comm _ _).trans (W4.mul_one x)
theorem nR:-x=W4.real (-1)*x:=W4.neg_real x
theorem sN:x-y=x+-y:=W4.sub_eq x y
end
inductive Ex where
 | v (n:Nat)
 | z
 | o
 | a (x y:Ex)
 | m (x y:Ex)
 | n (x:Ex)
 | s (x y:Ex)
def Ex.ev (r:List W4):Ex→W4
 | .v i=>r.getD i 0
 | .z=>0
 | .o=>1
 | .a x y=>x.ev r+y.ev r
 | .m x y=>x.ev r*y.ev r
 | .n x=>-x.ev r
 | .s x y=>x.ev r-y.ev r
abbrev Po:=List (Int×List Nat)
def mev (r:List W4):List Nat→W4
 | []=>1
 | i :: l=>r.getD i 0*mev r l
def pev (r:List W4):Po→W4
 | []=>0
 | p :: l=>W4.real (p.1:Rat)*mev r p.2+pev r l
def ltL:List Nat→List Nat→Bool
 | [],[]=>false
 | [],_ :: _=>true
 | _ :: _,[]=>false
 | a :: l,b :: k=>decide (a<b) || (a == b && ltL l k)
def add1 (c:Int) (m:List Nat):Po→Po
 | []=>[(c,m)]
 | p :: l=>if m=p.2 then (if c+p.1=0 then l else (c+p.1,m) :: l) else if ltL m p.2=true then (c,m) :: p :: l else p :: add1 c m l
def aHu (i:Nat):List Nat→List Nat
 | []=>[i]
 | j :: l=>if i≤j then i :: j :: l else j :: aHu i l
def mmul:List Nat→List Nat→List Nat
 | [],b=>b
 | i :: l,b=>aHu i (mmul l b)
def padd:Po→Po→Po
 | [],b=>b
 | p :: l,b=>add1 p.1 p.2 (padd l b)
def pmul1 (c:Int) (m:List Nat):Po→Po
 | []=>[]
 | p :: l=>add1 (c*p.1) (mmul m p.2) (pmul1 c m l)
def pmul:Po→Po→Po
 | [],_=>[]
 | p :: l,b=>padd (pmul1 p.1 p.2 b) (pmul l b)
def Ex.nf:Ex→Po
 | .v i=>[(1,[i])]
 | .z=>[]
 | .o=>[(1,[])]
 | .a x y=>padd x.nf y.nf
 | .m x y=>pmul x.nf y.nf
 | .n x=>pmul1 (-1) [] x.nf
 | .s x y=>padd x.nf (pmul1 (-1) [] y.nf)
section
variable {r:List W4}
theorem bBe (c d:Int):W4.real ((c+d:Int):Rat)=W4.real (c:Rat)+W4.real (d:Rat):=by
 rw [Rat.intCast_add];exact W4.real_add _ _
theorem bBf (c d:Int):W4.real ((c*d:Int):Rat)=W4.real (c:Rat)*W4.real (d:Rat):=by
 rw [yq];exact W4.real_mul _ _
theorem r0:W4.real ((0:Int):Rat)=0:=W4.real_zero
theorem wQ (c:Int) (m:List Nat):∀l:Po,pev r (add1 c m l)=W4.real (c:Rat)*mev r m+pev r l
 | []=>rfl
 | p :: l=>by
  unfold add1;split
  ·rename_i e;have h:W4.real (c:Rat)*mev r m+pev r (p :: l)=W4.real ((c+p.1:Int):Rat)*mev r m+pev r l:=by
    show _+(W4.real (p.1:Rat)*mev r p.2+pev r l)=_;rw [bBe,dM,aA,←e]
   rw [h];split
   ·rename_i e0;rw [e0,r0,zm,z0]
   ·rfl
  ·split
   ·rfl
   ·show W4.real (p.1:Rat)*mev r p.2+pev r (add1 c m l)=_+(W4.real (p.1:Rat)*mev r p.2+pev r l);rw [wQ c m l,aL]
theorem aFh (i:Nat):∀l,mev r (aHu i l)=r.getD i 0*mev r l
 | []=>rfl
 | j :: l=>by
  unfold aHu;split
  ·rfl
  ·show r.getD j 0*mev r (aHu i l)=r.getD i 0*(r.getD j 0*mev r l);rw [aFh i l,mL]
theorem aFo (b:List Nat):∀a,mev r (mmul a b)=mev r a*mev r b
 | []=>(om _).symm
 | i :: l=>by
  show mev r (aHu i (mmul l b))=r.getD i 0*mev r l*mev r b;rw [aFh,aFo b l,mA]
theorem sB (b:Po):∀a,pev r (padd a b)=pev r a+pev r b
 | []=>(z0 _).symm
 | p :: l=>by
  show pev r (add1 p.1 p.2 (padd l b))=W4.real (p.1:Rat)*mev r p.2+pev r l+pev r b;rw [wQ,sB b l,aA]
theorem tT (c:Int) (m:List Nat):∀b,pev r (pmul1 c m b)=W4.real (c:Rat)*mev r m*pev r b
 | []=>(m0 _).symm
 | p :: l=>by
  show pev r (add1 (c*p.1) (mmul m p.2) (pmul1 c m l))=W4.real (c:Rat)*mev r m*(W4.real (p.1:Rat)*mev r p.2+pev r l);rw [wQ,tT c m l,bBf,aFo,mD];simp only [mA];rw [mL (W4.real (p.1:Rat))]
theorem aFu (b:Po):∀a,pev r (pmul a b)=pev r a*pev r b
 | []=>(zm _).symm
 | p :: l=>by
  show pev r (padd (pmul1 p.1 p.2 b) (pmul l b))=(W4.real (p.1:Rat)*mev r p.2+pev r l)*pev r b;rw [sB,tT,aFu b l,dM]
theorem aFv (b:Po):pev r (pmul1 (-1) [] b)=-pev r b:=by
 rw [tT,nR];show W4.real ((-1:Int):Rat)*1*pev r b=_;rw [m1];rfl
theorem Ex.nf_ev:∀e:Ex,pev r e.nf=e.ev r
 | .v i=>by
  show W4.real ((1:Int):Rat)*(r.getD i 0*1)+0=r.getD i 0;rw [a0,m1];exact om _
 | .z=>rfl
 | .o=>by
  show W4.real ((1:Int):Rat)*1+0=1;rw [a0];exact om _
 | .a x y=>by
  show pev r (padd x.nf y.nf)=x.ev r+y.ev r;rw [sB,x.nf_ev,y.nf_ev]
 | .m x y=>by
  show pev r (pmul x.nf y.nf)=x.ev r*y.ev r;rw [aFu,x.nf_ev,y.nf_ev]
 | .n x=>by
  show pev r (pmul1 (-1) [] x.nf)=-x.ev r;rw [aFv,x.nf_ev]
 | .s x y=>by
  show pev r (padd x.nf (pmul1 (-1) [] y.nf))=x.ev r-y.ev r;rw [sB,aFv,x.nf_ev,y.nf_ev,sN]
theorem rg (r:List W4) (a b:Ex) (h:a.nf=b.nf):a.ev r=b.ev r:=by rw [←a.nf_ev,←b.nf_ev,h]
end
instance:Add Ex:=⟨.a⟩
instance:Mul Ex:=⟨.m⟩
instance:Neg Ex:=⟨.n⟩
instance:Sub Ex:=⟨.s⟩
instance:OfNat Ex 0:=⟨.z⟩
instance:OfNat Ex 1:=⟨.o⟩
abbrev X0:Ex:=.v 0
abbrev X1:Ex:=.v 1
abbrev X2:Ex:=.v 2
abbrev X3:Ex:=.v 3
abbrev X4:Ex:=.v 4
abbrev X5:Ex:=.v 5
abbrev X6:Ex:=.v 6
abbrev X7:Ex:=.v 7
abbrev X8:Ex:=.v 8
theorem n0:-(0:W4)=0:=by rw [nR,m0]
theorem s0 (x:W4):x-0=x:=by rw [sN,n0,a0]
theorem sS (x:W4):x-x=0:=rg [x] (X0-X0) 0 rfl
end Ek
end Go.Proofs.YthiaclljcnincaaGreat

namespace Go.Proofs.YthiaclljcnincaaGreat.Ek
def sm:Nat→(Nat→W4)→W4
 | 0,_=>0
 | n+1,f=>sm n f+f n
theorem sm_zero:∀ {n:Nat}{f:Nat→W4},(∀j,j<n→f j=0)→sm n f=0
 | 0,_,_=>rfl
 | n+1,f,h=>by
  show sm n f+f n=0;rw [sm_zero fun j hj=>h j oq,h n oq,a0]
theorem gI:∀ {n:Nat}{f g:Nat→W4},(∀j,j<n→f j=g j)→sm n f=sm n g
 | 0,_,_,_=>rfl
 | n+1,f,g,h=>by
  show sm n f+f n=sm n g+g n;rw [gI fun j hj=>h j oq,h n oq]
theorem nE (f g:Nat→W4):∀n,sm n (fun j=>f j+g j)=sm n f+sm n g
 | 0=>(a0 0).symm
 | n+1=>by
  show sm n (fun j=>f j+g j)+(f n+g n)=(sm n f+f n)+(sm n g+g n);rw [nE f g n];exact rg [sm n f,sm n g,f n,g n] ((X0+X1)+(X2+X3)) ((X0+X2)+(X1+X3)) rfl
theorem nF (c:W4) (f:Nat→W4):∀n,c*sm n f=sm n (fun j=>c*f j)
 | 0=>m0 c
 | n+1=>by
  show c*(sm n f+f n)=sm n (fun j=>c*f j)+c*f n;rw [mD,nF c f n]
theorem yJ {a:Nat}{f:Nat→W4}:∀ {m:Nat},a<m→(∀k,k<m→k≠a→f k=0)→sm m f=f a
 | m+1,ha,h=>by
  show sm m f+f m=f a
  by_cases e:a=m
  ·subst e;rw [sm_zero fun k hk=>h k oq oq,z0]
  ·rw [yJ oq fun k hk hne=>h k oq hne,h m oq (Ne.symm e),a0]
theorem aZa {m a b:Nat}{f:Nat→W4}(ha:a<m) (hb:b<m) (hab:a≠b) (h:∀k,k<m→k≠a→k≠b→f k=0):sm m f=f a+f b:=by
 have e1:sm m f=sm m (fun k=>(if k=a then f k else 0)+(if k=b then f k else 0)):=gI fun k hk=>by
  by_cases e:k=a
  ·rw [og e,oh oq,a0]
  ·rw [oh e,z0]
   by_cases e':k=b
   ·rw [og e']
   ·rw [oh e',h k hk e e']
 rw [e1,nE,yJ ha fun k _ hk=>oh hk,yJ hb fun k _ hk=>oh hk,og rfl,og rfl]
theorem sm3 (f:Nat→W4):sm 3 f=f 0+f 1+f 2:=by
 show 0+f 0+f 1+f 2=_;rw [z0]
def Ker (n m:Nat) (M:Nat→Nat→W4) (x:Nat→W4):Prop:=∀i,i<n→sm m (fun k=>M i k*x k)=0
structure Ech (n:Nat) (M:Nat→Nat→W4) (ps:List Nat) (c:Nat):Prop where
 len:ps.length≤n
 lt:∀p∈ps,p<c
 inc:ps.Pairwise (·<·)
 one:∀(k p:Nat),ps[k]?=some p→∀i,i<n→M i p=if i=k then 1 else 0
 nil:∀i,i<n→ps.length≤i→∀j,j<c→M i j=0
 left:∀(k p:Nat),ps[k]?=some p→∀j,j<p→M k j=0
section
variable {n m c p:Nat}{M M':Nat→Nat→W4}{ps:List Nat}{u:W4}{x:Nat→W4}
theorem Ech.none:Ech n M [] 0:=⟨jx _,fun _ h=>(nomatch h),.nil,fun _ _ h=>(nomatch h),fun _ _ _ _ h=>absurd h (wa _),fun _ _ h=>(nomatch h)⟩
theorem Ech.wider (h:Ech n M ps c) (h0:∀i,i<n→ps.length≤i→M i c=0):Ech n M ps (c+1):=
 { h with
   lt:=fun p hp=>Nat.lt_succ_of_lt (h.lt p hp)
   nil:=fun i hi hl j hj=>by
    by_cases e:j=c
    ·rw [e];exact h0 i hi hl
    ·exact h.nil i hi hl j oq }
theorem aU {k q:Nat}(h:(ps++[c])[k]?=some q):ps[k]?=some q∧k<ps.length∨k=ps.length∧q=c:=by
 by_cases hk:k<ps.length
 ·rw [vf hk]at h;exact .inl ⟨h,hk⟩
 ·rw [vk oq]at h;have e0:k-ps.length=0:=by
   have:=(qe.1 h).1;simp only [kf]at this;omega
  rw [e0]at h;exact .inr ⟨oq,by simpa using h.symm⟩
theorem Ech.step (h:Ech n M ps c) (hc:c<m) (hp:ps.length≤p) (hpn:p<n) (hu:M p c*u=1) (ht:∀k,k<m→M' ps.length k=M p k*u)
 (ho:∀i,i<n→i≠ps.length→∀k,k<m→M' i k=(if i=p then M ps.length k else M i k)-(if i=p then M ps.length c else M i c)*M' ps.length k) :
 Ech n M' (ps++[c]) (c+1)∧∀x,Ker n m M' x↔Ker n m M x:=by
 have hts:=ht c hc;rw [hu]at hts;have tz:∀j,j<c→M' ps.length j=0:=fun j hj=>by
  rw [ht j oq,h.nil p hpn hp j hj,zm]
 refine⟨⟨by rw [od,kf];omega,fun q hq=>?_,?_,fun k q hk i hi=>?_,fun i hi hl j hj=>?_,fun k q hk j hj=>?_⟩,fun x=>?_⟩
 ·rcases qd.1 hq with hq|hq
  ·exact Nat.lt_succ_of_lt (h.lt q hq)
  ·rw [qt.1 hq];exact zp c
 ·exact List.pairwise_append.2 ⟨h.inc,List.pairwise_singleton _ _,fun a ha b hb=>by rw [qt.1 hb];exact h.lt a ha⟩
 ·rcases aU hk with ⟨hk,hk'⟩|⟨rfl,rfl⟩
  ·have hq:=h.lt q (zh hk);have o:=h.one k q hk;have ot:=o ps.length oq;rw [oh oq]at ot
   by_cases e:i=ps.length
   ·rw [e,tz q hq,oh oq]
   ·rw [ho i hi e q oq,tz q hq,m0,s0]
    by_cases e':i=p
    ·rw [og e',ot,oh oq]
    ·rw [oh e',o i hi]
  ·by_cases e:i=ps.length
   ·rw [e,hts,og rfl]
   ·rw [ho i hi e q hc,hts,m1,sS,oh e]
 ·rw [od,kf]at hl;rw [ho i hi oq j oq]
  by_cases ej:j=c
  ·rw [ej,hts,m1,sS]
  ·rw [tz j oq,m0,s0,h.nil ps.length oq (oy _) j oq,h.nil i hi oq j oq];exact ite_self _
 ·rcases aU hk with ⟨hk,hk'⟩|⟨rfl,rfl⟩
  ·have hq:=h.lt q (zh hk);rw [ho k (by have:=h.len;omega) oq j oq,tz j oq,m0,s0,oh oq,h.left k q hk j hj]
  ·exact tz j hj
 ·have et:sm m (fun k=>M' ps.length k*x k)=u*sm m (fun k=>M p k*x k):=by
   rw [nF];exact gI fun k hk=>by
    rw [ht k hk];exact rg [M p k,u,x k] (X0*X1*X2) (X1*(X0*X2)) rfl
  have eo:∀i,i<n→i≠ps.length→∀i',i'=(if i=p then ps.length else i)→sm m (fun k=>M i' k*x k)=sm m (fun k=>M' i k*x k)+(if i=p then M ps.length c else M i c)*sm m (fun k=>M' ps.length k*x k):=fun i hi hne i' e=>by
   rw [nF,←nE];refine gI fun k hk=>?_;rw [ho i hi hne k hk]
   by_cases e':i=p
   ·rw [og e']at e;rw [og e',og e',e];exact rg [M ps.length k,M ps.length c,M' ps.length k,x k] (X0*X3) ((X0-X1*X2)*X3+X1*(X2*X3)) rfl
   ·rw [oh e']at e;rw [oh e',oh e',e];exact rg [M i k,M i c,M' ps.length k,x k] (X0*X3) ((X0-X1*X2)*X3+X1*(X2*X3)) rfl
  constructor
  ·intro hk;have h0:=hk ps.length oq;have hp0:sm m (fun k=>M p k*x k)=0:=by
    rw [et]at h0;rw [←om (sm m fun k=>M p k*x k),←hu,mA,h0,m0]
   intro i hi
   by_cases e:i=p
   ·rw [e];exact hp0
   ·by_cases e':i=ps.length
    ·rw [eo p hpn oq i (by rw [og rfl];exact e'),hk p hpn,h0,m0,a0]
    ·rw [eo i hi e' i (by rw [oh e]),hk i hi,h0,m0,a0]
  ·intro hk i hi;have h0:sm m (fun k=>M' ps.length k*x k)=0:=by rw [et,hk p hpn,m0]
   by_cases e:i=ps.length
   ·rw [e];exact h0
   ·have:=eo i hi e _ rfl;rw [h0,hk _ (by split <;> omega),m0,a0]at this;exact this.symm
theorem Ech.free {j:Nat}(h:Ech n M ps m) (hj:j<m) (hn:j ∉ ps):∃x:Nat→W4,Ker n m M x∧x j=1∧∀q,j<q→x q=0:=by
 have at_:∀q,q∈ps→ps[ps.idxOf q]?=some q:=fun q hq=>by
  have:=List.idxOf_lt_length_of_mem hq;rw [qi this,List.getElem_idxOf]
 obtain⟨x,hx⟩:∃x:Nat→W4,∀q,x q=if q=j then 1 else if q∈ps then -M (ps.idxOf q) j else 0:=⟨_,fun _=>rfl⟩;refine⟨x,fun i hi=>?_,by rw [hx,og rfl],fun q hq=>?_⟩
 ·by_cases hl:i<ps.length
  ·have hp:ps[i]?=some ps[i]:=qi hl;have hm:ps[i]∈ps:=List.getElem_mem hl;have hne:j≠ps[i]:=fun e=>hn (e▸hm);have o:=h.one i _ hp i hi;rw [og rfl]at o;have ix:ps.idxOf ps[i]=i:=by
    have h1:=h.one _ _ (at_ _ hm) i hi
    by_cases e:i=ps.idxOf ps[i]
    ·exact e.symm
    ·rw [oh e,o]at h1;exact absurd h1 W4.one_ne
   rw [aZa hj (h.lt _ hm) hne fun k hk h1 h2=>?_]
   ·rw [hx,hx,og rfl,oh (Ne.symm hne),og hm,ix,o];exact rg [M i j] (X0*1+1*-X0) 0 rfl
   ·rw [hx,oh h1]
    by_cases hk':k∈ps
    ·rw [h.one _ k (at_ k hk') i hi,oh fun e=>h2 ?_,zm];have:=at_ k hk';rw [←e,hp]at this;injection this with this;exact this.symm
    ·rw [oh hk',m0]
  ·exact sm_zero fun k hk=>by rw [h.nil i hi oq k hk,zm]
 ·rw [hx,oh oq];split
  ·rename_i hq';rw [h.left _ q (at_ q hq') j hq,n0]
  ·rfl
theorem Ech.le3 (h:Ech n M ps 3):ps.length≤3:=by
 rcases zb 3 ps.length with hgt|hle
 ·match ps,hgt,h with
  | a :: b :: c :: d :: l,_,h=>
   have:=h.lt d (by simp);have hi:=h.inc;simp only [List.pairwise_cons,wv]at hi;have:=hi.1 b (.inl rfl);have:=hi.2.1 c (.inl rfl);have:=hi.2.2.1 d (.inl rfl);omega
 ·exact hle
theorem Ech.full (h:Ech n M ps 3) (h3:ps.length=3) (hk:Ker n 3 M x):x 0=0∧x 1=0∧x 2=0:=by
 match ps,h3,h with
 | [a,b,c],_,h=>
  have ha:=h.lt a (by simp);have hb:=h.lt b (by simp);have hc:=h.lt c (by simp);have hi:=h.inc;simp only [List.pairwise_cons,wv,List.not_mem_nil,or_false]at hi;have hab:=hi.1 b (.inl rfl);have hbc:=hi.2.1 c rfl;obtain rfl:a=0:=oq
  obtain rfl:b=1:=oq
  obtain rfl:c=2:=oq
  have hn:3≤n:=h.len;have key:∀k,k<3→x k=0:=fun k hk3=>by
   have o:∀q,q<3→M k q=if k=q then 1 else 0:=fun q hq=>by
    have:([0,1,2]:List Nat)[q]?=some q:=by
     rcases (by omega:q=0∨q=1∨q=2) with rfl|rfl|rfl <;> rfl
    exact h.one q q this k oq
   have:=hk k oq;rw [yJ (a:=k) hk3 fun q hq hne=>by rw [o q hq,oh (Ne.symm hne),zm],o k hk3,og rfl,om]at this;exact this
  exact⟨key 0 oz,key 1 oz,key 2 oz⟩
theorem Ech.part (h:Ech n M ps 3) (h3:ps.length<3):∃x:Nat→W4,Ker n 3 M x∧¬ (x 0=0∧x 1=0∧x 2=0):=by
 obtain⟨j,hj,hn⟩:∃j,j<3∧j ∉ ps:=by
  match ps,h3 with
  | [],_=>exact⟨0,oz,fun h=>nomatch h⟩
  | [a],_=>
   by_cases e:a=0
   ·exact⟨1,oz,by simp;omega⟩
   ·exact⟨0,oz,by simp;omega⟩
  | [a,b],_=>
   by_cases e:a≠0∧b≠0
   ·exact⟨0,oz,by simp;omega⟩
   ·by_cases e':a≠1∧b≠1
    ·exact⟨1,oz,by simp;omega⟩
    ·exact⟨2,oz,by simp;omega⟩
 obtain⟨x,hx,h1,_⟩:=h.free hj hn;refine⟨x,hx,fun e=>W4.one_ne ?_⟩;rcases (by omega:j=0∨j=1∨j=2) with rfl|rfl|rfl
 ·exact h1.symm.trans e.1
 ·exact h1.symm.trans e.2.1
 ·exact h1.symm.trans e.2.2
theorem Ker.congr (h:∀i,i<n→∀k,k<m→M' i k=M i k):Ker n m M' x↔Ker n m M x:=
 have e:=fun i hi=>gI (n:=m) (f:=fun k=>M' i k*x k) (g:=fun k=>M i k*x k) fun k hk=>by rw [h i hi k hk]
 ⟨fun hk i hi=>(e i hi).symm.trans (hk i hi),fun hk i hi=>(e i hi).trans (hk i hi)⟩
theorem aJl {E E':Nat→Nat→W4}{ps':List Nat}(hE:Ech n E ps 3) (hK:∀x,Ker n 3 E x↔Ker n 3 M x) (hE':Ech (n+1) E' ps' 3) (hK':∀x,Ker (n+1) 3 E' x↔Ker (n+1) 3 M' x)
 (hM:∀i,i<n→∀k,k<3→M' i k=M i k) (h3:ps.length=3):ps'.length=3:=by
 have:=hE'.le3;rcases zb ps'.length 3 with hlt|hge
 ·obtain⟨x,hx,hne⟩:=hE'.part hlt;have hx:Ker n 3 M' x:=fun i hi=>(hK' x).1 hx i oq;exact absurd (hE.full h3 ((hK x).2 ((Ker.congr hM).1 hx))) hne
 ·omega
def vec (a b c:W4) (k:Nat):W4:=if k=0 then a else if k=1 then b else c
theorem Ker.vec {a b c:W4}(h:∀i,i<n→M i 0*a+M i 1*b+M i 2*c=0):Ker n 3 M (vec a b c):=fun i hi=>by rw [sm3];exact h i hi
theorem Ker.at (h:Ker n 3 M x) {i:Nat}(hi:i<n):M i 0*x 0+M i 1*x 1+M i 2*x 2=0:=by
 have:=h i hi
 rwa [sm3]at this
theorem aJm {E:Nat→Nat→W4}(hE:Ech n E ps 3) (hK:∀x,Ker n 3 E x↔Ker n 3 M x) (hM:∀i,i<n→M i 0=M i 1):ps.length≠3:=fun h3=>
 W4.one_ne (hE.full h3 ((hK _).2 (Ker.vec (a:=1) (b:=-1) (c:=0) fun i hi=>by
  rw [hM i hi]
  exact rg [M i 1,M i 2] (X0*1+X0*-1+X1*0) 0 rfl))).1
def det3 (N:Nat→Nat→W4):W4:=N 0 0*(N 1 1*N 2 2-N 1 2*N 2 1)+N 0 1*(N 1 2*N 2 0-N 1 0*N 2 2)+N 0 2*(N 1 0*N 2 1-N 1 1*N 2 0)
abbrev xD:Ex:=X0*(X4*X8-X5*X7)+X1*(X5*X6-X3*X8)+X2*(X3*X7-X4*X6)
theorem nz {a y:W4}(hinv:∃b,a*b=1) (e:a*y=0):y=0:=by
 obtain⟨b,hb⟩:=hinv;have h:a*b*y=b*(a*y):=rg [a,b,y] (X0*X1*X2) (X1*(X0*X2)) rfl;rw [←om y,←hb,h,e,m0]
section
variable {N:Nat→Nat→W4}
theorem cramer (hk:Ker 3 3 N x):det3 N*x 0=0∧det3 N*x 1=0∧det3 N*x 2=0:=by
 have k0:=hk.at (i:=0) oz;have k1:=hk.at (i:=1) oz;have k2:=hk.at (i:=2) oz;have z:∀a b c:W4,a*0+b*0+c*0=0:=fun a b c=>rg [a,b,c] (X0*0+X1*0+X2*0) 0 rfl;refine⟨?_,?_,?_⟩
 ·have:=rg [N 0 0,N 0 1,N 0 2,N 1 0,N 1 1,N 1 2,N 2 0,N 2 1,N 2 2,x 0,x 1,x 2] (xD*.v 9) ((X4*X8-X5*X7)*(X0*.v 9+X1*.v 10+X2*.v 11)+(X2*X7-X1*X8)*(X3*.v 9+X4*.v 10+X5*.v 11)+(X1*X5-X2*X4)*(X6*.v 9+X7*.v 10+X8*.v 11)) rfl;refine Eq.trans this ?_;show _*(N 0 0*x 0+N 0 1*x 1+N 0 2*x 2)+_*(N 1 0*x 0+N 1 1*x 1+N 1 2*x 2)+_*(N 2 0*x 0+N 2 1*x 1+N 2 2*x 2)=0;rw [k0,k1,k2];exact z _ _ _
 ·have:=rg [N 0 0,N 0 1,N 0 2,N 1 0,N 1 1,N 1 2,N 2 0,N 2 1,N 2 2,x 0,x 1,x 2] (xD*.v 10) ((X5*X6-X3*X8)*(X0*.v 9+X1*.v 10+X2*.v 11)+(X0*X8-X2*X6)*(X3*.v 9+X4*.v 10+X5*.v 11)+(X2*X3-X0*X5)*(X6*.v 9+X7*.v 10+X8*.v 11)) rfl;refine Eq.trans this ?_;show _*(N 0 0*x 0+N 0 1*x 1+N 0 2*x 2)+_*(N 1 0*x 0+N 1 1*x 1+N 1 2*x 2)+_*(N 2 0*x 0+N 2 1*x 1+N 2 2*x 2)=0;rw [k0,k1,k2];exact z _ _ _
 ·have:=rg [N 0 0,N 0 1,N 0 2,N 1 0,N 1 1,N 1 2,N 2 0,N 2 1,N 2 2,x 0,x 1,x 2] (xD*.v 11) ((X3*X7-X4*X6)*(X0*.v 9+X1*.v 10+X2*.v 11)+(X1*X6-X0*X7)*(X3*.v 9+X4*.v 10+X5*.v 11)+(X0*X4-X1*X3)*(X6*.v 9+X7*.v 10+X8*.v 11)) rfl;refine Eq.trans this ?_;show _*(N 0 0*x 0+N 0 1*x 1+N 0 2*x 2)+_*(N 1 0*x 0+N 1 1*x 1+N 1 2*x 2)+_*(N 2 0*x 0+N 2 1*x 1+N 2 2*x 2)=0;rw [k0,k1,k2];exact z _ _ _
theorem three {P:Nat→Prop}(h0:P 0) (h1:P 1) (h2:P 2):∀i,i<3→P i:=fun i hi=>by
 rcases (by omega:i=0∨i=1∨i=2) with rfl|rfl|rfl <;> assumption
def cr (N:Nat→Nat→W4) (i j:Nat):Nat→W4:=vec (N i 1*N j 2-N i 2*N j 1) (N i 2*N j 0-N i 0*N j 2) (N i 0*N j 1-N i 1*N j 0)
theorem aLy (i j:Nat):N i 0*(N i 1*N j 2-N i 2*N j 1)+N i 1*(N i 2*N j 0-N i 0*N j 2)+N i 2*(N i 0*N j 1-N i 1*N j 0)=0:=
 rg [N i 0,N i 1,N i 2,N j 0,N j 1,N j 2] (X0*(X1*X5-X2*X4)+X1*(X2*X3-X0*X5)+X2*(X0*X4-X1*X3)) 0 rfl
theorem aCg (i j:Nat):N j 0*(N i 1*N j 2-N i 2*N j 1)+N j 1*(N i 2*N j 0-N i 0*N j 2)+N j 2*(N i 0*N j 1-N i 1*N j 0)=0:=
 rg [N i 0,N i 1,N i 2,N j 0,N j 1,N j 2] (X3*(X1*X5-X2*X4)+X4*(X2*X3-X0*X5)+X5*(X0*X4-X1*X3)) 0 rfl
theorem aTd (hd:det3 N=0):∃x:Nat→W4,Ker 3 3 N x∧¬ (x 0=0∧x 1=0∧x 2=0):=by
 have ev:=fun e:Ex=>rg [N 0 0,N 0 1,N 0 2,N 1 0,N 1 1,N 1 2,N 2 0,N 2 1,N 2 2] e
 by_cases h01:cr N 0 1 0=0∧cr N 0 1 1=0∧cr N 0 1 2=0
 ·by_cases h02:cr N 0 2 0=0∧cr N 0 2 1=0∧cr N 0 2 2=0
  ·by_cases h12:cr N 1 2 0=0∧cr N 1 2 1=0∧cr N 1 2 2=0
   ·have sw:∀ {a b:W4},a-b=0→b-a=0:=fun {a b} h=>by
     have:b-a=-(a-b):=rg [a,b] (X1-X0) (-(X0-X1)) rfl;rw [this,h,n0]
    have all:∀i,i<3→∀j,j<3→N i 2*N j 0-N i 0*N j 2=0∧N i 0*N j 1-N i 1*N j 0=0:=by
     have self:∀i,N i 2*N i 0-N i 0*N i 2=0∧N i 0*N i 1-N i 1*N i 0=0:=fun i=>⟨rg [N i 0,N i 2] (X1*X0-X0*X1) 0 rfl,rg [N i 0,N i 1] (X0*X1-X1*X0) 0 rfl⟩;have opp:∀i j,N i 2*N j 0-N i 0*N j 2=0∧N i 0*N j 1-N i 1*N j 0=0→N j 2*N i 0-N j 0*N i 2=0∧N j 0*N i 1-N j 1*N i 0=0:=fun i j h=>by
      have h1:=sw h.1;have h2:=sw h.2;rw [mC (N i 0),mC (N i 2)]at h1;rw [mC (N i 1),mC (N i 0)]at h2;exact⟨h1,h2⟩
     exact three (three (self 0) h01.2 h02.2) (three (opp _ _ h01.2) (self 1) h12.2) (three (opp _ _ h02.2) (opp _ _ h12.2) (self 2))
    by_cases hz:∀i,i<3→N i 0=0∧N i 1=0∧N i 2=0
    ·refine⟨vec 1 1 1,Ker.vec fun i hi=>?_,fun e=>W4.one_ne e.1⟩;rw [(hz i hi).1,(hz i hi).2.1,(hz i hi).2.2,zm,a0,a0]
    ·obtain⟨i,hz⟩:=Classical.not_forall.1 hz;obtain⟨hi,hz⟩:=Classical.not_imp.1 hz
     by_cases ha:N i 0=0∧N i 1=0
     ·refine⟨vec (N i 2) 0 (-N i 0),Ker.vec fun j hj=>?_,fun e=>hz ⟨ha.1,ha.2,e.1⟩⟩;exact (rg [N i 0,N i 2,N j 0,N j 1,N j 2] (X2*X1+X3*0+X4*-X0) (X1*X2-X0*X4) rfl).trans (all i hi j hj).1
     ·refine⟨vec (-N i 1) (N i 0) 0,Ker.vec fun j hj=>?_,fun e=>ha ⟨e.2.1,?_⟩⟩
      ·exact (rg [N i 0,N i 1,N j 0,N j 1,N j 2] (X2*-X1+X3*X0+X4*0) (X0*X3-X1*X2) rfl).trans (all i hi j hj).2
      ·have e0:-N i 1=0:=e.1;have h:N i 1=-(-N i 1):=rg [N i 1] X0 (-(-X0)) rfl;rw [h,e0,n0]
   ·exact⟨cr N 1 2,Ker.vec (three hd (aLy 1 2) (aCg 1 2)),h12⟩
  ·refine⟨cr N 0 2,Ker.vec (three (aLy 0 2) ?_ (aCg 0 2)),h02⟩;have:=ev (X3*(X1*X8-X2*X7)+X4*(X2*X6-X0*X8)+X5*(X0*X7-X1*X6)) (-xD) rfl;refine Eq.trans this ?_;show -det3 N=0;rw [hd,n0]
 ·refine⟨cr N 0 1,Ker.vec (three (aLy 0 1) (aCg 0 1) ?_),h01⟩;exact (ev (X6*(X1*X5-X2*X4)+X7*(X2*X3-X0*X5)+X8*(X0*X4-X1*X3)) xD rfl).trans hd
end
theorem gram {cj:W4→W4}(hadd:∀a b,cj (a+b)=cj a+cj b) (hmul:∀a b,cj (a*b)=cj a*cj b) (hpos:∀y:Nat→W4,sm n (fun j=>cj (y j)*y j)=0→∀j,j<n→y j=0) :
 Ker 3 3 (fun i k=>sm n fun j=>cj (M j i)*M j k) x↔Ker n 3 M x:=by
 have right:∀(f:Nat→W4) (c:W4),sm n f*c=sm n fun j=>f j*c:=fun f c=>by
  rw [mC,nF];exact gI fun j _=>mC _ _
 have e (i:Nat):sm 3 (fun k=>(sm n fun j=>cj (M j i)*M j k)*x k)=sm n fun j=>cj (M j i)*sm 3 fun k=>M j k*x k:=by
  rw [sm3,right,right,right,←nE,←nE];refine gI fun j _=>?_;rw [sm3];exact rg [cj (M j i),M j 0,M j 1,M j 2,x 0,x 1,x 2] (X0*X1*X4+X0*X2*X5+X0*X3*X6) (X0*(X1*X4+X2*X5+X3*X6)) rfl
 constructor
 ·intro h;have k0:=h 0 oz;have k1:=h 1 oz;have k2:=h 2 oz;rw [e]at k0 k1 k2;refine hpos _ ?_;have:(sm n fun j=>cj (sm 3 fun k=>M j k*x k)*sm 3 fun k=>M j k*x k)=cj (x 0)*(sm n fun j=>cj (M j 0)*sm 3 fun k=>M j k*x k)+cj (x 1)*(sm n fun j=>cj (M j 1)*sm 3 fun k=>M j k*x k)+cj (x 2)*(sm n fun j=>cj (M j 2)*sm 3 fun k=>M j k*x k):=by
   rw [nF,nF,nF,←nE,←nE];refine gI fun j _=>?_;rw [show cj (sm 3 fun k=>M j k*x k)=cj (M j 0)*cj (x 0)+cj (M j 1)*cj (x 1)+cj (M j 2)*cj (x 2) by rw [sm3,hadd,hadd,hmul,hmul,hmul]];exact rg [cj (M j 0),cj (M j 1),cj (M j 2),cj (x 0),cj (x 1),cj (x 2),sm 3 fun k=>M j k*x k] ((X0*X3+X1*X4+X2*X5)*X6) (X3*(X0*X6)+X4*(X1*X6)+X5*(X2*X6)) rfl
  rw [this,k0,k1,k2,m0,m0,m0,a0,a0]
 ·intro h i hi;rw [e];exact sm_zero fun j hj=>by rw [h j hj,m0]
theorem aOq {E:Nat→Nat→W4}{cj:W4→W4}(hinv:∀a:W4,a≠0→∃b,a*b=1) (hadd:∀a b,cj (a+b)=cj a+cj b) (hmul:∀a b,cj (a*b)=cj a*cj b)
 (hpos:∀y:Nat→W4,sm n (fun j=>cj (y j)*y j)=0→∀j,j<n→y j=0) (hE:Ech n E ps 3) (hK:∀x,Ker n 3 E x↔Ker n 3 M x) :
 ps.length=3↔det3 (fun i k=>sm n fun j=>cj (M j i)*M j k)≠0:=by
 constructor
 ·intro h3 hd;obtain⟨x,hx,hne⟩:=aTd hd;exact hne (hE.full h3 ((hK x).2 ((gram hadd hmul hpos).1 hx)))
 ·intro hd;have hle:=hE.le3;rcases zb ps.length 3 with hlt|hge
  ·obtain⟨x,hx,hne⟩:=hE.part hlt;have c:=cramer ((gram hadd hmul hpos).2 ((hK x).1 hx));exact absurd ⟨nz (hinv _ hd) c.1,nz (hinv _ hd) c.2.1,nz (hinv _ hd) c.2.2⟩ hne
  ·omega
end
end Go.Proofs.YthiaclljcnincaaGreat.Ek

namespace Go.Proofs.YthiaclljcnincaaGreat
open Num Plain
theorem W4.inv {a:W4}(h:a≠0):∃b,a*b=1:=by
 rw [W4.zero_eq]at h;exact⟨(W4.real 1).div a,(W4.mul_comm _ _).trans (W4.mul_div h)⟩
theorem tV (b:Q23):0+b=b:=by
 refine Q23.ext' (Q2.ext' ?_ ?_) (Q2.ext' ?_ ?_) <;> simp only [Q23.add_re,Q23.add_im,Q23.zero_re,Q23.zero_im,Q2.add_re,Q2.add_im,Q2.zero_re,Q2.zero_im] <;> grind
theorem aDp (a b:Q23):a+b=b+a:=by
 refine Q23.ext' (Q2.ext' ?_ ?_) (Q2.ext' ?_ ?_) <;> simp only [Q23.add_re,Q23.add_im,Q2.add_re,Q2.add_im] <;> grind
def NN0 (z:Q23):Prop:=z=0∨C.pos z
theorem NN0.add {a b:Q23}(ha:NN0 a) (hb:NN0 b):NN0 (a+b)∧(a+b=0→a=0∧b=0):=by
 rcases ha with rfl|ha
 ·rw [tV];exact⟨hb,fun h=>⟨rfl,h⟩⟩
 ·rcases hb with rfl|hb
  ·rw [aDp,tV];exact⟨.inr ha,fun h=>⟨h,rfl⟩⟩
  ·exact⟨.inr (C.add ha hb),fun h=>absurd h (C.aOi (C.add ha hb))⟩
theorem NN0.sq (p:Q23):NN0 (p*p)∧(p*p=0→p=0):=by
 by_cases h:p=0
 ·subst h;have e:(0:Q23)*0=0:=by
   refine Q23.ext' (Q2.ext' ?_ ?_) (Q2.ext' ?_ ?_) <;> simp only [Q23.mul_re,Q23.mul_im,Q23.zero_re,Q23.zero_im,Q2.add_re,Q2.add_im,Q2.mul_re,Q2.mul_im,Q2.zero_re,Q2.zero_im] <;> grind
  exact⟨.inl e,fun _=>rfl⟩
 ·exact⟨.inr (C.eM h),fun e=>absurd e (C.aOi (C.eM h))⟩
theorem zP (w:W4):(w.conj.mul w).re.toQ=w.re.toQ*w.re.toQ+w.im.toQ*w.im.toQ:=by
 show (((w.re.mul w.re).sub (w.im.neg.mul w.im)):Q4).toQ=_;rw [gW,bA,bA,oW];generalize w.re.toQ=p;generalize w.im.toQ=q;refine Q23.ext' (Q2.ext' ?_ ?_) (Q2.ext' ?_ ?_) <;> simp only [Q23.mul_re,Q23.mul_im,Q23.sub_re,Q23.sub_im,Q23.add_re,Q23.add_im,Q23.neg_re,Q23.neg_im,Q2.mul_re,Q2.mul_im,Q2.sub_re,Q2.sub_im,Q2.add_re,Q2.add_im,Q2.neg_re,Q2.neg_im,Q2.three_re,Q2.three_im] <;> grind
theorem W4.sm_pos (y:Nat→W4):∀n,NN0 (Ek.sm n fun j=>(y j).conj*y j).re.toQ∧((Ek.sm n fun j=>(y j).conj*y j).re.toQ=0→∀j,j<n→y j=0)
 | 0=>⟨.inl rfl,fun _ j hj=>oq⟩
 | n+1=>by
  obtain⟨i1,i2⟩:=W4.sm_pos y n;have e:(Ek.sm (n+1) fun j=>(y j).conj*y j).re.toQ=(Ek.sm n fun j=>(y j).conj*y j).re.toQ+((y n).re.toQ*(y n).re.toQ+(y n).im.toQ*(y n).im.toQ):=by
   rw [←zP];rfl
  rw [e];have s1:=NN0.sq (y n).re.toQ;have s2:=NN0.sq (y n).im.toQ;have s3:=s1.1.add s2.1;have s4:=i1.add s3.1;refine⟨s4.1,fun h j hj=>?_⟩;obtain⟨a,b⟩:=s4.2 h;obtain⟨c,d⟩:=s3.2 b
  by_cases hjn:j=n
  ·subst hjn;rw [W4.zero_eq];exact W4.ext' (cL ((s1.2 c).trans toQ_zero.symm)) (cL ((s2.2 d).trans toQ_zero.symm))
  ·exact i2 a j oq
theorem W4.sm_zero {n:Nat}{y:Nat→W4}(h:Ek.sm n (fun j=>(y j).conj*y j)=0):∀j,j<n→y j=0:=
 (W4.sm_pos y n).2 (by rw [h];rfl)
theorem W4.rank {n:Nat}{M E:Nat→Nat→W4}{ps:List Nat}(hE:Ek.Ech n E ps 3) (hK:∀x,Ek.Ker n 3 E x↔Ek.Ker n 3 M x) :
 ps.length=3↔Ek.det3 (fun i k=>Ek.sm n fun j=>(M j i).conj*M j k)≠0:=
 Ek.aOq (fun _=>W4.inv) W4.conj_add W4.mul_conj (fun _=>W4.sm_zero) hE hK
open IntKind (wrap)
theorem W4.div_eq {x y:W4}(h:y≠W4.zero):x.div y=x*(W4.real 1).div y:=by
 have h1:=W4.mul_div (x:=x) h;have h2:=W4.mul_div (x:=W4.real 1) h;have h1:x.div y*y=x:=h1;have h2:(W4.real 1).div y*y=1:=h2;have h3:x*(W4.real 1).div y=x.div y*((W4.real 1).div y*y):=by
  have:=Ek.rg [x.div y,y,(W4.real 1).div y] (Ek.X0*Ek.X1*Ek.X2) (Ek.X0*(Ek.X2*Ek.X1)) rfl;refine Eq.trans ?_ this;show _=x.div y*y*(W4.real 1).div y;rw [h1]
 rw [h3,h2,Ek.m1]
theorem W4.one_div {y:W4}(h:y≠W4.zero):y*(W4.real 1).div y=1:=(W4.mul_comm _ _).trans (W4.mul_div h)
theorem W4.sub_zm (a b:W4):a-W4.zero*b=a:=(congrArg (a-·) (Ek.zm b)).trans (Ek.s0 a)
def szE:Nat→Nat
 | 0=>1
 | 1=>635
 | 2=>102075
 | _+3=>16332475
theorem aVo {c:Nat}(hc:c<3):szE (c+1)=160*szE c+475∧1≤szE c∧szE c≤102075:=by
 match c,hc with
 | 0,_=>decide
 | 1,_=>decide
 | 2,_=>decide
def aIu (n t:Int):Nat:=plc (wrap .i64 (wrap .i64 (0-n)*t))
def eZ (f:Nat→Int×Int) (n:Int) (i k:Nat):W4:=if k=0 then iV (aIu n (f i).1) else if k=1 then iV (aIu n (f i).2) else iV 0
def EchR (n:Nat) (M:Nat→Nat→W4) (ps:List Nat):Prop:=∃E,Ek.Ech n E ps 3∧∀x,Ek.Ker n 3 E x↔Ek.Ker n 3 M x
open Go.RowKit
open Sy (Up Sees CallsG Seg RowC FamC RowAt ReadAt ReadIn)
structure FamV {α:Type}(n:Nat) (len:Nat→Nat) (s:Nat) (P:Array Value→α→Prop) (F:Nat→Nat→α) (X Y:Array Value):Prop where
 sx:X.size=n
 sy:Y.size=n
 row:∀j,j<n→∃A c cs,X[j]?=some (.slice A (len j) c)∧len j≤c∧Y[j]?=some (.agg cs)∧ArrV (len j) s P cs (F j)
def Els2 {α:Type}(k:World) (A:Option Addr) (n m s:Nat) (P:Array Value→α→Prop) (F:Nat→Nat→α):Prop:=
 Els k A n 1 (fun a (g:Nat→α)=>∃B c,a=#[.slice B m c]∧m≤c∧Els k B m s P g) F
section
variable {α:Type}{k k':World}{A:Option Addr}{n m s i j l c:Nat}{len len':Nat→Nat}{P Q:Array Value→α→Prop}{F F':Nat→Nat→α}{X Y cs:Array Value}
theorem aMy (n:Nat):madeCells [Value.slice none 0 0].toArray (n*1)=Array.replicate n (.slice none 0 0):=by
 apply jc;intro i;rw [js]
 by_cases hi:i<n
 ·simp [madeCells,hi,Nat.mod_one]
 ·rw [zq (by simp [madeCells];omega),Array.getElem?_eq_none (by simp;omega)]
theorem FamV.nils (n:Nat):FamV n (fun _=>0) s P F (Array.replicate n (.slice none 0 0)) (Array.replicate n (.agg #[])):=
 ⟨by simp,by simp,fun j hj=>⟨none,0,#[],by rw [vz,og hj],oy _,by rw [vz,og hj],ArrV.empty⟩⟩
theorem FamV.as (h:FamV n len s P F X Y) (hP:∀a v,P a v→Q a v) (hl:∀j,j<n→len' j=len j):FamV n len' s Q F X Y:=
 ⟨h.sx,h.sy,fun j hj=>by rw [hl j hj];obtain⟨A,c,cs,h1,h2,h3,h4⟩:=h.row j hj;exact⟨A,c,cs,h1,h2,h3,h4.mono hP⟩⟩
theorem FamV.congr (h:FamV n len s P F X Y) (e:∀j,j<n→∀p,p<len j→F j p=F' j p):FamV n len s P F' X Y:=
 ⟨h.sx,h.sy,fun j hj=>by obtain⟨A,c,cs,h1,h2,h3,h4⟩:=h.row j hj;exact⟨A,c,cs,h1,h2,h3,h4.congr (e j hj)⟩⟩
theorem FamV.mono (h:FamV n len s P F X Y) (hP:∀a v,P a v→Q a v):FamV n len s Q F X Y:=h.as hP fun _ _=>rfl
theorem FamV.get (h:FamV n len s P F X Y) (hx:X[j]?=some (.slice A l c)) (hy:Y[j]?=some (.agg cs)):l=len j∧len j≤c∧ArrV (len j) s P cs (F j):=by
 have hj:j<n:=by rw [←h.sx];exact (jq.1 hx).1
 obtain⟨B,d,ds,h1,h2,h3,h4⟩:=h.row j hj;rw [h1]at hx;rw [h3]at hy;injection hx with hx;injection hx with e1 e2 e3;injection hy with hy;injection hy with hy;subst e2 e3 hy;exact⟨rfl,h2,h4⟩
theorem FamV.set (h:FamV n len s P F X Y) (hj:j<n) (hP:∀a v,P a v→Q a v) (hc:l≤c) (ha:ArrV l s Q cs (F' j)) (hl:∀i,i<n→i≠j→len' i=len i) (hl':len' j=l) (hF:∀i,i<n→i≠j→F' i=F i) :
 FamV n len' s Q F' ((X.setIfInBounds j (.slice none 0 0)).setIfInBounds j (.slice A l c)) ((Y.setIfInBounds j (.agg #[])).setIfInBounds j (.agg cs)):=by
 refine⟨by simp [h.sx],by simp [h.sy],fun i hi=>?_⟩
 by_cases e:i=j
 ·subst e;rw [hl'];exact⟨A,c,cs,by simp [h.sx,hi],hc,by simp [h.sy,hi],ha⟩
 ·rw [hl i hi e,hF i hi e];obtain⟨B,d,ds,h1,h2,h3,h4⟩:=h.row i hi;refine⟨B,d,ds,?_,h2,?_,h4.mono hP⟩
  ·simp only [qz];rw [oh (fun e'=>e e'.symm),oh (fun e'=>e e'.symm)];exact h1
  ·simp only [qz];rw [oh (fun e'=>e e'.symm),oh (fun e'=>e e'.symm)];exact h3
theorem FamV.set1 (h:FamV n len s P F X Y) (hj:j<n) (hP:∀a v,P a v→Q a v) (hc:l≤c) (ha:ArrV l s Q cs (F' j)) (hl:∀i,i<n→i≠j→len' i=len i) (hl':len' j=l) (hF:∀i,i<n→i≠j→F' i=F i) :
 FamV n len' s Q F' (X.setIfInBounds j (.slice A l c)) (Y.setIfInBounds j (.agg cs)):=by
 have:=h.set (A:=A) hj hP hc ha hl hl' hF
 rwa [za,za]at this
theorem FamV.rowC (h:FamV n len s P F X Y):RowC X:=fun u hu=>by
 obtain⟨j,hj⟩:=List.getElem?_of_mem hu;rw [jk]at hj;obtain⟨A,c,cs,h1,_⟩:=h.row j (by rw [←h.sx];exact (jq.1 hj).1);rw [h1]at hj;injection hj with hj;rw [←hj];exact⟨rfl,rfl⟩
theorem FamV.famC (h:FamV n len s P F X Y) (hP:∀a v,P a v→Seg s a):FamC Y:=fun u hu=>by
 obtain⟨j,hj⟩:=List.getElem?_of_mem hu;rw [jk]at hj;obtain⟨A,c,cs,_,_,h3,h4⟩:=h.row j (by rw [←h.sy];exact (jq.1 hj).1);rw [h3]at hj;injection hj with hj;exact⟨cs,hj.symm,h4.rowC hP⟩
theorem gF (X:Array Value) (v:Value):Sy.over X (Int.toNat (j:Int)*1+0) [v]=X.setIfInBounds j v:=by
 show X.setIfInBounds (Int.toNat (j:Int)*1+0) v=_;rw [oo,js,jh]
theorem aBf {xs:Array Value}(h:RowAt k A xs) (u:Up k k'):RowAt k' A xs:=fun p v hp=>by
 obtain⟨b,e,hb,hc⟩:=h p v hp;exact⟨b,e,qy hb u.size,u.cell hc⟩
theorem FamV.els (h:FamV n (fun _=>m) s P F X Y) (hP:∀a v,P a v→Seg s a) (hp:∀(j:Nat) (A:Option Addr) (n c:Nat) (cs:Array Value),X[j]?=some (.slice A n c)→Y[j]?=some (.agg cs)→RowAt k A cs) (hr:RowAt k A X):Els2 k A n m s P F:=by
 refine⟨X,.of hr,h.rowC,by rw [h.sx,js],fun j hj=>?_⟩;obtain⟨B,c,cs,h1,h2,h3,h4⟩:=h.row j hj;refine⟨B,c,lL (a:=#[.slice B m c]) rfl fun q hq=>?_,h2,h4.els hP (hp j B m c cs h1 h3)⟩;have hq0:q=0:=oq
 subst hq0;rw [fZ _ _ _ _ hq (by rw [h.sx];omega),js,jh,h1];rfl
theorem Els2.up (h:Els2 k A n m s P F) (u:Up k k') (hP:∀a v,P a v→Q a v):Els2 k' A n m s Q F:=
 (Els.up h u).mono fun _ _ ⟨B,c,e,hc,h⟩=>⟨B,c,e,hc,(h.up u).mono hP⟩
theorem Els2.row (h:Els2 k A n m s P F) (hi:i<n):∃B c,m≤c∧Els k B m s P (F i)∧(∃b o,A=some ⟨b,o,none⟩)∧∀k',Up k k'→ReadAt k'.cell? A (Int.toNat (i:Int)*1+0) 1 (.slice B m c):=by
 obtain⟨a,h1,⟨B,c,rfl,hc,h2⟩,h3,h4⟩:=Els.el h hi oz;exact⟨B,c,hc,h2,h3,fun k' u=>h4 k' u 0 1 _ rfl fun q v hv=>by rw [qc];exact hv⟩
end
open Value (agg slice int bool tuple)
open Sy (Up Sees CallsG Seg execFn_use)
set_option maxRecDepth 100000
variable {k:World}{R:World→Value→Prop}{A0 A1:Option Addr}{c0 c1 l0 l1 p1 p2:Nat}{n0 n1 n2 n3:Int}{cs0 cs1 cs2 cs3 cs4 cs5 cs6 cs7 cs8:Array Value}
theorem aLs 
 (h:Br (Option.isNone (A0:Option Addr)) (Rt R k (tuple #[slice none 0 0,agg #[]])) (∀(_A1:Option Addr) (l1 c1:Nat) (cs2:Array Value),l1=0→cs2=([]:List Value).toArray→l1≤c1→
 ∃cs3,Sy.RowC cs3∧(cs3.size=l0*18∧∀(p:Nat) (u:Value),cs3[p]?=some u→Sy.cellAt k.cell? A0 p=some u)∧
 (cs3.toList:List Value).length=Int.toNat (l0:Nat)*18∧(0:Int)≤(l0:Nat)∧Sy.sizeOk 304 (l1+Int.toNat (l0:Nat))∧∀(A4:Option Addr) (l4 c4:Nat) (cs5:Array Value),l4=l1+Int.toNat (l0:Nat)→cs5=cs2++(cs3.toList:List Value).toArray→l4≤c4→
 Rt R k (tuple #[slice A4 l4 c4,agg cs5]))) :
  Sy.CallsR Tryz.prog 137 #[slice A0 l0 c0] k 44 18 R:=
  Sy.execFnR_use (cfg:={ opq:=[44],gift:=some (44,18) }) (args:=[.one (.var 0)]) (vals:=[slice A0 l0 c0]) (kinds:=[.slice]) ox ⟨qS,trivial⟩ ox ox h
theorem aHb 
 (h:Tt∧((0:Int)≤(l0:Nat)∧Sy.sizeOk 24 (Int.toNat (l0:Nat))∧∀(A1:Option Addr) (l1 c1:Nat) (cs2:Array Value),l1=Int.toNat (l0:Nat)→cs2=madeCells [slice none 0 0].toArray (Int.toNat (l0:Nat)*1)→l1≤c1→
 ∀cs3 cs4:Array Value,cs3=Array.replicate (Int.toNat (l1:Nat)) (slice none 0 0)→cs4=Array.replicate (Int.toNat (l1:Nat)) (agg #[])→
 Tt∧(∃I0:Nat→World→List Value→Prop,(∃m0,∀k0,Up k k0→I0 m0 k0 [int .i64 0,tuple #[slice A1 l1 c1,agg cs2],tuple #[agg cs3,agg cs4]])∧
 ∀m0 k0 vs0,Up k k0→I0 m0 k0 vs0→∃n5,∃A6 l6 c6,∃cs7,Sy.RowC cs7∧∃cs8,Sy.RowC cs8∧∃cs9,Sy.FamC cs9∧some [int .i64 n5,tuple #[slice A6 l6 c6,agg cs7],tuple #[agg cs8,agg cs9]]=some vs0∧
 Br (decide ((n5:Int)<(l0:Nat))) (Ad A0∧Ix n5 l0∧
 ∃A10 l10 c10,Sy.ReadAt k0.cell? A0 (Int.toNat n5*1+0) 1 (slice A10 l10 c10)∧
 ∀k1,Up k0 k1→Sy.CallsR Tryz.prog 137 #[slice A10 l10 c10] k1 44 18 fun k2 r1=>∃A11 l11 c11,∃cs12,r1=tuple #[slice A11 l11 c11,agg cs12]∧
 (decide ((0:Int)≤n5∧(n5:Int)<(l6:Nat)))=true∧
 (Ix n5 l6∧∀cs13:Array Value,cs13=Sy.over cs7 (Int.toNat n5*1+0) ([slice A11 l11 c11])→
 ∀cs14 cs15:Array Value,cs14=cs8.setIfInBounds (Int.toNat n5) (slice A11 l11 c11)→cs15=cs9.setIfInBounds (Int.toNat n5) (agg cs12)→
 ∀k3,Up k2 k3→∃m,m<m0∧I0 m k3 [int .i64 (wrap .i64 (n5+1)),tuple #[slice A6 l6 c6,agg cs13],tuple #[agg cs14,agg cs15]])) (Rt R k0 (tuple #[slice A6 l6 c6,agg cs7,agg cs8,agg cs9]))))) :
  Sy.CallsRF Tryz.prog 119 #[slice A0 l0 c0] k 109 1 44 18 R:=
  Sy.execFnRF_use (cfg:={ opq:=[44],loops:=[(0,[.tmp 11 false [.int .i64],.rw 3 109 1,.fm 44 18])],adopt:=[137],gho:=[(1,true,[.mk 3 44 18]),(5,true,[.give 17 19])],gift:=some (109,1),giftF:=some (44,18) }) (args:=[.one (.var 0)]) (vals:=[slice A0 l0 c0]) (kinds:=[.slice]) ox ⟨qS,trivial⟩ ox ox h
theorem aRl 
 (h:Cl k 8 #[int .i64 n0] fun k1 r0=>Gt 3 r0 fun cs1=>
 Cl k1 173 #[agg #[bool false,slice none 0 0,bool false,slice none 0 0,bool false,slice none 0 0,bool false,slice none 0 0,slice none 0 0,bool false,slice none 0 0,bool false,slice none 0 0,bool false,slice none 0 0,bool false,slice none 0 0,slice none 0 0],agg cs1] fun k3 r2=>Gt 18 r2 fun cs2=>
 Rt R k3 (agg cs2)) :
  CallsG Tryz.prog 120 #[int .i64 n0] k R:=
  qY { opq:=[44,41] } h
theorem aCf 
 (h:Tt∧(Br (((l0:Nat):Int) == 0) (Rt R k (int .i64 0)) (Ad A0∧((0:Int)≤0∧(0:Int)<(l0:Nat))∧
 ∃A1 l1 c1,Sy.ReadAt k.cell? A0 (Int.toNat 0*1+0) 1 (slice A1 l1 c1)∧
 Tt∧(Rt R k (int .i64 (l1:Nat)))))) :
  CallsG Tryz.prog 116 #[slice A0 l0 c0] k R:=
  qY { opq:=[44] } h
theorem aCn 
 (h:∀k0,Up k k0→Sy.CallsRF Tryz.prog 119 #[slice A0 l0 c0] k0 109 1 44 18 fun k1 r0=>∃A1 l1 c1,∃cs2 cs3 cs4:Array Value,r0=tuple #[slice A1 l1 c1,agg cs2,agg cs3,agg cs4]∧
 Cl k1 120 #[int .i64 1] fun k3 r2=>Gt 18 r2 fun cs5=>
 ∀k4,Up k3 k4→Sy.RowAt k4 A1 cs2→CallsG Tryz.prog 116 #[slice A1 l1 c1] k4 fun _ r4=>Gi r4 fun n6=>∀k5,Up k3 k5→
 ∃I6:Nat→World→List Value→Prop,(∃m6,∀k6,Up k5 k6→I6 m6 k6 [int .i64 0,tuple #[slice A1 l1 c1,agg cs2],tuple #[agg cs3,agg cs4],tuple #[slice none 0 0,agg #[]],agg cs5])∧
 ∀m6 k6 vs6,Up k5 k6→I6 m6 k6 vs6→∃n7,∃A8 l8 c8,∃cs9,Sy.RowC cs9∧∃cs10,Sy.RowC cs10∧∃cs11,Sy.FamC cs11∧∃A12 l12 c12,∃cs13,Sy.RowC cs13∧∃cs14,Seg 18 cs14∧some [int .i64 n7,tuple #[slice A8 l8 c8,agg cs9],tuple #[agg cs10,agg cs11],tuple #[slice A12 l12 c12,agg cs13],agg cs14]=some vs6∧
 Br (decide ((n7:Int)<n6)) (Tt∧(∃J7:World→List Value→Prop,(∃I7:Nat→World→List Value→Prop,(∃m7,∀k7,Up k6 k7→I7 m7 k7 [int .i64 (l12:Nat),tuple #[agg cs10,agg cs11]])∧
 ∀m7 k7 vs7,Up k6 k7→I7 m7 k7 vs7→∃n15,∃cs16,Sy.RowC cs16∧∃cs17,Sy.FamC cs17∧some [int .i64 n15,tuple #[agg cs16,agg cs17]]=some vs7∧
 ∀(A18:Option Addr) (l18 c18:Nat) (cs19 cs20 cs21:Array Value),(Int.toNat n15<cs16.size→cs16[Int.toNat n15]?=some (slice A18 l18 c18)∧cs17[Int.toNat n15]?=some (agg cs19))→cs20=cs16.setIfInBounds (Int.toNat n15) (slice none 0 0)→cs21=cs17.setIfInBounds (Int.toNat n15) (agg #[])→
 Tt∧(Br (decide ((n15:Int)<(l8:Nat))) ((decide ((0:Int)≤n15∧(n15:Int)<(l8:Nat)))=true∧
 (Sy.ReadIn cs9 (Int.toNat n15*1+0) 1 (slice A18 l18 c18)∧
 (decide ((0:Int)≤n7∧(n7:Int)<(l18:Nat)))=true∧
 (∃cs22,Seg 18 cs22∧Sy.ReadIn cs19 (Int.toNat n7*18+0) 18 (agg cs22)∧
 Cl k7 175 #[agg cs22] fun k9 r8=>Gb r8 fun b23=>
 ∀cs24 cs25:Array Value,cs24=cs20.setIfInBounds (Int.toNat n15) (slice A18 l18 c18)→cs25=cs21.setIfInBounds (Int.toNat n15) (agg cs19)→
 Br b23 (∀k10,Up k9 k10→∃m,m<m7∧I7 m k10 [int .i64 (wrap .i64 (n15+1)),tuple #[agg cs24,agg cs25]]) (∀k11,Up k9 k11→J7 k11 [int .i64 n15,tuple #[agg cs24,agg cs25]])))) (∀cs22 cs23:Array Value,cs22=cs20.setIfInBounds (Int.toNat n15) (slice A18 l18 c18)→cs23=cs21.setIfInBounds (Int.toNat n15) (agg cs19)→
 ∀k12,Up k7 k12→J7 k12 [int .i64 n15,tuple #[agg cs22,agg cs23]])))∧
 ∀k13 vs13,Up k6 k13→J7 k13 vs13→∃n15,∃cs16,Sy.RowC cs16∧∃cs17,Sy.FamC cs17∧some [int .i64 n15,tuple #[agg cs16,agg cs17]]=some vs13∧
 Tt∧(Br ((n15:Int) == (l8:Nat)) (Cl k13 120 #[int .i64 0] fun k15 r14=>Gt 18 r14 fun cs18=>
 ∀k16,Up k15 k16→∃m,m<m6∧I6 m k16 [int .i64 (wrap .i64 (n7+1)),tuple #[slice A8 l8 c8,agg cs9],tuple #[agg cs16,agg cs17],tuple #[slice A12 l12 c12,agg cs13],agg cs18]) (Br ((n15:Int) != (l12:Nat)) (∀(A18:Option Addr) (l18 c18:Nat) (cs19 cs20 cs21:Array Value),(Int.toNat n15<cs16.size→cs16[Int.toNat n15]?=some (slice A18 l18 c18)∧cs17[Int.toNat n15]?=some (agg cs19))→cs20=cs16.setIfInBounds (Int.toNat n15) (slice none 0 0)→cs21=cs17.setIfInBounds (Int.toNat n15) (agg #[])→
 ∀(A22:Option Addr) (l22 c22:Nat) (cs23 cs24 cs25:Array Value),(Int.toNat (l12:Nat)<cs20.size→cs20[Int.toNat (l12:Nat)]?=some (slice A22 l22 c22)∧cs21[Int.toNat (l12:Nat)]?=some (agg cs23))→cs24=cs20.setIfInBounds (Int.toNat (l12:Nat)) (slice none 0 0)→cs25=cs21.setIfInBounds (Int.toNat (l12:Nat)) (agg #[])→
 (decide ((0:Int)≤(l12:Nat)∧((l12:Nat):Int)<(l8:Nat)))=true∧
 (Sy.ReadIn cs9 (Int.toNat (l12:Nat)*1+0) 1 (slice A22 l22 c22)∧
 (decide ((0:Int)≤n15∧(n15:Int)<(l8:Nat)))=true∧
 (Sy.ReadIn cs9 (Int.toNat n15*1+0) 1 (slice A18 l18 c18)∧
 (decide ((0:Int)≤n15∧(n15:Int)<(l8:Nat)))=true∧
 (Ix n15 l8∧∀cs26:Array Value,cs26=Sy.over cs9 (Int.toNat n15*1+0) ([slice A22 l22 c22])→
 (decide ((0:Int)≤(l12:Nat)∧((l12:Nat):Int)<(l8:Nat)))=true∧
 (((0:Int)≤(l12:Nat)∧((l12:Nat):Int)<(l8:Nat))∧∀cs27:Array Value,cs27=Sy.over cs26 (Int.toNat (l12:Nat)*1+0) ([slice A18 l18 c18])→
 ∀cs28 cs29:Array Value,cs28=cs24.setIfInBounds (Int.toNat (l12:Nat)) (slice A18 l18 c18)→cs29=cs25.setIfInBounds (Int.toNat (l12:Nat)) (agg cs19)→
 ∀cs30 cs31:Array Value,cs30=cs28.setIfInBounds (Int.toNat n15) (slice A22 l22 c22)→cs31=cs29.setIfInBounds (Int.toNat n15) (agg cs23)→
 Cl k13 172 #[agg cs14] fun k18 r17=>Gt 18 r17 fun cs32=>
 ∀(A33:Option Addr) (l33 c33:Nat) (cs34 cs35 cs36:Array Value),(Int.toNat (l12:Nat)<cs30.size→cs30[Int.toNat (l12:Nat)]?=some (slice A33 l33 c33)∧cs31[Int.toNat (l12:Nat)]?=some (agg cs34))→cs35=cs30.setIfInBounds (Int.toNat (l12:Nat)) (slice none 0 0)→cs36=cs31.setIfInBounds (Int.toNat (l12:Nat)) (agg #[])→
 (decide ((0:Int)≤(l12:Nat)∧((l12:Nat):Int)<(l8:Nat)))=true∧
 (Sy.ReadIn cs27 (Int.toNat (l12:Nat)*1+0) 1 (slice A33 l33 c33)∧
 (decide ((0:Int)≤n7∧(n7:Int)<(l33:Nat)))=true∧
 (∃cs37,Seg 18 cs37∧Sy.ReadIn cs34 (Int.toNat n7*18+0) 18 (agg cs37)∧
 ∀cs38 cs39:Array Value,cs38=cs35.setIfInBounds (Int.toNat (l12:Nat)) (slice A33 l33 c33)→cs39=cs36.setIfInBounds (Int.toNat (l12:Nat)) (agg cs34)→
 Cl k18 170 #[agg cs32,agg cs37] fun k20 r19=>Gt 18 r19 fun cs40=>
 ∀(A41:Option Addr) (l41 c41:Nat) (cs42 cs43 cs44:Array Value),(Int.toNat (l12:Nat)<cs38.size→cs38[Int.toNat (l12:Nat)]?=some (slice A41 l41 c41)∧cs39[Int.toNat (l12:Nat)]?=some (agg cs42))→cs43=cs38.setIfInBounds (Int.toNat (l12:Nat)) (slice none 0 0)→cs44=cs39.setIfInBounds (Int.toNat (l12:Nat)) (agg #[])→
 (decide ((0:Int)≤(l12:Nat)∧((l12:Nat):Int)<(l8:Nat)))=true∧
 (Sy.ReadIn cs27 (Int.toNat (l12:Nat)*1+0) 1 (slice A41 l41 c41)∧
 Tt∧(∀cs45 cs46:Array Value,cs45=cs43.setIfInBounds (Int.toNat (l12:Nat)) (slice A41 l41 c41)→cs46=cs44.setIfInBounds (Int.toNat (l12:Nat)) (agg cs42)→
 ∃I21:Nat→World→List Value→Prop,(∃m21,∀k21,Up k20 k21→I21 m21 k21 [int .i64 0,tuple #[agg cs45,agg cs46]])∧
 ∀m21 k21 vs21,Up k20 k21→I21 m21 k21 vs21→∃n47,∃cs48,Sy.RowC cs48∧∃cs49,Sy.FamC cs49∧some [int .i64 n47,tuple #[agg cs48,agg cs49]]=some vs21∧
 Br (decide ((n47:Int)<(l41:Nat))) (∀(A50:Option Addr) (l50 c50:Nat) (cs51 cs52 cs53:Array Value),(Int.toNat (l12:Nat)<cs48.size→cs48[Int.toNat (l12:Nat)]?=some (slice A50 l50 c50)∧cs49[Int.toNat (l12:Nat)]?=some (agg cs51))→cs52=cs48.setIfInBounds (Int.toNat (l12:Nat)) (slice none 0 0)→cs53=cs49.setIfInBounds (Int.toNat (l12:Nat)) (agg #[])→
 (decide ((0:Int)≤(l12:Nat)∧((l12:Nat):Int)<(l8:Nat)))=true∧
 (Sy.ReadIn cs27 (Int.toNat (l12:Nat)*1+0) 1 (slice A50 l50 c50)∧
 (decide ((0:Int)≤(l12:Nat)∧((l12:Nat):Int)<(l8:Nat)))=true∧
 (Sy.ReadIn cs27 (Int.toNat (l12:Nat)*1+0) 1 (slice A50 l50 c50)∧
 (decide ((0:Int)≤n47∧(n47:Int)<(l50:Nat)))=true∧
 (∃cs54,Seg 18 cs54∧Sy.ReadIn cs51 (Int.toNat n47*18+0) 18 (agg cs54)∧
 Cl k21 169 #[agg cs54,agg cs37] fun k23 r22=>∃cs55,Seg 18 cs55∧∃n56,some (tuple #[agg cs55,int .i64 n56])=some r22∧
 (decide ((0:Int)≤n47∧(n47:Int)<(l50:Nat)))=true∧
 (Ix n47 l50∧∀cs57:Array Value,cs57=Sy.over cs51 (Int.toNat n47*18+0) (cs55.toList++([]))→
 ∀cs58 cs59:Array Value,cs58=cs52.setIfInBounds (Int.toNat (l12:Nat)) (slice A50 l50 c50)→cs59=cs53.setIfInBounds (Int.toNat (l12:Nat)) (agg cs57)→
 ∀k24,Up k23 k24→∃m,m<m21∧I21 m k24 [int .i64 (wrap .i64 (n47+1)),tuple #[agg cs58,agg cs59]]))))) (Tt∧(∃I25:Nat→World→List Value→Prop,(∃m25,∀k25,Up k21 k25→I25 m25 k25 [int .i64 0,tuple #[agg cs48,agg cs49]])∧
 ∀m25 k25 vs25,Up k21 k25→I25 m25 k25 vs25→∃n50,∃cs51,Sy.RowC cs51∧∃cs52,Sy.FamC cs52∧some [int .i64 n50,tuple #[agg cs51,agg cs52]]=some vs25∧
 Br (decide ((n50:Int)<(l8:Nat))) (∀(A53:Option Addr) (l53 c53:Nat) (cs54 cs55 cs56:Array Value),(Int.toNat n50<cs51.size→cs51[Int.toNat n50]?=some (slice A53 l53 c53)∧cs52[Int.toNat n50]?=some (agg cs54))→cs55=cs51.setIfInBounds (Int.toNat n50) (slice none 0 0)→cs56=cs52.setIfInBounds (Int.toNat n50) (agg #[])→
 (decide ((0:Int)≤n50∧(n50:Int)<(l8:Nat)))=true∧
 (Sy.ReadIn cs27 (Int.toNat n50*1+0) 1 (slice A53 l53 c53)∧
 (decide ((0:Int)≤n7∧(n7:Int)<(l53:Nat)))=true∧
 (∃cs57,Seg 18 cs57∧Sy.ReadIn cs54 (Int.toNat n7*18+0) 18 (agg cs57)∧
 ∀cs58 cs59:Array Value,cs58=cs55.setIfInBounds (Int.toNat n50) (slice A53 l53 c53)→cs59=cs56.setIfInBounds (Int.toNat n50) (agg cs54)→
 Br ((n50:Int) == (l12:Nat)) (∀k26,Up k25 k26→∃m,m<m25∧I25 m k26 [int .i64 (wrap .i64 (n50+1)),tuple #[agg cs58,agg cs59]]) (Cl k25 175 #[agg cs57] fun k28 r27=>Gb r27 fun b60=>
 Br b60 (∀k29,Up k28 k29→∃m,m<m25∧I25 m k29 [int .i64 (wrap .i64 (n50+1)),tuple #[agg cs58,agg cs59]]) (∀(A61:Option Addr) (l61 c61:Nat) (cs62 cs63 cs64:Array Value),(Int.toNat n50<cs58.size→cs58[Int.toNat n50]?=some (slice A61 l61 c61)∧cs59[Int.toNat n50]?=some (agg cs62))→cs63=cs58.setIfInBounds (Int.toNat n50) (slice none 0 0)→cs64=cs59.setIfInBounds (Int.toNat n50) (agg #[])→
 (decide ((0:Int)≤n50∧(n50:Int)<(l8:Nat)))=true∧
 (Sy.ReadIn cs27 (Int.toNat n50*1+0) 1 (slice A61 l61 c61)∧
 Tt∧(∀cs65 cs66:Array Value,cs65=cs63.setIfInBounds (Int.toNat n50) (slice A61 l61 c61)→cs66=cs64.setIfInBounds (Int.toNat n50) (agg cs62)→
 ∃I30:Nat→World→List Value→Prop,(∃m30,∀k30,Up k28 k30→I30 m30 k30 [int .i64 0,tuple #[agg cs65,agg cs66]])∧
 ∀m30 k30 vs30,Up k28 k30→I30 m30 k30 vs30→∃n67,∃cs68,Sy.RowC cs68∧∃cs69,Sy.FamC cs69∧some [int .i64 n67,tuple #[agg cs68,agg cs69]]=some vs30∧
 Br (decide ((n67:Int)<(l61:Nat))) (∀(A70:Option Addr) (l70 c70:Nat) (cs71 cs72 cs73:Array Value),(Int.toNat n50<cs68.size→cs68[Int.toNat n50]?=some (slice A70 l70 c70)∧cs69[Int.toNat n50]?=some (agg cs71))→cs72=cs68.setIfInBounds (Int.toNat n50) (slice none 0 0)→cs73=cs69.setIfInBounds (Int.toNat n50) (agg #[])→
 ∀(A74:Option Addr) (l74 c74:Nat) (cs75 cs76 cs77:Array Value),(Int.toNat (l12:Nat)<cs72.size→cs72[Int.toNat (l12:Nat)]?=some (slice A74 l74 c74)∧cs73[Int.toNat (l12:Nat)]?=some (agg cs75))→cs76=cs72.setIfInBounds (Int.toNat (l12:Nat)) (slice none 0 0)→cs77=cs73.setIfInBounds (Int.toNat (l12:Nat)) (agg #[])→
 (decide ((0:Int)≤n50∧(n50:Int)<(l8:Nat)))=true∧
 (Sy.ReadIn cs27 (Int.toNat n50*1+0) 1 (slice A70 l70 c70)∧
 (decide ((0:Int)≤n50∧(n50:Int)<(l8:Nat)))=true∧
 (Sy.ReadIn cs27 (Int.toNat n50*1+0) 1 (slice A70 l70 c70)∧
 (decide ((0:Int)≤n67∧(n67:Int)<(l70:Nat)))=true∧
 (∃cs78,Seg 18 cs78∧Sy.ReadIn cs71 (Int.toNat n67*18+0) 18 (agg cs78)∧
 (decide ((0:Int)≤(l12:Nat)∧((l12:Nat):Int)<(l8:Nat)))=true∧
 (Sy.ReadIn cs27 (Int.toNat (l12:Nat)*1+0) 1 (slice A74 l74 c74)∧
 (decide ((0:Int)≤n67∧(n67:Int)<(l74:Nat)))=true∧
 (∃cs79,Seg 18 cs79∧Sy.ReadIn cs75 (Int.toNat n67*18+0) 18 (agg cs79)∧
 Cl k30 170 #[agg cs57,agg cs79] fun k32 r31=>Gt 18 r31 fun cs80=>
 Cl k32 174 #[agg cs78,agg cs80] fun k34 r33=>Gt 18 r33 fun cs81=>
 (decide ((0:Int)≤n67∧(n67:Int)<(l70:Nat)))=true∧
 (Ix n67 l70∧∀cs82:Array Value,cs82=Sy.over cs71 (Int.toNat n67*18+0) (cs81.toList++([]))→
 ∀cs83 cs84:Array Value,cs83=cs76.setIfInBounds (Int.toNat n50) (slice A70 l70 c70)→cs84=cs77.setIfInBounds (Int.toNat n50) (agg cs82)→
 ∀cs85 cs86:Array Value,cs85=cs83.setIfInBounds (Int.toNat (l12:Nat)) (slice A74 l74 c74)→cs86=cs84.setIfInBounds (Int.toNat (l12:Nat)) (agg cs75)→
 ∀k35,Up k34 k35→∃m,m<m30∧I30 m k35 [int .i64 (wrap .i64 (n67+1)),tuple #[agg cs85,agg cs86]]))))))) (∀k36,Up k30 k36→∃m,m<m25∧I25 m k36 [int .i64 (wrap .i64 (n50+1)),tuple #[agg cs68,agg cs69]])))))))) (([int .i64 n7]:List Value).length=Int.toNat 1*1∧(0:Int)≤1∧Sy.sizeOk 8 (l12+Int.toNat 1)∧∀(A53:Option Addr) (l53 c53:Nat) (cs54:Array Value),l53=l12+Int.toNat 1→cs54=cs13++([int .i64 n7]:List Value).toArray→l53≤c53→
 ∀k37,Up k25 k37→∃m,m<m6∧I6 m k37 [int .i64 (wrap .i64 (n7+1)),tuple #[slice A8 l8 c8,agg cs27],tuple #[agg cs51,agg cs52],tuple #[slice A53 l53 c53,agg cs54],agg cs40])))))))))))) (∀(A18:Option Addr) (l18 c18:Nat) (cs19 cs20 cs21:Array Value),(Int.toNat (l12:Nat)<cs16.size→cs16[Int.toNat (l12:Nat)]?=some (slice A18 l18 c18)∧cs17[Int.toNat (l12:Nat)]?=some (agg cs19))→cs20=cs16.setIfInBounds (Int.toNat (l12:Nat)) (slice none 0 0)→cs21=cs17.setIfInBounds (Int.toNat (l12:Nat)) (agg #[])→
 (decide ((0:Int)≤(l12:Nat)∧((l12:Nat):Int)<(l8:Nat)))=true∧
 (Sy.ReadIn cs9 (Int.toNat (l12:Nat)*1+0) 1 (slice A18 l18 c18)∧
 (decide ((0:Int)≤n7∧(n7:Int)<(l18:Nat)))=true∧
 (∃cs22,Seg 18 cs22∧Sy.ReadIn cs19 (Int.toNat n7*18+0) 18 (agg cs22)∧
 ∀cs23 cs24:Array Value,cs23=cs20.setIfInBounds (Int.toNat (l12:Nat)) (slice A18 l18 c18)→cs24=cs21.setIfInBounds (Int.toNat (l12:Nat)) (agg cs19)→
 Cl k13 170 #[agg cs14,agg cs22] fun k39 r38=>Gt 18 r38 fun cs25=>
 ∀(A26:Option Addr) (l26 c26:Nat) (cs27 cs28 cs29:Array Value),(Int.toNat (l12:Nat)<cs23.size→cs23[Int.toNat (l12:Nat)]?=some (slice A26 l26 c26)∧cs24[Int.toNat (l12:Nat)]?=some (agg cs27))→cs28=cs23.setIfInBounds (Int.toNat (l12:Nat)) (slice none 0 0)→cs29=cs24.setIfInBounds (Int.toNat (l12:Nat)) (agg #[])→
 (decide ((0:Int)≤(l12:Nat)∧((l12:Nat):Int)<(l8:Nat)))=true∧
 (Sy.ReadIn cs9 (Int.toNat (l12:Nat)*1+0) 1 (slice A26 l26 c26)∧
 Tt∧(∀cs30 cs31:Array Value,cs30=cs28.setIfInBounds (Int.toNat (l12:Nat)) (slice A26 l26 c26)→cs31=cs29.setIfInBounds (Int.toNat (l12:Nat)) (agg cs27)→
 ∃I40:Nat→World→List Value→Prop,(∃m40,∀k40,Up k39 k40→I40 m40 k40 [int .i64 0,tuple #[agg cs30,agg cs31]])∧
 ∀m40 k40 vs40,Up k39 k40→I40 m40 k40 vs40→∃n32,∃cs33,Sy.RowC cs33∧∃cs34,Sy.FamC cs34∧some [int .i64 n32,tuple #[agg cs33,agg cs34]]=some vs40∧
 Br (decide ((n32:Int)<(l26:Nat))) (∀(A35:Option Addr) (l35 c35:Nat) (cs36 cs37 cs38:Array Value),(Int.toNat (l12:Nat)<cs33.size→cs33[Int.toNat (l12:Nat)]?=some (slice A35 l35 c35)∧cs34[Int.toNat (l12:Nat)]?=some (agg cs36))→cs37=cs33.setIfInBounds (Int.toNat (l12:Nat)) (slice none 0 0)→cs38=cs34.setIfInBounds (Int.toNat (l12:Nat)) (agg #[])→
 (decide ((0:Int)≤(l12:Nat)∧((l12:Nat):Int)<(l8:Nat)))=true∧
 (Sy.ReadIn cs9 (Int.toNat (l12:Nat)*1+0) 1 (slice A35 l35 c35)∧
 (decide ((0:Int)≤(l12:Nat)∧((l12:Nat):Int)<(l8:Nat)))=true∧
 (Sy.ReadIn cs9 (Int.toNat (l12:Nat)*1+0) 1 (slice A35 l35 c35)∧
 (decide ((0:Int)≤n32∧(n32:Int)<(l35:Nat)))=true∧
 (∃cs39,Seg 18 cs39∧Sy.ReadIn cs36 (Int.toNat n32*18+0) 18 (agg cs39)∧
 Cl k40 169 #[agg cs39,agg cs22] fun k42 r41=>∃cs40,Seg 18 cs40∧∃n41,some (tuple #[agg cs40,int .i64 n41])=some r41∧
 (decide ((0:Int)≤n32∧(n32:Int)<(l35:Nat)))=true∧
 (Ix n32 l35∧∀cs42:Array Value,cs42=Sy.over cs36 (Int.toNat n32*18+0) (cs40.toList++([]))→
 ∀cs43 cs44:Array Value,cs43=cs37.setIfInBounds (Int.toNat (l12:Nat)) (slice A35 l35 c35)→cs44=cs38.setIfInBounds (Int.toNat (l12:Nat)) (agg cs42)→
 ∀k43,Up k42 k43→∃m,m<m40∧I40 m k43 [int .i64 (wrap .i64 (n32+1)),tuple #[agg cs43,agg cs44]]))))) (Tt∧(∃I44:Nat→World→List Value→Prop,(∃m44,∀k44,Up k40 k44→I44 m44 k44 [int .i64 0,tuple #[agg cs33,agg cs34]])∧
 ∀m44 k44 vs44,Up k40 k44→I44 m44 k44 vs44→∃n35,∃cs36,Sy.RowC cs36∧∃cs37,Sy.FamC cs37∧some [int .i64 n35,tuple #[agg cs36,agg cs37]]=some vs44∧
 Br (decide ((n35:Int)<(l8:Nat))) (∀(A38:Option Addr) (l38 c38:Nat) (cs39 cs40 cs41:Array Value),(Int.toNat n35<cs36.size→cs36[Int.toNat n35]?=some (slice A38 l38 c38)∧cs37[Int.toNat n35]?=some (agg cs39))→cs40=cs36.setIfInBounds (Int.toNat n35) (slice none 0 0)→cs41=cs37.setIfInBounds (Int.toNat n35) (agg #[])→
 (decide ((0:Int)≤n35∧(n35:Int)<(l8:Nat)))=true∧
 (Sy.ReadIn cs9 (Int.toNat n35*1+0) 1 (slice A38 l38 c38)∧
 (decide ((0:Int)≤n7∧(n7:Int)<(l38:Nat)))=true∧
 (∃cs42,Seg 18 cs42∧Sy.ReadIn cs39 (Int.toNat n7*18+0) 18 (agg cs42)∧
 ∀cs43 cs44:Array Value,cs43=cs40.setIfInBounds (Int.toNat n35) (slice A38 l38 c38)→cs44=cs41.setIfInBounds (Int.toNat n35) (agg cs39)→
 Br ((n35:Int) == (l12:Nat)) (∀k45,Up k44 k45→∃m,m<m44∧I44 m k45 [int .i64 (wrap .i64 (n35+1)),tuple #[agg cs43,agg cs44]]) (Cl k44 175 #[agg cs42] fun k47 r46=>Gb r46 fun b45=>
 Br b45 (∀k48,Up k47 k48→∃m,m<m44∧I44 m k48 [int .i64 (wrap .i64 (n35+1)),tuple #[agg cs43,agg cs44]]) (∀(A46:Option Addr) (l46 c46:Nat) (cs47 cs48 cs49:Array Value),(Int.toNat n35<cs43.size→cs43[Int.toNat n35]?=some (slice A46 l46 c46)∧cs44[Int.toNat n35]?=some (agg cs47))→cs48=cs43.setIfInBounds (Int.toNat n35) (slice none 0 0)→cs49=cs44.setIfInBounds (Int.toNat n35) (agg #[])→
 (decide ((0:Int)≤n35∧(n35:Int)<(l8:Nat)))=true∧
 (Sy.ReadIn cs9 (Int.toNat n35*1+0) 1 (slice A46 l46 c46)∧
 Tt∧(∀cs50 cs51:Array Value,cs50=cs48.setIfInBounds (Int.toNat n35) (slice A46 l46 c46)→cs51=cs49.setIfInBounds (Int.toNat n35) (agg cs47)→
 ∃I49:Nat→World→List Value→Prop,(∃m49,∀k49,Up k47 k49→I49 m49 k49 [int .i64 0,tuple #[agg cs50,agg cs51]])∧
 ∀m49 k49 vs49,Up k47 k49→I49 m49 k49 vs49→∃n52,∃cs53,Sy.RowC cs53∧∃cs54,Sy.FamC cs54∧some [int .i64 n52,tuple #[agg cs53,agg cs54]]=some vs49∧
 Br (decide ((n52:Int)<(l46:Nat))) (∀(A55:Option Addr) (l55 c55:Nat) (cs56 cs57 cs58:Array Value),(Int.toNat n35<cs53.size→cs53[Int.toNat n35]?=some (slice A55 l55 c55)∧cs54[Int.toNat n35]?=some (agg cs56))→cs57=cs53.setIfInBounds (Int.toNat n35) (slice none 0 0)→cs58=cs54.setIfInBounds (Int.toNat n35) (agg #[])→
 ∀(A59:Option Addr) (l59 c59:Nat) (cs60 cs61 cs62:Array Value),(Int.toNat (l12:Nat)<cs57.size→cs57[Int.toNat (l12:Nat)]?=some (slice A59 l59 c59)∧cs58[Int.toNat (l12:Nat)]?=some (agg cs60))→cs61=cs57.setIfInBounds (Int.toNat (l12:Nat)) (slice none 0 0)→cs62=cs58.setIfInBounds (Int.toNat (l12:Nat)) (agg #[])→
 (decide ((0:Int)≤n35∧(n35:Int)<(l8:Nat)))=true∧
 (Sy.ReadIn cs9 (Int.toNat n35*1+0) 1 (slice A55 l55 c55)∧
 (decide ((0:Int)≤n35∧(n35:Int)<(l8:Nat)))=true∧
 (Sy.ReadIn cs9 (Int.toNat n35*1+0) 1 (slice A55 l55 c55)∧
 (decide ((0:Int)≤n52∧(n52:Int)<(l55:Nat)))=true∧
 (∃cs63,Seg 18 cs63∧Sy.ReadIn cs56 (Int.toNat n52*18+0) 18 (agg cs63)∧
 (decide ((0:Int)≤(l12:Nat)∧((l12:Nat):Int)<(l8:Nat)))=true∧
 (Sy.ReadIn cs9 (Int.toNat (l12:Nat)*1+0) 1 (slice A59 l59 c59)∧
 (decide ((0:Int)≤n52∧(n52:Int)<(l59:Nat)))=true∧
 (∃cs64,Seg 18 cs64∧Sy.ReadIn cs60 (Int.toNat n52*18+0) 18 (agg cs64)∧
 Cl k49 170 #[agg cs42,agg cs64] fun k51 r50=>Gt 18 r50 fun cs65=>
 Cl k51 174 #[agg cs63,agg cs65] fun k53 r52=>Gt 18 r52 fun cs66=>
 (decide ((0:Int)≤n52∧(n52:Int)<(l55:Nat)))=true∧
 (Ix n52 l55∧∀cs67:Array Value,cs67=Sy.over cs56 (Int.toNat n52*18+0) (cs66.toList++([]))→
 ∀cs68 cs69:Array Value,cs68=cs61.setIfInBounds (Int.toNat n35) (slice A55 l55 c55)→cs69=cs62.setIfInBounds (Int.toNat n35) (agg cs67)→
 ∀cs70 cs71:Array Value,cs70=cs68.setIfInBounds (Int.toNat (l12:Nat)) (slice A59 l59 c59)→cs71=cs69.setIfInBounds (Int.toNat (l12:Nat)) (agg cs60)→
 ∀k54,Up k53 k54→∃m,m<m49∧I49 m k54 [int .i64 (wrap .i64 (n52+1)),tuple #[agg cs70,agg cs71]]))))))) (∀k55,Up k49 k55→∃m,m<m44∧I44 m k55 [int .i64 (wrap .i64 (n35+1)),tuple #[agg cs53,agg cs54]])))))))) (([int .i64 n7]:List Value).length=Int.toNat 1*1∧(0:Int)≤1∧Sy.sizeOk 8 (l12+Int.toNat 1)∧∀(A38:Option Addr) (l38 c38:Nat) (cs39:Array Value),l38=l12+Int.toNat 1→cs39=cs13++([int .i64 n7]:List Value).toArray→l38≤c38→
 ∀k56,Up k44 k56→∃m,m<m6∧I6 m k56 [int .i64 (wrap .i64 (n7+1)),tuple #[slice A8 l8 c8,agg cs9],tuple #[agg cs36,agg cs37],tuple #[slice A38 l38 c38,agg cs39],agg cs25])))))))))))) (∀k57,Up k6 k57→(∀(j:Nat) (A:Option Addr) (n c:Nat) (cs:Array Value),cs10[j]?=some (slice A n c)→cs11[j]?=some (agg cs)→Sy.RowAt k57 A cs)→
 ∀k58,Up k57 k58→Sy.RowAt k58 A8 cs9→
 ∀k59,Up k58 k59→Sy.RowAt k59 A12 cs13→
 Rt R k59 (tuple #[slice A8 l8 c8,slice A12 l12 c12,agg cs14]))) :
  CallsG Tryz.prog 95 #[slice A0 l0 c0] k R:=
  qY { opq:=[44],loops:=[(0,[.tmp 20 false [.int .i64],.rw 0 109 1,.fm 44 18,.rw 5 3 1,.blk 1 [.seg 18]]),(2,[.tmp 9 false [.int .i64],.fm 44 18]),(4,[.tmp 84 false [.int .i64],.fm 44 18]),(6,[.tmp 109 false [.int .i64],.fm 44 18]),(8,[.tmp 132 false [.int .i64],.fm 44 18])],bare:=[116],meets:=[(2,[.tmp 9 false [.int .i64],.fm 44 18])],gho:=[(9,false,[.take 9]),(9,true,[.give 9 9]),(14,false,[.take 9,.take 8]),(14,true,[.give 8 62,.give 9 58]),(16,false,[.take 8]),(16,true,[.give 8 8]),(18,false,[.take 8]),(18,true,[.give 8 8]),(21,false,[.take 8]),(21,true,[.give 8 8]),(26,false,[.take 12]),(26,true,[.give 12 12]),(28,false,[.take 12]),(28,true,[.give 12 12]),(31,false,[.take 12,.take 8]),(31,true,[.give 12 12,.give 8 8]),(36,true,[.pub])],adoptF:=[119],lend:=[116] } h
theorem aUq 
 (h:Cl k 62 #[slice A0 l0 c0] fun k1 r0=>∃A1 l1 c1,∃A2 l2 c2,∃n3,some (tuple #[slice A1 l1 c1,slice A2 l2 c2,int .i64 n3])=some r0∧
 Tt∧(Rt R k1 (tuple #[int .i64 (l2:Nat),int .i64 n3]))) :
  CallsG Tryz.prog 36 #[slice A0 l0 c0] k R:=
  qY { opq:=[44] } h
theorem aXy 
 (h:Cl k 94 #[slice A0 l0 c0] fun k1 r0=>Gb r0 fun b1=>
 Br (!b1) (Rt R k1 (tuple #[slice none 0 0,slice none 0 0,int .i64 4])) (Cl k1 95 #[slice A0 l0 c0] fun k4 r3=>∃A2 l2 c2,∃A3 l3 c3,∃cs4,Seg 18 cs4∧some (tuple #[slice A2 l2 c2,slice A3 l3 c3,agg cs4])=some r3∧
 Rt R k4 (tuple #[slice A2 l2 c2,slice A3 l3 c3,int .i64 0]))) :
  CallsG Tryz.prog 62 #[slice A0 l0 c0] k R:=
  qY { opq:=[44] } h
theorem aRc 
 (h:Cl k 116 #[slice A0 l0 c0] fun k1 r0=>Gi r0 fun n1=>
 Tt∧(Br (decide (((l0:Nat):Int)≤32)) (Br (decide ((n1:Int)≤32)) (∀p2 k2,Up k1 k2→Sy.Blk k2 p2 3 #[int .i64 n1]→
 Cl k2 117 #[slice A0 l0 c0,Value.func (.func 118) #[] #[(Value.pointer (some ⟨p2,0,none⟩))]] fun k4 r3=>Gb r3 fun b3=>
 Rt R k4 (bool (!b3))) (Rt R k1 (bool false))) (Rt R k1 (bool false)))) :
  CallsG Tryz.prog 94 #[slice A0 l0 c0] k R:=
  qY { opq:=[44] } h
theorem aHn 
 (h:Br (decide ((n0:Int) ≥ 0)) (Rt R k (bool (decide ((n0:Int)<24)))) (Rt R k (bool false))) :
 CallsG Tryz.prog 35 #[int .i64 n0] k R:=
 qY { opq:=[] } h
theorem aHp 
 (h:Br (decide ((n0:Int) ≥ 0)) (Rt R k (bool (decide ((n0:Int)<13)))) (Rt R k (bool false))) :
 CallsG Tryz.prog 15 #[int .i64 n0] k R:=
 qY { opq:=[] } h
theorem wV 
 (h:Tt∧(Br (decide (((l0:Nat):Int)<1)) (Rt R k (int .i64 4)) (Tt∧(Br (decide (((l0:Nat):Int) > 24)) (Rt R k (int .i64 4)) (Tt∧(∃I2:Nat→World→List Value→Prop,(∃m2,∀k2,Up k k2→I2 m2 k2 [int .i64 0])∧
 ∀m2 k2 vs2,Up k k2→I2 m2 k2 vs2→∃n1,some [int .i64 n1]=some vs2∧
 Br (decide ((n1:Int)<(l0:Nat))) (Ad A0∧Ix n1 l0∧
 ∃n2,∃n3,Sy.ReadAt k2.cell? A0 (Int.toNat n1*2+0) 2 (agg #[int .i64 n2,int .i64 n3])∧
 Cl k2 35 #[int .i64 n2] fun k4 r3=>Gb r3 fun b4=>
 Br (!b4) (Rt R k4 (int .i64 1)) (Cl k4 35 #[int .i64 n3] fun k7 r6=>Gb r6 fun b5=>
 Br (!b5) (Rt R k7 (int .i64 1)) (∀k9,Up k7 k9→∃m,m<m2∧I2 m k9 [int .i64 (wrap .i64 (n1+1))]))) (Rt R k2 (int .i64 0)))))))) :
  CallsG Tryz.prog 14 #[slice A0 l0 c0] k R:=
  qY { opq:=[],loops:=[(0,[.tmp 15 false [.int .i64]])] } h
theorem aIm 
 (h:Cl k 14 #[slice A0 l0 c0] fun k1 r0=>Gi r0 fun n2=>
 Br ((n2:Int) != 0) (Rt R k1 (tuple #[bool false,int .i64 n2])) (Cl k1 15 #[int .i64 n1] fun k4 r3=>Gb r3 fun b3=>
 Br (!b3) (Rt R k4 (tuple #[bool false,int .i64 1])) (Cl k4 16 #[slice A0 l0 c0,int .i64 n1] fun k7 r6=>Gb r6 fun b4=>
 Rt R k7 (tuple #[bool b4,int .i64 0])))) :
  CallsG Tryz.prog 5 #[slice A0 l0 c0,int .i64 n1] k R:=
  qY { opq:=[] } h
theorem aIo 
 (h:Cl k 37 #[slice A0 l0 c0,int .i64 n1] fun k1 r0=>∃A2 l2 c2,some (slice A2 l2 c2)=some r0∧
 Cl k1 36 #[slice A2 l2 c2] fun k3 r2=>∃n3,∃n4,some (tuple #[int .i64 n3,int .i64 n4])=some r2∧
 Rt R k3 (bool ((n3:Int) == 3))) :
  CallsG Tryz.prog 16 #[slice A0 l0 c0,int .i64 n1] k R:=
  qY { opq:=[] } h
theorem aHf 
 (h:∀cs2 cs3:Array Value,cs2=Array.replicate (Int.toNat 0) (slice none 0 0)→cs3=Array.replicate (Int.toNat 0) (agg #[])→
 Tt∧(∃I0:Nat→World→List Value→Prop,(∃m0,∀k0,Up k k0→I0 m0 k0 [int .i64 0,tuple #[slice none 0 0,agg #[]],tuple #[agg cs2,agg cs3]])∧
 ∀m0 k0 vs0,Up k k0→I0 m0 k0 vs0→∃n4,∃A5 l5 c5,∃cs6,Sy.RowC cs6∧∃cs7,Sy.RowC cs7∧∃cs8,Sy.FamC cs8∧some [int .i64 n4,tuple #[slice A5 l5 c5,agg cs6],tuple #[agg cs7,agg cs8]]=some vs0∧
 Br (decide ((n4:Int)<(l0:Nat))) (Ad A0∧Ix n4 l0∧
 ∃n9,∃n10,Sy.ReadAt k0.cell? A0 (Int.toNat n4*2+0) 2 (agg #[int .i64 n9,int .i64 n10])∧
 Cl k0 49 #[int .i64 (wrap .i64 ((wrap .i64 (0-n1))*n9))] fun k2 r1=>Gt 18 r1 fun cs11=>
 Cl k2 49 #[int .i64 (wrap .i64 ((wrap .i64 (0-n1))*n10))] fun k4 r3=>Gt 18 r3 fun cs12=>
 Cl k4 49 #[int .i64 0] fun k6 r5=>Gt 18 r5 fun cs13=>
 ∀(A14:Option Addr) (l14 c14:Nat) (cs15:Array Value),l14=3→cs15=(cs11.toList++(cs12.toList++(cs13.toList++([]))):List Value).toArray→l14≤c14→
 ([slice A14 l14 c14]:List Value).length=Int.toNat 1*1∧(0:Int)≤1∧Sy.sizeOk 24 (l5+Int.toNat 1)∧∀(A16:Option Addr) (l16 c16:Nat) (cs17:Array Value),l16=l5+Int.toNat 1→cs17=cs6++([slice A14 l14 c14]:List Value).toArray→l16≤c16→
 ∀cs18 cs19:Array Value,cs18=cs7.push (slice A14 l14 c14)→cs19=cs8.push (agg cs15)→
 ∀k7,Up k6 k7→∃m,m<m0∧I0 m k7 [int .i64 (wrap .i64 (n4+1)),tuple #[slice A16 l16 c16,agg cs17],tuple #[agg cs18,agg cs19]]) (∀k8,Up k0 k8→(∀(j:Nat) (A:Option Addr) (n c:Nat) (cs:Array Value),cs7[j]?=some (slice A n c)→cs8[j]?=some (agg cs)→Sy.RowAt k8 A cs)→
 ∀k9,Up k8 k9→Sy.RowAt k9 A5 cs6→
 Rt R k9 (slice A5 l5 c5)))) :
  CallsG Tryz.prog 37 #[slice A0 l0 c0,int .i64 n1] k R:=
  qY { opq:=[44],loops:=[(0,[.tmp 10 false [.int .i64],.rw 5 109 1,.fm 44 18])],gho:=[(1,true,[.mk 5 44 18]),(5,true,[.push 28]),(7,true,[.pub])] } h
theorem aKy (hB2:Sy.Blk k p2 3 #[int .i64 n1])
 (h:Tt∧(Rt R k (bool (((l0:Nat):Int) != n1)))) :
 CallsG Tryz.prog 118 #[slice A0 l0 c0,Value.pointer (some ⟨p2,0,none⟩)] k R:=
 Sy.execFn_use_heap (cfg:={ opq:=[44] }) (args:=[.one (.var 0),.one (.ptr 0 0)]) (vals:=[slice A0 l0 c0,int .i64 n1,(Value.pointer (some ⟨p2,0,none⟩))]) (kinds:=[.slice,.int .i64,.any]) (blks:=[p2]) (heap:=[{ ty:=3,cells:=[.var 1],pub:=true,pv:=2 }]) ox ⟨qS,⟨_,rfl⟩,⟨rfl,rfl⟩,trivial⟩ ox ⟨⟨rfl,⟨[int .i64 n1],by kernel_rfl,hB2⟩,by kernel_rfl⟩,trivial⟩ ox h
theorem aCt 
 (h:Tt∧(∃I0:Nat→World→List Value→Prop,(∃m0,∀k0,Up k k0→I0 m0 k0 [int .i64 0])∧
 ∀m0 k0 vs0,Up k k0→I0 m0 k0 vs0→∃n2,some [int .i64 n2]=some vs0∧
 Br (decide ((n2:Int)<(l0:Nat))) (Ad A0∧Ix n2 l0∧
 ∃A3 l3 c3,Sy.ReadAt k0.cell? A0 (Int.toNat n2*1+0) 1 (slice A3 l3 c3)∧
 Cl k0 118 #[slice A3 l3 c3,(Value.pointer (some ⟨p1,0,none⟩))] fun k2 r1=>Gb r1 fun b4=>
 Br b4 (Rt R k2 (int .i64 n2)) (∀k4,Up k2 k4→∃m,m<m0∧I0 m k4 [int .i64 (wrap .i64 (n2+1))])) (Rt R k0 (int .i64 (-1))))) :
  CallsG Tryz.prog 136 #[slice A0 l0 c0,Value.func (.func 118) #[] #[(Value.pointer (some ⟨p1,0,none⟩))]] k R:=
  Sy.execFn_use_heap (cfg:={ opq:=[44],loops:=[(0,[.tmp 8 false [.int .i64]])] }) (args:=[.one (.var 0),.one (.fn 118 [1])]) (vals:=[slice A0 l0 c0,(Value.pointer (some ⟨p1,0,none⟩))]) (kinds:=[.slice,.any]) (blks:=[]) (heap:=[]) ox ⟨qS,⟨rfl,rfl⟩,trivial⟩ ox trivial ox h
theorem aCe 
 (h:Cl k 136 #[slice A0 l0 c0,Value.func (.func 118) #[] #[(Value.pointer (some ⟨p1,0,none⟩))]] fun k1 r0=>Gi r0 fun n2=>
 Rt R k1 (bool (decide ((n2:Int) ≥ 0)))) :
  CallsG Tryz.prog 117 #[slice A0 l0 c0,Value.func (.func 118) #[] #[(Value.pointer (some ⟨p1,0,none⟩))]] k R:=
  Sy.execFn_use_heap (cfg:={ opq:=[44] }) (args:=[.one (.var 0),.one (.fn 118 [1])]) (vals:=[slice A0 l0 c0,(Value.pointer (some ⟨p1,0,none⟩))]) (kinds:=[.slice,.any]) (blks:=[]) (heap:=[]) ox ⟨qS,⟨rfl,rfl⟩,trivial⟩ ox trivial ox h
theorem aHq 
 (h:Br (decide ((n0:Int) ≥ 0)) (Br (decide ((n0:Int)<24)) (Br (decide ((n1:Int) ≥ 0)) (Rt R k (bool (decide ((n1:Int)<24)))) (Rt R k (bool false))) (Rt R k (bool false))) (Rt R k (bool false))) :
 CallsG Tryz.prog 38 #[agg #[int .i64 n0,int .i64 n1]] k R:=
 qY { opq:=[] } h
theorem aPx 
 (h:Tt∧(Br (((l0:Nat):Int) == 0) (Rt R k (int .i64 4)) (Tt∧(Br (decide (((l0:Nat):Int) > 24)) (Rt R k (int .i64 4)) (∃I2:Nat→World→List Value→Prop,(∃m2,∀k2,Up k k2→I2 m2 k2 [int .i64 0])∧
 ∀m2 k2 vs2,Up k k2→I2 m2 k2 vs2→∃n1,some [int .i64 n1]=some vs2∧
 Tt∧(Br (decide ((n1:Int)<(l0:Nat))) (Ad A0∧Ix n1 l0∧
 ∃n2,∃n3,Sy.ReadAt k2.cell? A0 (Int.toNat n1*2+0) 2 (agg #[int .i64 n2,int .i64 n3])∧
 Cl k2 38 #[agg #[int .i64 n2,int .i64 n3]] fun k4 r3=>Gb r3 fun b4=>
 Br (!b4) (Rt R k4 (int .i64 1)) (∀k6,Up k4 k6→∃m,m<m2∧I2 m k6 [int .i64 (wrap .i64 (n1+1))])) (Rt R k2 (int .i64 0)))))))) :
  CallsG Tryz.prog 17 #[slice A0 l0 c0] k R:=
  qY { opq:=[],loops:=[(0,[.tmp 3 false [.int .i64]])] } h
theorem aJk 
 (h:Cl k 17 #[slice A0 l0 c0] fun k1 r0=>Gi r0 fun n2=>
 Br ((n2:Int) != 0) (Rt R k1 (tuple #[bool false,int .i64 n2])) (Br (decide ((n1:Int)<0)) (Rt R k1 (tuple #[bool false,int .i64 1])) (Br (decide ((n1:Int) > 12)) (Rt R k1 (tuple #[bool false,int .i64 1])) (Cl k1 18 #[slice A0 l0 c0,slice none 0 0,int .i64 n1] fun k6 r5=>∃cs3,Seg 24 cs3∧∃cs4,Seg 24 cs4∧∃cs5,Seg 24 cs5∧∃cs6,Seg 24 cs6∧∃cs7,Seg 24 cs7∧∃cs8,Seg 24 cs8∧∃cs9,Seg 24 cs9∧∃cs10,Seg 24 cs10∧∃cs11,Seg 24 cs11∧∃cs12,Seg 24 cs12∧∃cs13,Seg 24 cs13∧∃cs14,Seg 24 cs14∧some (tuple #[agg (cs3.toList++(cs4.toList++(cs5.toList++(cs6.toList++(cs7.toList++(cs8.toList++(cs9.toList++(cs10.toList++(cs11.toList++([])))))))))).toArray,agg (cs12.toList++(cs13.toList++(cs14.toList++([])))).toArray])=some r5∧
 Cl k6 20 #[agg (cs3.toList++(cs4.toList++(cs5.toList++(cs6.toList++(cs7.toList++(cs8.toList++(cs9.toList++(cs10.toList++(cs11.toList++([])))))))))).toArray] fun k8 r7=>Gt 24 r7 fun cs15=>
 Cl k8 19 #[agg cs15] fun k10 r9=>Gb r9 fun b16=>
 Rt R k10 (tuple #[bool (!b16),int .i64 0]))))) :
  CallsG Tryz.prog 6 #[slice A0 l0 c0,int .i64 n1] k R:=
  qY { opq:=[64,62] } h
theorem aUx 
 (h:Cl k 65 #[int .i64 (wrap .i64 ((wrap .i64 (0-n2))*n0))] fun k1 r0=>Gt 24 r0 fun cs3=>
 Cl k1 65 #[int .i64 (wrap .i64 ((wrap .i64 (0-n2))*n1))] fun k3 r2=>Gt 24 r2 fun cs4=>
 Cl k3 64 #[int .i64 1] fun k5 r4=>Gt 3 r4 fun cs5=>
 Cl k5 63 #[agg cs5] fun k7 r6=>Gt 24 r6 fun cs6=>
 Rt R k7 (agg (cs3.toList++(cs4.toList++(cs6.toList++([])))).toArray)) :
  CallsG Tryz.prog 40 #[agg #[int .i64 n0,int .i64 n1],int .i64 n2] k R:=
  qY { opq:=[64,62,60] } h
theorem aUv (hcs0:Seg 24 cs0) (hcs1:Seg 24 cs1) (hcs2:Seg 24 cs2) (hcs3:Seg 24 cs3) (hcs4:Seg 24 cs4) (hcs5:Seg 24 cs5) (hcs6:Seg 24 cs6) (hcs7:Seg 24 cs7) (hcs8:Seg 24 cs8)
 (h:Cl k 39 #[] fun k1 r0=>Gt 24 r0 fun cs9=>
 Cl k1 43 #[agg cs4,agg cs8] fun k3 r2=>Gt 24 r2 fun cs10=>
 Cl k3 43 #[agg cs5,agg cs7] fun k5 r4=>Gt 24 r4 fun cs11=>
 Cl k5 45 #[agg cs10,agg cs11] fun k7 r6=>Gt 24 r6 fun cs12=>
 Cl k7 43 #[agg cs0,agg cs12] fun k9 r8=>Gt 24 r8 fun cs13=>
 Cl k9 42 #[agg cs9,agg cs13] fun k11 r10=>Gt 24 r10 fun cs14=>
 Cl k11 43 #[agg cs5,agg cs6] fun k13 r12=>Gt 24 r12 fun cs15=>
 Cl k13 43 #[agg cs3,agg cs8] fun k15 r14=>Gt 24 r14 fun cs16=>
 Cl k15 45 #[agg cs15,agg cs16] fun k17 r16=>Gt 24 r16 fun cs17=>
 Cl k17 43 #[agg cs1,agg cs17] fun k19 r18=>Gt 24 r18 fun cs18=>
 Cl k19 42 #[agg cs14,agg cs18] fun k21 r20=>Gt 24 r20 fun cs19=>
 Cl k21 43 #[agg cs3,agg cs7] fun k23 r22=>Gt 24 r22 fun cs20=>
 Cl k23 43 #[agg cs4,agg cs6] fun k25 r24=>Gt 24 r24 fun cs21=>
 Cl k25 45 #[agg cs20,agg cs21] fun k27 r26=>Gt 24 r26 fun cs22=>
 Cl k27 43 #[agg cs2,agg cs22] fun k29 r28=>Gt 24 r28 fun cs23=>
 Cl k29 42 #[agg cs19,agg cs23] fun k31 r30=>Gt 24 r30 fun cs24=>
 Rt R k31 (agg cs24)) :
  CallsG Tryz.prog 20 #[agg (cs0.toList++(cs1.toList++(cs2.toList++(cs3.toList++(cs4.toList++(cs5.toList++(cs6.toList++(cs7.toList++(cs8.toList++([])))))))))).toArray] k R:=
  qX { opq:=[64,62] } [.agg [.seg 0 24,.seg 1 24,.seg 2 24,.seg 3 24,.seg 4 24,.seg 5 24,.seg 6 24,.seg 7 24,.seg 8 24]] [agg cs0,agg cs1,agg cs2,agg cs3,agg cs4,agg cs5,agg cs6,agg cs7,agg cs8] [.seg 24,.seg 24,.seg 24,.seg 24,.seg 24,.seg 24,.seg 24,.seg 24,.seg 24] ⟨⟨cs0,rfl,hcs0⟩,⟨cs1,rfl,hcs1⟩,⟨cs2,rfl,hcs2⟩,⟨cs3,rfl,hcs3⟩,⟨cs4,rfl,hcs4⟩,⟨cs5,rfl,hcs5⟩,⟨cs6,rfl,hcs6⟩,⟨cs7,rfl,hcs7⟩,⟨cs8,rfl,hcs8⟩,trivial⟩ h
theorem aDy 
 (h:Cl k 39 #[] fun k1 r0=>Gt 24 r0 fun cs3=>
 Cl k1 39 #[] fun k3 r2=>Gt 24 r2 fun cs4=>
 Cl k3 39 #[] fun k5 r4=>Gt 24 r4 fun cs5=>
 Cl k5 39 #[] fun k7 r6=>Gt 24 r6 fun cs6=>
 Cl k7 39 #[] fun k9 r8=>Gt 24 r8 fun cs7=>
 Cl k9 39 #[] fun k11 r10=>Gt 24 r10 fun cs8=>
 Cl k11 39 #[] fun k13 r12=>Gt 24 r12 fun cs9=>
 Cl k13 39 #[] fun k15 r14=>Gt 24 r14 fun cs10=>
 Cl k15 39 #[] fun k17 r16=>Gt 24 r16 fun cs11=>
 Cl k17 39 #[] fun k19 r18=>Gt 24 r18 fun cs12=>
 Cl k19 39 #[] fun k21 r20=>Gt 24 r20 fun cs13=>
 Cl k21 39 #[] fun k23 r22=>Gt 24 r22 fun cs14=>
 ∃I24:Nat→World→List Value→Prop,(∃m24,∀k24,Up k23 k24→I24 m24 k24 [int .i64 0,agg (cs4.toList++(cs5.toList++(cs6.toList++(cs8.toList++(cs9.toList++(cs10.toList++(cs12.toList++(cs13.toList++(cs14.toList++([])))))))))).toArray,agg (cs3.toList++(cs7.toList++(cs11.toList++([])))).toArray])∧
 ∀m24 k24 vs24,Up k23 k24→I24 m24 k24 vs24→∃n15,∃cs16,Seg 24 cs16∧∃cs17,Seg 24 cs17∧∃cs18,Seg 24 cs18∧∃cs19,Seg 24 cs19∧∃cs20,Seg 24 cs20∧∃cs21,Seg 24 cs21∧∃cs22,Seg 24 cs22∧∃cs23,Seg 24 cs23∧∃cs24,Seg 24 cs24∧∃cs25,Seg 24 cs25∧∃cs26,Seg 24 cs26∧∃cs27,Seg 24 cs27∧some [int .i64 n15,agg (cs16.toList++(cs17.toList++(cs18.toList++(cs19.toList++(cs20.toList++(cs21.toList++(cs22.toList++(cs23.toList++(cs24.toList++([])))))))))).toArray,agg (cs25.toList++(cs26.toList++(cs27.toList++([])))).toArray]=some vs24∧
 Tt∧(Br (decide ((n15:Int)<(l0:Nat))) (Ad A0∧Ix n15 l0∧
 ∃n28,∃n29,Sy.ReadAt k24.cell? A0 (Int.toNat n15*2+0) 2 (agg #[int .i64 n28,int .i64 n29])∧
 Cl k24 40 #[agg #[int .i64 n28,int .i64 n29],int .i64 n2] fun k26 r25=>∃cs30,Seg 24 cs30∧∃cs31,Seg 24 cs31∧∃cs32,Seg 24 cs32∧some (agg (cs30.toList++(cs31.toList++(cs32.toList++([])))).toArray)=some r25∧
 ∃J27:World→List Value→Prop,(Cl k26 41 #[agg cs30] fun k28 r27=>Gt 24 r27 fun cs33=>
 Cl k28 43 #[agg cs33,agg cs30] fun k30 r29=>Gt 24 r29 fun cs34=>
 Cl k30 42 #[agg cs16,agg cs34] fun k32 r31=>Gt 24 r31 fun cs35=>
 Cl k32 43 #[agg cs33,agg cs31] fun k34 r33=>Gt 24 r33 fun cs36=>
 Cl k34 42 #[agg cs17,agg cs36] fun k36 r35=>Gt 24 r35 fun cs37=>
 Cl k36 43 #[agg cs33,agg cs32] fun k38 r37=>Gt 24 r37 fun cs38=>
 Cl k38 42 #[agg cs18,agg cs38] fun k40 r39=>Gt 24 r39 fun cs39=>
 Tt∧(Br (decide ((n15:Int)<(l1:Nat))) (El k40 A1 n15 l1 24 fun cs40=>
 Cl k40 43 #[agg cs33,agg cs40] fun k42 r41=>Gt 24 r41 fun cs41=>
 Cl k42 42 #[agg cs25,agg cs41] fun k44 r43=>Gt 24 r43 fun cs42=>
 ∀k45,Up k44 k45→J27 k45 [agg (cs35.toList++(cs37.toList++(cs39.toList++(cs19.toList++(cs20.toList++(cs21.toList++(cs22.toList++(cs23.toList++(cs24.toList++([])))))))))).toArray,agg (cs42.toList++(cs26.toList++(cs27.toList++([])))).toArray]) (∀k46,Up k40 k46→J27 k46 [agg (cs35.toList++(cs37.toList++(cs39.toList++(cs19.toList++(cs20.toList++(cs21.toList++(cs22.toList++(cs23.toList++(cs24.toList++([])))))))))).toArray,agg (cs25.toList++(cs26.toList++(cs27.toList++([])))).toArray])))∧
 ∀k47 vs47,Up k26 k47→J27 k47 vs47→∃cs33,Seg 24 cs33∧∃cs34,Seg 24 cs34∧∃cs35,Seg 24 cs35∧∃cs36,Seg 24 cs36∧∃cs37,Seg 24 cs37∧∃cs38,Seg 24 cs38∧∃cs39,Seg 24 cs39∧∃cs40,Seg 24 cs40∧∃cs41,Seg 24 cs41∧∃cs42,Seg 24 cs42∧∃cs43,Seg 24 cs43∧∃cs44,Seg 24 cs44∧some [agg (cs33.toList++(cs34.toList++(cs35.toList++(cs36.toList++(cs37.toList++(cs38.toList++(cs39.toList++(cs40.toList++(cs41.toList++([])))))))))).toArray,agg (cs42.toList++(cs43.toList++(cs44.toList++([])))).toArray]=some vs47∧
 ∃J48:World→List Value→Prop,(Cl k47 41 #[agg cs31] fun k49 r48=>Gt 24 r48 fun cs45=>
 Cl k49 43 #[agg cs45,agg cs30] fun k51 r50=>Gt 24 r50 fun cs46=>
 Cl k51 42 #[agg cs36,agg cs46] fun k53 r52=>Gt 24 r52 fun cs47=>
 Cl k53 43 #[agg cs45,agg cs31] fun k55 r54=>Gt 24 r54 fun cs48=>
 Cl k55 42 #[agg cs37,agg cs48] fun k57 r56=>Gt 24 r56 fun cs49=>
 Cl k57 43 #[agg cs45,agg cs32] fun k59 r58=>Gt 24 r58 fun cs50=>
 Cl k59 42 #[agg cs38,agg cs50] fun k61 r60=>Gt 24 r60 fun cs51=>
 Tt∧(Br (decide ((n15:Int)<(l1:Nat))) (El k61 A1 n15 l1 24 fun cs52=>
 Cl k61 43 #[agg cs45,agg cs52] fun k63 r62=>Gt 24 r62 fun cs53=>
 Cl k63 42 #[agg cs43,agg cs53] fun k65 r64=>Gt 24 r64 fun cs54=>
 ∀k66,Up k65 k66→J48 k66 [agg (cs33.toList++(cs34.toList++(cs35.toList++(cs47.toList++(cs49.toList++(cs51.toList++(cs39.toList++(cs40.toList++(cs41.toList++([])))))))))).toArray,agg (cs42.toList++(cs54.toList++(cs44.toList++([])))).toArray]) (∀k67,Up k61 k67→J48 k67 [agg (cs33.toList++(cs34.toList++(cs35.toList++(cs47.toList++(cs49.toList++(cs51.toList++(cs39.toList++(cs40.toList++(cs41.toList++([])))))))))).toArray,agg (cs42.toList++(cs43.toList++(cs44.toList++([])))).toArray])))∧
 ∀k68 vs68,Up k47 k68→J48 k68 vs68→∃cs45,Seg 24 cs45∧∃cs46,Seg 24 cs46∧∃cs47,Seg 24 cs47∧∃cs48,Seg 24 cs48∧∃cs49,Seg 24 cs49∧∃cs50,Seg 24 cs50∧∃cs51,Seg 24 cs51∧∃cs52,Seg 24 cs52∧∃cs53,Seg 24 cs53∧∃cs54,Seg 24 cs54∧∃cs55,Seg 24 cs55∧∃cs56,Seg 24 cs56∧some [agg (cs45.toList++(cs46.toList++(cs47.toList++(cs48.toList++(cs49.toList++(cs50.toList++(cs51.toList++(cs52.toList++(cs53.toList++([])))))))))).toArray,agg (cs54.toList++(cs55.toList++(cs56.toList++([])))).toArray]=some vs68∧
 ∃J69:World→List Value→Prop,(Cl k68 41 #[agg cs32] fun k70 r69=>Gt 24 r69 fun cs57=>
 Cl k70 43 #[agg cs57,agg cs30] fun k72 r71=>Gt 24 r71 fun cs58=>
 Cl k72 42 #[agg cs51,agg cs58] fun k74 r73=>Gt 24 r73 fun cs59=>
 Cl k74 43 #[agg cs57,agg cs31] fun k76 r75=>Gt 24 r75 fun cs60=>
 Cl k76 42 #[agg cs52,agg cs60] fun k78 r77=>Gt 24 r77 fun cs61=>
 Cl k78 43 #[agg cs57,agg cs32] fun k80 r79=>Gt 24 r79 fun cs62=>
 Cl k80 42 #[agg cs53,agg cs62] fun k82 r81=>Gt 24 r81 fun cs63=>
 Tt∧(Br (decide ((n15:Int)<(l1:Nat))) (El k82 A1 n15 l1 24 fun cs64=>
 Cl k82 43 #[agg cs57,agg cs64] fun k84 r83=>Gt 24 r83 fun cs65=>
 Cl k84 42 #[agg cs56,agg cs65] fun k86 r85=>Gt 24 r85 fun cs66=>
 ∀k87,Up k86 k87→J69 k87 [agg (cs45.toList++(cs46.toList++(cs47.toList++(cs48.toList++(cs49.toList++(cs50.toList++(cs59.toList++(cs61.toList++(cs63.toList++([])))))))))).toArray,agg (cs54.toList++(cs55.toList++(cs66.toList++([])))).toArray]) (∀k88,Up k82 k88→J69 k88 [agg (cs45.toList++(cs46.toList++(cs47.toList++(cs48.toList++(cs49.toList++(cs50.toList++(cs59.toList++(cs61.toList++(cs63.toList++([])))))))))).toArray,agg (cs54.toList++(cs55.toList++(cs56.toList++([])))).toArray])))∧
 ∀k89 vs89,Up k68 k89→J69 k89 vs89→∃cs57,Seg 24 cs57∧∃cs58,Seg 24 cs58∧∃cs59,Seg 24 cs59∧∃cs60,Seg 24 cs60∧∃cs61,Seg 24 cs61∧∃cs62,Seg 24 cs62∧∃cs63,Seg 24 cs63∧∃cs64,Seg 24 cs64∧∃cs65,Seg 24 cs65∧∃cs66,Seg 24 cs66∧∃cs67,Seg 24 cs67∧∃cs68,Seg 24 cs68∧some [agg (cs57.toList++(cs58.toList++(cs59.toList++(cs60.toList++(cs61.toList++(cs62.toList++(cs63.toList++(cs64.toList++(cs65.toList++([])))))))))).toArray,agg (cs66.toList++(cs67.toList++(cs68.toList++([])))).toArray]=some vs89∧
 ∀k90,Up k89 k90→∃m,m<m24∧I24 m k90 [int .i64 (wrap .i64 (n15+1)),agg (cs57.toList++(cs58.toList++(cs59.toList++(cs60.toList++(cs61.toList++(cs62.toList++(cs63.toList++(cs64.toList++(cs65.toList++([])))))))))).toArray,agg (cs66.toList++(cs67.toList++(cs68.toList++([])))).toArray]) (Rt R k24 (tuple #[agg (cs16.toList++(cs17.toList++(cs18.toList++(cs19.toList++(cs20.toList++(cs21.toList++(cs22.toList++(cs23.toList++(cs24.toList++([])))))))))).toArray,agg (cs25.toList++(cs26.toList++(cs27.toList++([])))).toArray])))) :
  CallsG Tryz.prog 18 #[slice A0 l0 c0,slice A1 l1 c1,int .i64 n2] k R:=
  qY { opq:=[64,62],loops:=[(4,[.tmp 12 false [.int .i64],.blk 2 [.seg 24,.seg 24,.seg 24,.seg 24,.seg 24,.seg 24,.seg 24,.seg 24,.seg 24],.blk 3 [.seg 24,.seg 24,.seg 24]])],meets:=[(7,[.blk 2 [.seg 24,.seg 24,.seg 24,.seg 24,.seg 24,.seg 24,.seg 24,.seg 24,.seg 24],.blk 3 [.seg 24,.seg 24,.seg 24]])] } h
theorem aCu 
 (h:Tt∧(Br (decide (((l0:Nat):Int) > 30)) (Cl k 4 #[] fun k1 r0=>Gb r0 fun b4=>
 Rt R k1 (bool b4)) (Cl k 5 #[slice A0 l0 c0,int .i64 n1] fun k4 r3=>∃b4,∃n5,some (tuple #[bool b4,int .i64 n5])=some r3∧
 Cl k4 6 #[slice A0 l0 c0,int .i64 n1] fun k6 r5=>∃b6,∃n7,some (tuple #[bool b6,int .i64 n7])=some r5∧
 Br (!(b4 == b6)) (Rt R k6 (bool false)) (Br ((n5:Int) != n7) (Rt R k6 (bool false)) (Br ((n1:Int) == 0) (Br b4 (Rt R k6 (bool false)) (∀(_A8:Option Addr) (l8 c8:Nat) (cs9:Array Value),l8=0→cs9=([]:List Value).toArray→l8≤c8→
 ∃cs10,Sy.RowC cs10∧(cs10.size=l0*2∧∀(p:Nat) (u:Value),cs10[p]?=some u→Sy.cellAt k6.cell? A0 p=some u)∧
 (cs10.toList:List Value).length=Int.toNat (l0:Nat)*2∧(0:Int)≤(l0:Nat)∧Sy.sizeOk 16 (l8+Int.toNat (l0:Nat))∧∀(_A11:Option Addr) (l11 c11:Nat) (cs12:Array Value),l11=l8+Int.toNat (l0:Nat)→cs12=cs9++(cs10.toList:List Value).toArray→l11≤c11→
 ([int .i64 n2,int .i64 n3]:List Value).length=Int.toNat 1*2∧(0:Int)≤1∧Sy.sizeOk 16 (l11+Int.toNat 1)∧∀(A13:Option Addr) (l13 c13:Nat) (cs14:Array Value),l13=l11+Int.toNat 1→cs14=cs12++([int .i64 n2,int .i64 n3]:List Value).toArray→l13≤c13→
 ∀k10,Up k6 k10→Sy.RowAt k10 A13 cs14→
 Cl k10 5 #[slice A13 l13 c13,int .i64 n1] fun k12 r11=>∃b15,∃n16,some (tuple #[bool b15,int .i64 n16])=some r11∧
 Br (!b4) (Cl k12 4 #[] fun k14 r13=>Gb r13 fun b17=>
 Rt R k14 (bool b17)) (Br ((n16:Int) != 0) (Cl k12 4 #[] fun k17 r16=>Gb r16 fun b17=>
 Rt R k17 (bool b17)) (Br b15 (Cl k12 4 #[] fun k20 r19=>Gb r19 fun b17=>
 Rt R k20 (bool b17)) (Rt R k12 (bool false)))))) (∀(_A8:Option Addr) (l8 c8:Nat) (cs9:Array Value),l8=0→cs9=([]:List Value).toArray→l8≤c8→
 ∃cs10,Sy.RowC cs10∧(cs10.size=l0*2∧∀(p:Nat) (u:Value),cs10[p]?=some u→Sy.cellAt k6.cell? A0 p=some u)∧
 (cs10.toList:List Value).length=Int.toNat (l0:Nat)*2∧(0:Int)≤(l0:Nat)∧Sy.sizeOk 16 (l8+Int.toNat (l0:Nat))∧∀(_A11:Option Addr) (l11 c11:Nat) (cs12:Array Value),l11=l8+Int.toNat (l0:Nat)→cs12=cs9++(cs10.toList:List Value).toArray→l11≤c11→
 ([int .i64 n2,int .i64 n3]:List Value).length=Int.toNat 1*2∧(0:Int)≤1∧Sy.sizeOk 16 (l11+Int.toNat 1)∧∀(A13:Option Addr) (l13 c13:Nat) (cs14:Array Value),l13=l11+Int.toNat 1→cs14=cs12++([int .i64 n2,int .i64 n3]:List Value).toArray→l13≤c13→
 ∀k23,Up k6 k23→Sy.RowAt k23 A13 cs14→
 Cl k23 5 #[slice A13 l13 c13,int .i64 n1] fun k25 r24=>∃b15,∃n16,some (tuple #[bool b15,int .i64 n16])=some r24∧
 Br (!b4) (Cl k25 4 #[] fun k27 r26=>Gb r26 fun b17=>
 Rt R k27 (bool b17)) (Br ((n16:Int) != 0) (Cl k25 4 #[] fun k30 r29=>Gb r29 fun b17=>
 Rt R k30 (bool b17)) (Br b15 (Cl k25 4 #[] fun k33 r32=>Gb r32 fun b17=>
 Rt R k33 (bool b17)) (Rt R k25 (bool false)))))))))) :
  CallsG Tryz.prog 3 #[slice A0 l0 c0,int .i64 n1,agg #[int .i64 n2,int .i64 n3]] k R:=
  qY { opq:=[] } h
end Go.Proofs.YthiaclljcnincaaGreat

namespace Go.Proofs.YthiaclljcnincaaGreat
open Go.RowKit Num Plain
open Sy (Up Sees CallsG Seg RowC FamC RowAt ReadAt ReadIn)
def Ent (k:World) (a:Array Value) (p:W4×Nat):Prop:=WaveV k a p.1 p.2
section
variable {k k':World}{R:World→Value→Prop}{A B:Option Addr}{n m s c d i j p t:Nat}{cs:Array Value}{M:Nat→Nat→W4}{ps:List Nat}
theorem Ent.seg {a:Array Value}{p:W4×Nat}(h:Ent k a p):Seg 18 a:=WaveV.seg h
theorem Ent.up {a:Array Value}{p:W4×Nat}(h:Ent k a p) (u:Up k k'):Ent k' a p:=WaveV.up h u
theorem cS:∀ {k:World},∀a p,Ent k a p→Seg 18 a:=fun _ _ h=>h.seg
theorem iL {X:Array Value}{v:Value}(h:i<X.size→X[i]?=some v):X.setIfInBounds i v=X:=by
 apply jc;intro j;rw [qz];split
 ·rename_i e;subst e;split
  ·rename_i hi;exact (h hi).symm
  ·rename_i hi;rw [zq oq]
 ·rfl
theorem aQo {X:Array Value}{w v:Value}(h:i<X.size→X[i]?=some v):(X.setIfInBounds i w).setIfInBounds i v=X:=by
 rw [za,iL h]
theorem bV {X X1 X2:Array Value}{w v:Value}(e1:X1=X.setIfInBounds i w) (e2:X2=X1.setIfInBounds i v) (h:i<X.size→X[i]?=some v):X=X2:=by
 rw [e2,e1,aQo h]
theorem zC {X X1 X2:Array Value}{w v:Value}(e1:X1=X.setIfInBounds i w) (e2:X2=X1.setIfInBounds i v):X2=X.setIfInBounds i v:=by
 rw [e2,e1,za]
theorem sC {X:Array Value}{u u' a b:Value}(_hne:p≠t):(((X.setIfInBounds p u).setIfInBounds t u').setIfInBounds p a).setIfInBounds t b=(X.setIfInBounds p a).setIfInBounds t b:=by
 apply jc;intro j
 grind
theorem aBo {X:Array Value}{u u' a b:Value}(hne:p≠t):(((X.setIfInBounds p u).setIfInBounds t u').setIfInBounds t a).setIfInBounds p b=(X.setIfInBounds p b).setIfInBounds t a:=by
 apply jc;intro j
 grind
theorem get_set {X:Array Value}{u:Value}(hne:p≠t):(X.setIfInBounds p u)[t]?=X[t]?:=by
 rw [qz,oh hne]
section
variable {α:Type}{P Q:Array Value→α→Prop}{f:Nat→α}{F F':Nat→Nat→α}{X Y xs:Array Value}
theorem ArrV.cell (h:ArrV n s P xs f) (hi:i<n) (hP:∀a v,P a v→Seg s a):∃a,Seg s a∧P a (f i)∧ReadIn xs (i*s+0) s (.agg a):=by
 obtain⟨a,h1,h2,h3⟩:=h.read hi;exact⟨a,hP _ _ h2,h2,h3 0 s (.agg a) h1 fun q u hq=>by rw [qc];exact hq⟩
theorem FamV.put (h:FamV n (fun _=>m) s P F X Y) (hj:j<n) (hP:∀a v,P a v→Q a v) (hx:X[j]?=some (.slice A m c)) (ha:ArrV m s Q cs (F' j)) (hF:∀i,i<n→i≠j→∀q,q<m→F' i q=F i q):FamV n (fun _=>m) s Q F' X (Y.setIfInBounds j (.agg cs)):=by
 refine⟨h.sx,by rw [vq,h.sy],fun i hi=>?_⟩;obtain⟨B,d,ds,h1,h2,h3,h4⟩:=h.row i hi
 by_cases e:i=j
 ·subst e;rw [hx]at h1;exact⟨A,c,cs,hx,by injection h1 with h1;injection h1 with _ _ h1;rw [h1];exact h2,by rw [qz,og rfl,og (by rw [h.sy];exact hi)],ha⟩
 ·exact⟨B,d,ds,h1,h2,by rw [get_set (Ne.symm e)];exact h3,(h4.mono hP).congr fun q hq=>(hF i hi e q hq).symm⟩
theorem FamV.swap {A':Option Addr}{c':Nat}{cs':Array Value}(h:FamV n (fun _=>m) s P F X Y) (hp:p<n) (ht:t<n) (_hne:p≠t) (x1:X[p]?=some (.slice A m c)) (y1:Y[p]?=some (.agg cs)) (x2:X[t]?=some (.slice A' m c')) (y2:Y[t]?=some (.agg cs')) :
 FamV n (fun _=>m) s P (fun i=>if i=t then F p else if i=p then F t else F i) ((X.setIfInBounds p (.slice A' m c')).setIfInBounds t (.slice A m c)) ((Y.setIfInBounds p (.agg cs')).setIfInBounds t (.agg cs)):=by
 obtain⟨_,g1,g2⟩:=h.get x1 y1;obtain⟨_,g3,g4⟩:=h.get x2 y2;have h1:=h.set1 (A:=A') (l:=m) (c:=c') (cs:=cs') (F':=fun i=>if i=p then F t else F i) (len':=fun _=>m) hp (fun _ _ h=>h) g3 (by rw [og rfl];exact g4) (fun _ _ _=>rfl) rfl fun i _ e=>oh e;have h2:=h1.set1 (A:=A) (l:=m) (c:=c) (cs:=cs) (F':=fun i=>if i=t then F p else if i=p then F t else F i) (len':=fun _=>m) ht (fun _ _ h=>h) g1 (by rw [og rfl];exact g2) (fun _ _ _=>rfl) rfl fun i _ e=>oh e;exact h2
end
theorem FamV.wk {F G:Nat→Nat→W4×Nat}{X Y:Array Value}(h:FamV n (fun _=>m) 18 (Ent k) F X Y) (e:∀j,j<n→∀q,q<m→(F j q).1=(G j q).1∧(F j q).2≤(G j q).2):FamV n (fun _=>m) 18 (Ent k) G X Y:=by
 refine⟨h.sx,h.sy,fun j hj=>?_⟩;obtain⟨A,c,cs,h1,h2,h3,h4⟩:=h.row j hj;refine⟨A,c,cs,h1,h2,h3,Arr.mono h4 fun q a hq ha=>?_⟩;obtain⟨e1,e2⟩:=e j hj q hq;show WaveV k a (G j q).1 (G j q).2;rw [←e1];exact WaveV.mono ha e2
theorem aAu {v u:Value}{q:Nat}(hv:v.cells=#[v]) (h:v.cells[q]?=some u):q=0∧u=v:=by
 rw [hv]at h;have h0:q=0:=by
  have:=(jq.1 h).1;simp at this;exact this
 subst h0;injection h with h;exact⟨rfl,h.symm⟩
theorem cE {X:Array Value}{v:Value}(hv:v.cells=#[v]) (h:X[i]?=some v):ReadIn X (i*1+0) 1 v:=
 ⟨by rw [hv];rfl,fun q u hq=>by
   obtain⟨rfl,rfl⟩:=aAu hv hq
   rw [js];exact h⟩
theorem aTa {α:Type}{P:Array Value→α→Prop}{f:Nat→α}(hr:Els k A n 18 P f) (hn:n≤100000) (C:∀k' A' c' cs,Up k k'→n≤c'→ArrV n 18 P cs f→R k' (.tuple #[.slice A' n c',.agg cs])) :
 ∀k0,Up k k0→Sy.CallsR Tryz.prog 137 #[.slice A n c] k0 44 18 R:=by
 intro k0 u0;obtain⟨xs,hc,⟨hz,hx⟩,ha⟩:=(hr.up u0).spread;refine aLs ⟨fun h k1 u1=>?_,fun _=>?_⟩
 ·have hA:A=none:=by cases A with
   | none=>rfl
   | some _=>cases h
  have h0:n=0:=by
   rcases ju n with h0|h0
   ·exact h0
   ·have:=hx 0 xs[0] (ql oq);rw [hA]at this;cases this
  subst h0;exact C k1 none 0 #[] (u0.trans u1) (oy _) ArrV.empty
 ·rintro A1 l1 c1 _ rfl rfl _;refine⟨xs,hc,⟨hz,hx⟩,by rw [ja,hz,oo],oq,⟨oq,oq⟩,?_⟩;rintro A4 l4 c4 _ e rfl hl k1 u1;have e:l4=n:=oq
  subst e;have:=C k1 A4 c4 xs (u0.trans u1) hl ha;simpa using this
theorem aLx {α:Type}{P:Array Value→α→Prop}{F:Nat→Nat→α}(hM:Els2 k A n m 18 P F) (hP:∀a v,P a v→Seg 18 a) (hn:n≤90) (hm:m≤90) (C:∀k' A' c' X Y,Up k k'→FamV n (fun _=>m) 18 P F X Y→R k' (.tuple #[.slice A' n c',.agg X,.agg X,.agg Y])) :
 ∀k0,Up k k0→Sy.CallsRF Tryz.prog 119 #[.slice A n c] k0 109 1 44 18 R:=by
 intro k0 u0;refine aHb ⟨rfl,oq,⟨oq,oq⟩,?_⟩;rintro A1 l1 c1 cs2 el e2 _ cs3 cs4 e3 e4;rw [oo]at el e2;obtain rfl:l1=n:=el;rw [aMy]at e2;rw [oo]at e3 e4;subst e2 e3 e4
 refine⟨rfl,fun r k' vs=>∃(i:Nat) (A:Option Addr) (c:Nat) (X Y:Array Value),i+r=l1∧vs=[.int .i64 (i:Int),.tuple #[.slice A l1 c,.agg X],.tuple #[.agg X,.agg Y]]∧FamV l1 (fun j=>if j<i then m else 0) 18 P F X Y,
  ⟨l1,fun k1 u1=>⟨0,A1,c1,_,_,qc _,rfl,(FamV.nils l1).as (fun _ _ h=>h) fun j _=>oh (wa _)⟩⟩,?_⟩
 rintro r k1 vs u1 ⟨i,A',c',X,Y,hi,rfl,hF⟩;refine⟨_,A',l1,c',X,hF.rowC,X,hF.rowC,Y,hF.famC hP,rfl,fun hlt=>?_,fun hge k2 u2=>?_⟩
 ·have hlt:i<l1:=by have:=ow hlt;omega
  obtain⟨B,d,hd,hB,ax,hr⟩:=(Els2.up hM (u0.trans u1) fun _ _ h=>h).row hlt;refine⟨ax,⟨oq,oq⟩,B,m,d,hr _ (Up.refl _),aTa hB oq fun k2 A2 c2 cs u2 h1 h2=>⟨A2,m,c2,cs,rfl,decide_eq_true ⟨oq,oq⟩,⟨oq,oq⟩,?_⟩⟩;rintro _ rfl _ _ rfl rfl k3 u3;refine⟨r-1,oq,i+1,A',c',_,_,oq,?_,hF.set1 (A:=A2) (len':=fun j=>if j<i+1 then m else 0) hlt (fun _ _ h=>h) h1 h2 (fun j _ hj=>?_) (og (zp i)) fun _ _ _=>rfl⟩
  ·rw [wup oq,gF,oo]
  ·by_cases h:j<i
   ·rw [og h,og oq]
   ·rw [oh h,oh oq]
 ·have e:i=l1:=by have:=ov hge;omega
  subst e;exact C k2 A' c' X Y (u0.trans (u1.trans u2)) (hF.as (fun _ _ h=>h) fun j hj=>(og hj).symm)
theorem whole_s {z:Int}(h0:-9223372036854775808≤z) (h1:z<9223372036854775808) (C:∀k' ds,Up k k'→WaveV k' ds (W4.real (z:Rat)) 1→R k' (.agg ds)) :
 Cl k 120 #[.int .i64 z] R:=by
 intro k0 u0;refine aRl (sH h0 h1 fun k1 d1 u1 q1=>⟨d1,q1.seg,rfl,?_⟩);refine aZq (WaveV.nil (K:=1)) q1 fun k2 d2 u2 h2=>⟨d2,h2.seg,rfl,fun k3 u3=>?_⟩;exact C k3 d2 (((u0.trans u1).trans u2).trans u3) (h2.up u3)
theorem vD (hA:∃b o,A=some ⟨b,o,none⟩) (hn:0<n) (hr:∀k',Up k k'→ReadAt k'.cell? A (0*1+0) 1 (.slice B m d)) (C:∀k',Up k k'→R k' (.int .i64 (m:Int))) :
 Cl k 116 #[.slice A n c] R:=fun k0 u0=>
 aCf ⟨rfl,fun h=>absurd (eq_of_beq h) oq,fun _=>⟨hA,⟨oq,oq⟩,B,m,d,hr k0 u0,rfl,fun k1 u1=>C k1 (u0.trans u1)⟩⟩
theorem aHw {α:Type}{P:Array Value→α→Prop}{F:Nat→Nat→α}(hM:Els2 k A n m 18 P F) (hn:n≤90) (hB:Sy.Blk k p 3 #[.int .i64 (m:Int)]) (C:∀k',Up k k'→R k' (.int .i64 (-1))) :
 Cl k 136 #[.slice A n c,.func (.func 118) #[] #[.pointer (some ⟨p,0,none⟩)]] R:=by
 intro k0 u0;refine aCt ⟨rfl,fun r k vs=>∃j:Nat,j+r=n∧vs=[.int .i64 j],⟨n,fun k1 u1=>⟨0,oq,rfl⟩⟩,?_⟩;rintro r k1 _ u1 ⟨j,hj,rfl⟩;refine⟨_,rfl,fun hlt=>?_,fun hge k5 u5=>C k5 (u0.trans (u1.trans u5))⟩;have hlt:j<n:=by have:=ow hlt;omega
 obtain⟨B,d,hd,_,ax,hr⟩:=(Els2.up hM (u0.trans u1) fun _ _ h=>h).row hlt;refine⟨ax,⟨oq,oq⟩,B,m,d,hr _ (Up.refl _),fun k2 u2=>aKy ((hB.up (u0.trans u1)).up u2) ⟨rfl,fun k3 u3=>⟨_,rfl,fun h=>?_,fun _ k4 u4=>⟨r-1,oq,j+1,oq,by rw [wup oq]⟩⟩⟩⟩;rw [bne_self_eq_false]at h;cases h
theorem aVw {α:Type}{P:Array Value→α→Prop}{F:Nat→Nat→α}(hM:Els2 k A n m 18 P F) (h0:0<n) (hn:n≤32) (hm:m≤32) (C:∀k',Up k k'→R k' (.bool true)) :
 Cl k 94 #[.slice A n c] R:=by
 intro k0 u0;obtain⟨B,d,hd,_,ax,hr⟩:=(Els2.up hM u0 fun _ _ h=>h).row h0;refine aRc (vD ax h0 hr fun k1 u1=>⟨_,rfl,rfl,fun _=>⟨fun _ p k2 u2 hB=>?_,fun h=>?_⟩,fun h=>?_⟩)
 ·have u02:=u0.trans (u1.trans u2);refine fun k3 u3=>aCe (aHw (Els2.up hM (u02.trans u3) fun _ _ h=>h) oq (hB.up u3) fun k4 u4=>⟨_,rfl,fun k5 u5=>⟨_,rfl,fun k6 u6=>C k6 (u02.trans (u3.trans (u4.trans (u5.trans u6))))⟩⟩)
 ·have:=ov h;omega
 ·have:=ov h;omega
end
def lV (E:Nat→Nat→W4) (u:W4) (K t q i j:Nat):W4×Nat:=if i=t∧j<q then (E i j*u,20*K+57) else (E i j,K)
def iN (E:Nat→Nat→W4×Nat) (S t c i q r j:Nat):W4×Nat:=if r≠t∧(r<i∨r=i∧j<q) then ((E r j).1-(E r c).1*(E t j).1,S) else E r j
section
variable {E:Nat→Nat→W4}{G:Nat→Nat→W4×Nat}{u:W4}{K S t c q i j r:Nat}
theorem divF_zero:lV E u K t 0 i j=(E i j,K):=oh oq
theorem bX (h:i≠t∨q≤j):lV E u K t q i j=(E i j,K):=oh oq
theorem fY (h:j<q):lV E u K t q t j=(E t j*u,20*K+57):=og ⟨rfl,h⟩
theorem nS (h:i≠t∨j≠q):lV E u K t (q+1) i j=lV E u K t q i j:=by
 unfold lV
 by_cases h':i=t∧j<q
 ·rw [og h',og ⟨h'.1,oq⟩]
 ·rw [oh h',oh oq]
theorem subF_zero:iN G S t c 0 0 r j=G r j:=oh oq
theorem eQ (h:r=t∨i<r∨r=i∧q≤j):iN G S t c i q r j=G r j:=oh oq
theorem lU (h:r≠t) (h':r<i∨r=i∧j<q):iN G S t c i q r j=((G r j).1-(G r c).1*(G t j).1,S):=og ⟨h,h'⟩
theorem oU (h:r≠i∨j≠q):iN G S t c i (q+1) r j=iN G S t c i q r j:=by
 unfold iN
 by_cases h':r≠t∧(r<i∨r=i∧j<q)
 ·rw [og h',og ⟨h'.1,oq⟩]
 ·rw [oh h',oh oq]
theorem aBt (hj:j<3):iN G S t c (i+1) 0 r j=iN G S t c i 3 r j:=by
 unfold iN
 by_cases h':r≠t∧(r<i∨r=i∧j<3)
 ·rw [og h',og ⟨h'.1,oq⟩]
 ·rw [oh h',oh oq]
theorem subF_skip:iN G S t c (t+1) 0 r j=iN G S t c t 0 r j:=by
 unfold iN
 by_cases h':r≠t∧(r<t∨r=t∧j<0)
 ·rw [og h',og ⟨h'.1,oq⟩]
 ·rw [oh h',oh oq]
end
section
variable {k:World}{R:World→Value→Prop}{A:Option Addr}{n c0:Nat}{M:Nat→Nat→W4}
theorem bC {q n:Nat}(h:q<n):decide ((0:Int)≤(q:Int)∧(q:Int)<(n:Int))=true:=decide_eq_true ⟨oq,oq⟩
theorem pH {q n:Nat}(h:q<n):(0:Int)≤(q:Int)∧(q:Int)<(n:Int):=⟨oq,oq⟩
theorem aHo (hM:Els2 k A n 3 18 (Ent k) fun i j=>(M i j,1)) (h0:0<n) (hn:n≤32)
 (C:∀k' A' c' B p d ps,Up k k'→EchR n M ps→Seg 18 d→R k' (.tuple #[.slice A' n c',.slice B ps.length p,.agg d])) :
 Cl k 95 #[.slice A n c0] R:=by
 intro k0 u0;refine aCn (aLx (Els2.up hM u0 fun _ _ h=>h.up u0) cS oq oz fun k1 A1 c1 X0 Y0 u1 hF0=>⟨A1,n,c1,X0,X0,Y0,rfl,?_⟩);refine whole_s (z:=1) oz oz fun k3 d0 u3 hd0=>⟨d0,hd0.seg,rfl,fun k4 u4 hrow=>?_⟩;obtain⟨B0,b0,_,hx0,_,_,_⟩:=hF0.row 0 h0;obtain⟨g0,eA,_,_⟩:=hrow 0 _ hx0;refine vD (B:=B0) (m:=3) (d:=b0) ⟨g0,0,eA⟩ h0 (fun k' u'=>(InAt.of (aBf hrow u')).read hF0.rowC rfl fun q u hq=>?_) (fun _ _=>⟨_,rfl,fun k5 u5=>?_⟩) k4 (Up.refl _)
 ·obtain⟨rfl,rfl⟩:=aAu rfl hq;exact hx0
 have u15:=u3.trans u5
 refine⟨fun r k' vs=>∃(c:Nat) (A:Option Addr) (c1:Nat) (X Y:Array Value) (B:Option Addr) (p:Nat) (cs d:Array Value) (dv:W4) (E:Nat→Nat→W4) (ps:List Nat),c+r=3∧
  vs=[.int .i64 (c:Int),.tuple #[.slice A n c1,.agg X],.tuple #[.agg X,.agg Y],.tuple #[.slice B ps.length p,.agg cs],.agg d]∧RowC cs∧WaveV k' d dv (szE c)∧
  FamV n (fun _=>3) 18 (Ent k') (fun i j=>(E i j,szE c)) X Y∧Ek.Ech n E ps c∧∀x,Ek.Ker n 3 E x↔Ek.Ker n 3 M x,
  ⟨3,fun k6 u6=>⟨0,A1,c1,X0,Y0,none,0,#[],d0,_,M,[],rfl,rfl,fun u hu=>(by cases hu),hd0.up (u5.trans u6),hF0.mono fun _ _ h=>h.up (u1.trans (u15.trans u6)),Ek.Ech.none,fun _=>Iff.rfl⟩⟩,?_⟩
 rintro r k6 _ u6 ⟨c,A2,c2,X,Y,B,pc,cs,d,dv,E,ps,hc,rfl,hcs,hd,hF,hE,hK⟩;have u06:=u0.trans (u1.trans (u15.trans u6));refine⟨_,A2,n,c2,X,hF.rowC,X,hF.rowC,Y,hF.famC cS,B,ps.length,pc,cs,hcs,d,hd.seg,rfl,fun hlt=>?_,fun hge k97 u97 _ k98 u98 _ k99 u99 _ k100 u100=>?_⟩
 rotate_left
 ·have e:c=3:=by have:=ov hge;omega
  subst e;exact C k100 A2 c2 B pc d ps (u06.trans (u97.trans (u98.trans (u99.trans u100)))) ⟨E,hE,hK⟩ hd.seg
 have hlt:c<3:=by have:=ow hlt;omega
 obtain⟨z1,z2,z3⟩:=aVo hlt;have hlen:=hE.len
 -- the pivot is looked for
 refine⟨rfl,fun k' vs=>∃(p:Nat) (Y':Array Value),vs=[.int .i64 (p:Int),.tuple #[.agg X,.agg Y']]∧FamV n (fun _=>3) 18 (Ent k') (fun i j=>(E i j,szE c)) X Y'∧ps.length≤p∧p≤n∧
  (∀i,ps.length≤i→i<p→E i c=W4.zero)∧(p<n→E p c≠W4.zero),
  ⟨fun r k' vs=>∃p:Nat,p+r=n∧vs=[.int .i64 (p:Int),.tuple #[.agg X,.agg Y]]∧ps.length≤p∧∀i,ps.length≤i→i<p→E i c=W4.zero,
    ⟨n-ps.length,fun k7 u7=>⟨ps.length,oq,rfl,oy _,fun i h1 h2=>absurd h2 oq⟩⟩,?_⟩,?_⟩
 ·rintro r7 k7 _ u7 ⟨p,hp,rfl,htp,hz⟩;refine⟨_,X,hF.rowC,Y,hF.famC cS,rfl,?_⟩;rintro A18 l18 c18 cs19 x1 y1 t1 ex ey;refine⟨rfl,fun hlt=>?_,fun hge=>?_⟩
  ·have hlt:p<n:=by have:=ow hlt;omega
   obtain⟨g1,g2⟩:X[p]?=some (.slice A18 l18 c18)∧Y[p]?=some (.agg cs19):=t1 (by rw [hF.sx];exact hlt);obtain⟨gl,_,ga⟩:=hF.get g1 g2;obtain rfl:l18=3:=gl;obtain⟨a,sa,ha,ra⟩:=ga.cell (i:=c) oq cS;refine⟨bC hlt,cE rfl g1,bC (n:=3) oq,a,sa,ra,rP (x:=E p c) (K:=szE c) (ha.up u7) oq fun k8 u8=>⟨_,rfl,fun x2 y2 ex2 ey2=>?_⟩⟩;obtain rfl:X=x2:=bV ex ex2 fun _=>g1;obtain rfl:Y=y2:=bV ey ey2 fun _=>g2;refine⟨fun hb k10 u10=>⟨r7-1,oq,p+1,oq,by rw [wup oq],oq,fun i h1 h2=>?_⟩,fun hb k11 u11=>⟨p,Y,rfl,hF.mono fun _ _ h=>h.up (u7.trans (u8.trans u11)),htp,oq,hz,fun _=>ov hb⟩⟩
   by_cases e:i=p
   ·rw [e];exact ow hb
   ·exact hz i h1 oq
  ·have hge:n≤p:=by have:=ov hge;omega
   intro x2 y2 ex2 ey2 k12 u12;obtain rfl:X=x2:=bV ex ex2 fun h=>absurd h (by rw [hF.sx];exact Nat.not_lt.2 hge);obtain rfl:Y=y2:=bV ey ey2 fun h=>absurd h (by rw [hF.sy];exact Nat.not_lt.2 hge);exact⟨p,Y,rfl,hF.mono fun _ _ h=>h.up (u7.trans u12),htp,oq,hz,fun h=>absurd h oq⟩
 rintro k13 _ u13 ⟨p,Y1,rfl,hF1,htp,hpn,hz,hnz⟩;refine⟨_,X,hF1.rowC,Y1,hF1.famC cS,rfl,rfl,fun heq=>?_,fun hne=>?_⟩
 ·have e:p=n:=by have:=eq_of_beq heq;omega
  refine whole_s (z:=0) oz oz fun k15 d1 u15 hd1=>⟨d1,hd1.seg,rfl,fun k16 u16=>?_⟩
  exact⟨r-1,oq,c+1,A2,c2,X,Y1,B,pc,cs,d1,_,E,ps,oq,by rw [wup oq],hcs,(hd1.up u16).mono oq,(hF1.mono fun _ _ h=>h.up (u15.trans u16)).wk fun j _ q _=>⟨rfl,by show szE c≤szE (c+1);omega⟩,
   hE.wider fun i hi hl=>(hz i hl oq).trans W4.zero_eq.symm,hK⟩
 have hpn:p<n:=by have:=ne_of_beq_false hne;omega
 have hnz:=hnz hpn;have htn:ps.length<n:=oq
 have hd13:=hd.up u13;have u613:=u06.trans u13;clear hd;refine⟨fun hsw=>?_,fun hns=>?_⟩
 ·have hne:p≠ps.length:=fun e=>by rw [e,bne_self_eq_false]at hsw;cases hsw
  rintro A18 l18 c18 cs19 x1 y1 t1 ex1 ey1 A22 l22 c22 cs23 x2 y2 t2 ex2 ey2;obtain⟨g1,g2⟩:X[p]?=some (.slice A18 l18 c18)∧Y1[p]?=some (.agg cs19):=t1 (by rw [hF1.sx];exact hpn);obtain⟨g3,g4⟩:X[ps.length]?=some (.slice A22 l22 c22)∧Y1[ps.length]?=some (.agg cs23):=by
   have:=t2 (by rw [ex1,vq,hF1.sx];exact htn);rw [ex1,ey1]at this;exact⟨(get_set hne).symm.trans this.1,(get_set hne).symm.trans this.2⟩
  obtain⟨gl,_,_⟩:=hF1.get g1 g2;obtain rfl:l18=3:=gl;obtain⟨gl,_,_⟩:=hF1.get g3 g4;obtain rfl:l22=3:=gl;refine⟨bC htn,cE rfl g3,bC hpn,cE rfl g1,bC hpn,pH hpn,fun x3 ex3=>⟨bC htn,pH htn,fun x4 ex4 x5 y5 ex5 ey5 X2 Y2 ex6 ey6=>?_⟩⟩;have hF2:=hF1.swap hpn htn hne g1 g2 g3 g4;have e4:x4=(X.setIfInBounds p (.slice A22 3 c22)).setIfInBounds ps.length (.slice A18 3 c18):=by
   rw [ex4,gF,ex3,gF]
  have e6:X2=(X.setIfInBounds p (.slice A22 3 c22)).setIfInBounds ps.length (.slice A18 3 c18):=by
   rw [ex6,ex5,ex2,ex1];exact aBo hne
  have f6:Y2=(Y1.setIfInBounds p (.agg cs23)).setIfInBounds ps.length (.agg cs19):=by
   rw [ey6,ey5,ey2,ey1];exact aBo hne
  obtain rfl:X2=x4:=e6.trans e4.symm;rw [←e6,←f6]at hF2;clear ex1 ey1 ex2 ey2 ex3 ex4 ex5 ey5 ex6 ey6 e6 f6 t1 t2 g1 g2 g3 g4;obtain⟨E1,hE1,hF2⟩:∃E1:Nat→Nat→W4,(∀i j,E1 i j=if i=ps.length then E p j else if i=p then E ps.length j else E i j)∧FamV n (fun _=>3) 18 (Ent k13) (fun i j=>(E1 i j,szE c)) X2 Y2:=
   ⟨fun i j=>if i=ps.length then E p j else if i=p then E ps.length j else E i j,fun _ _=>rfl,hF2.congr fun i _ j _=>by
     by_cases h1:i=ps.length
     ·simp only [og h1]
     ·by_cases h2:i=p
      ·simp only [oh h1,og h2]
      ·simp only [oh h1,oh h2]⟩
  refine aXb (x:=dv) (K:=szE c) hd13 oq fun kw dd uw hdd=>⟨dd,hdd.seg,rfl,?_⟩;replace hF2:=hF2.mono fun _ _ h=>Ent.up h uw;have ukw:=u613.trans uw;intro A33 l33 c33 cs34 x7 y7 t3 ex7 ey7;obtain⟨g1,g2⟩:X2[ps.length]?=some (.slice A33 l33 c33)∧Y2[ps.length]?=some (.agg cs34):=t3 (by rw [hF2.sx];exact htn);obtain⟨gl,_,ga⟩:=hF2.get g1 g2;obtain rfl:l33=3:=gl;obtain⟨a,sa,ha,ra⟩:=ga.cell (i:=c) hlt cS;refine⟨bC htn,cE rfl g1,bC (n:=3) hlt,a,sa,ra,fun x8 y8 ex8 ey8=>?_⟩;obtain rfl:X2=x8:=bV ex7 ex8 fun _=>g1;obtain rfl:Y2=y8:=bV ey7 ey8 fun _=>g2;have ha:WaveV kw a (E1 ps.length c) (szE c):=ha;refine sJ (K:=szE c) hdd ha z2 oq fun k20 d2 u20 hd2=>⟨d2,hd2.seg,rfl,?_⟩;intro A41 l41 c41 cs42 x9 y9 t4 ex9 ey9;obtain⟨g5,g6⟩:X2[ps.length]?=some (.slice A41 l41 c41)∧Y2[ps.length]?=some (.agg cs42):=t4 (by rw [hF2.sx];exact htn);obtain⟨gl,_,_⟩:=hF2.get g5 g6;obtain rfl:l41=3:=gl;refine⟨bC htn,cE rfl g5,rfl,fun x10 y10 ex10 ey10=>?_⟩;obtain rfl:X2=x10:=bV ex9 ex10 fun _=>g5;obtain rfl:Y2=y10:=bV ey9 ey10 fun _=>g6;have hfz:E1 ps.length c≠W4.zero:=by rw [hE1,og rfl];exact hnz
  obtain⟨v,hv⟩:∃v,v=(W4.real 1).div (E1 ps.length c):=⟨_,rfl⟩
  -- the row is divided
  refine⟨fun r k' vs=>∃(q:Nat) (Y':Array Value),q+r=3∧vs=[.int .i64 (q:Int),.tuple #[.agg X2,.agg Y']]∧FamV n (fun _=>3) 18 (Ent k') (lV E1 v (szE c) ps.length q) X2 Y',
   ⟨3,fun k' u'=>⟨0,Y2,rfl,rfl,(hF2.mono fun _ _ h=>Ent.up h (u20.trans u')).congr fun i _ j _=>divF_zero.symm⟩⟩,?_⟩
  rintro r4 k21 _ u21 ⟨q,Y3,hq,rfl,hF3⟩;refine⟨_,X2,hF3.rowC,Y3,hF3.famC cS,rfl,fun hlt4=>?_,fun hge4=>?_⟩
  ·have hq3:q<3:=by have:=ow hlt4;omega
   intro A50 l50 c50 cs51 x11 y11 t5 ex11 ey11;obtain⟨g7,g8⟩:X2[ps.length]?=some (.slice A50 l50 c50)∧Y3[ps.length]?=some (.agg cs51):=t5 (by rw [hF3.sx];exact htn);obtain⟨gl,_,ga3⟩:=hF3.get g7 g8;obtain rfl:l50=3:=gl;obtain⟨b,sb,hb,rb⟩:=ga3.cell (i:=q) hq3 cS;rw [bX (.inr (oy q))]at hb;have hb:WaveV k21 b (E1 ps.length q) (szE c):=hb;refine⟨bC htn,cE rfl g7,bC htn,cE rfl g7,bC (n:=3) hq3,b,sb,rb,?_⟩;refine aLj hb (ha.up (u20.trans u21)) z2 oq fun k23 d3 u23 hd3=>⟨d3,hd3.seg,_,rfl,bC (n:=3) hq3,pH (n:=3) hq3,fun x12 ex12 x13 y13 ex13 ey13 k24 u24=>?_⟩;obtain rfl:X2=x13:=bV ex11 ex13 fun _=>g7;refine⟨r4-1,oq,q+1,y13,oq,by rw [wup oq],?_⟩;rw [zC ey11 ey13,ex12,qo];refine hF3.put (Q:=Ent k24) (j:=ps.length) htn (fun _ _ h=>Ent.up h (u23.trans u24)) g7 ?_ fun i _ hi j _=>nS (.inl hi);refine (ga3.mono fun _ _ h=>Ent.up h (u23.trans u24)).set hq3 hd3.seg.1 ?_ fun j _ hj=>(nS (.inr hj)).symm;rw [fY (zp q)];rw [W4.div_eq hfz,←hv]at hd3;exact hd3.up u24
  have hq3:q=3:=by have:=ov hge4;omega
  subst hq3
  -- it is taken from the others
  refine⟨rfl,fun r k' vs=>∃(i:Nat) (Y':Array Value),i+r=n∧vs=[.int .i64 (i:Int),.tuple #[.agg X2,.agg Y']]∧FamV n (fun _=>3) 18 (Ent k') (iN (lV E1 v (szE c) ps.length 3) (szE (c+1)) ps.length c i 0) X2 Y',
   ⟨n,fun k' u'=>⟨0,Y3,qc _,rfl,(hF3.mono fun _ _ h=>Ent.up h u').congr fun i _ j _=>subF_zero.symm⟩⟩,?_⟩
  rintro r6 k25 _ u25 ⟨i,Y4,hi,rfl,hF4⟩;refine⟨_,X2,hF4.rowC,Y4,hF4.famC cS,rfl,fun hlt6=>?_,fun hge6=>?_⟩
  ·have hin:i<n:=by have:=ow hlt6;omega
   intro A53 l53 c53 cs54 x14 y14 t6 ex14 ey14;obtain⟨g9,g10⟩:X2[i]?=some (.slice A53 l53 c53)∧Y4[i]?=some (.agg cs54):=t6 (by rw [hF4.sx];exact hin);obtain⟨gl,_,ga4⟩:=hF4.get g9 g10;obtain rfl:l53=3:=gl;obtain⟨f,sf,hf,rf⟩:=ga4.cell (i:=c) hlt cS;refine⟨bC hin,cE rfl g9,bC (n:=3) hlt,f,sf,rf,fun x15 y15 ex15 ey15=>?_⟩;obtain rfl:X2=x15:=bV ex14 ex15 fun _=>g9;obtain rfl:Y4=y15:=bV ey14 ey15 fun _=>g10;refine⟨fun he k26 u26=>?_,fun hne6=>?_⟩
   ·have e:i=ps.length:=by have:=eq_of_beq he;omega
    subst e;exact⟨r6-1,oq,ps.length+1,Y4,oq,by rw [wup oq],(hF4.mono fun _ _ h=>Ent.up h u26).congr fun i _ j _=>subF_skip.symm⟩
   have hit:i≠ps.length:=by have:=ne_of_beq_false hne6;omega
   rw [eQ (.inr (.inr ⟨rfl,jx c⟩)),bX (.inl hit)]at hf;have hf:WaveV k25 f (E1 i c) (szE c):=hf;refine rP hf oq fun k28 u28=>⟨_,rfl,fun hb k29 u29=>?_,fun hb=>?_⟩
   ·have hz0:E1 i c=W4.zero:=ow hb;refine⟨r6-1,oq,i+1,Y4,oq,by rw [wup oq],(hF4.mono fun _ _ h=>Ent.up h (u28.trans u29)).wk fun j _ q _=>?_⟩
    by_cases hj:j=i
    ·subst hj;rw [eQ (.inr (.inr ⟨rfl,jx q⟩)),lU hit (.inl (zp j)),bX (.inl hit),bX (.inl hit)];refine⟨?_,by show szE c≤szE (c+1);omega⟩;show E1 j q=E1 j q-E1 j c*_;rw [hz0];exact (W4.sub_zm _ _).symm
    ·rw [show iN (lV E1 v (szE c) ps.length 3) (szE (c+1)) ps.length c (i+1) 0 j q=iN (lV E1 v (szE c) ps.length 3) (szE (c+1)) ps.length c i 0 j q by
      unfold iN
      by_cases h':j≠ps.length∧(j<i∨j=i∧q<0)
      ·rw [og h',og ⟨h'.1,oq⟩]
      ·rw [oh h',oh oq]]
     exact⟨rfl,oy _⟩
   intro A61 l61 c61 cs62 x16 y16 t7 ex16 ey16;obtain⟨g11,g12⟩:X2[i]?=some (.slice A61 l61 c61)∧Y4[i]?=some (.agg cs62):=t7 (by rw [hF4.sx];exact hin);obtain⟨gl,_,_⟩:=hF4.get g11 g12;obtain rfl:l61=3:=gl;refine⟨bC hin,cE rfl g11,rfl,fun x17 y17 ex17 ey17=>?_⟩;obtain rfl:X2=x17:=bV ex16 ex17 fun _=>g11;obtain rfl:Y4=y17:=bV ey16 ey17 fun _=>g12
   refine⟨fun r k' vs=>∃(q:Nat) (Y':Array Value),q+r=3∧vs=[.int .i64 (q:Int),.tuple #[.agg X2,.agg Y']]∧FamV n (fun _=>3) 18 (Ent k') (iN (lV E1 v (szE c) ps.length 3) (szE (c+1)) ps.length c i q) X2 Y',
    ⟨3,fun k' u'=>⟨0,Y4,rfl,rfl,hF4.mono fun _ _ h=>Ent.up h (u28.trans u')⟩⟩,?_⟩
   rintro r8 k30 _ u30 ⟨q,Y5,hq,rfl,hF5⟩;refine⟨_,X2,hF5.rowC,Y5,hF5.famC cS,rfl,fun hlt8=>?_,fun hge8 k36 u36=>?_⟩
   ·have hq3:q<3:=by have:=ow hlt8;omega
    intro A70 l70 c70 cs71 x18 y18 t8 ex18 ey18 A74 l74 c74 cs75 x19 y19 t9 ex19 ey19;obtain⟨g13,g14⟩:X2[i]?=some (.slice A70 l70 c70)∧Y5[i]?=some (.agg cs71):=t8 (by rw [hF5.sx];exact hin);obtain⟨g15,g16⟩:X2[ps.length]?=some (.slice A74 l74 c74)∧Y5[ps.length]?=some (.agg cs75):=by
     have:=t9 (by rw [ex18,vq,hF5.sx];exact htn);rw [ex18,ey18]at this;exact⟨(get_set hit).symm.trans this.1,(get_set hit).symm.trans this.2⟩
    obtain⟨gl,_,ga5⟩:=hF5.get g13 g14;obtain rfl:l70=3:=gl;obtain⟨gl,_,ga6⟩:=hF5.get g15 g16;obtain rfl:l74=3:=gl;obtain⟨b,sb,hb,rb⟩:=ga5.cell (i:=q) hq3 cS;obtain⟨e,se,he,re⟩:=ga6.cell (i:=q) hq3 cS;rw [eQ (.inr (.inr ⟨rfl,oy q⟩)),bX (.inl hit)]at hb;rw [eQ (.inl rfl),fY hq3]at he;have hb:WaveV k30 b (E1 i q) (szE c):=hb;have he:WaveV k30 e (E1 ps.length q*v) (20*szE c+57):=he;refine⟨bC hin,cE rfl g13,bC hin,cE rfl g13,bC (n:=3) hq3,b,sb,rb,bC htn,cE rfl g15,bC (n:=3) hq3,e,se,re,?_⟩;refine sJ (K:=20*szE c+57) ((hf.up (u28.trans u30)).mono oq) he oq oq fun k32 d4 u32 h4=>⟨d4,h4.seg,rfl,?_⟩;refine aLl (K:=4*(20*szE c+57)+9) ((hb.up u32).mono oq) h4 oq oq fun k34 d5 u34 h5=>⟨d5,h5.seg,rfl,bC (n:=3) hq3,pH (n:=3) hq3,fun x20 ex20 x21 y21 ex21 ey21 x22 y22 ex22 ey22 k35 u35=>?_⟩;have eX:x22=X2:=by
     rw [ex22,ex21,ex19,ex18];refine (sC hit).trans ?_;rw [iL (X:=X2) fun _=>g13,iL fun _=>g15]
    have eY:y22=Y5.setIfInBounds i (.agg x20):=by
     rw [ey22,ey21,ey19,ey18];refine (sC hit).trans (iL fun _=>?_);rw [get_set hit];exact g16
    refine⟨r8-1,oq,q+1,y22,oq,by rw [wup oq,eX],?_⟩;rw [eY,ex20,qo];have uu:=u32.trans (u34.trans u35);refine hF5.put (Q:=Ent k35) (j:=i) hin (fun _ _ h=>Ent.up h uu) g13 ?_ fun r _ hr j _=>oU (.inl hr);refine (ga5.mono fun _ _ h=>Ent.up h uu).set hq3 h5.seg.1 ?_ fun j _ hj=>(oU (.inr hj)).symm;rw [lU hit (.inr ⟨rfl,zp q⟩),bX (.inl hit),bX (.inl hit),fY hq3];exact (h5.up u35).mono (by show _≤szE (c+1);omega)
   ·have e:q=3:=by have:=ov hge8;omega
    subst e;exact⟨r6-1,oq,i+1,Y5,oq,by rw [wup oq],(hF5.mono fun _ _ h=>Ent.up h u36).congr fun r _ j hj=>(aBt hj).symm⟩
  have e:i=n:=by have:=ov hge6;omega
  subst e;refine⟨rfl,oq,⟨oq,oq⟩,?_⟩;rintro A53 l53 c53 _ el rfl _ k37 u37;have el:l53=(ps++[c]).length:=by rw [od,kf];exact el
  subst el
  have st:=hE.step (M':=fun r j=>if r=ps.length then E1 r j*v else E1 r j-E1 r c*(E1 ps.length j*v)) hlt htp hpn (u:=v) (by
   have:=W4.one_div hfz;rw [←hv,hE1,og rfl]at this
   exact this) (fun j _=>by rw [og rfl,hE1,og rfl]) fun r _ hr j _=>by
   rw [oh hr,og rfl,hE1 r,hE1 r,oh hr,oh hr]
  have u2037:=u20.trans (u21.trans (u25.trans u37));refine⟨r-1,oq,c+1,A2,c2,X2,Y4,A53,c53,_,d2,_,_,ps++[c],oq,by rw [wup oq],fun w hw=>?_,(hd2.up (u21.trans (u25.trans u37))).mono oq,(hF4.mono fun _ _ h=>Ent.up h u37).wk (G:=fun r j=>(if r=ps.length then E1 r j*v else E1 r j-E1 r c*(E1 ps.length j*v),szE (c+1))) fun r hr j hj=>?_,st.1,fun x=>(st.2 x).trans (hK x)⟩
  ·rw [zd]at hw;rcases qd.1 hw with hw|hw
   ·exact hcs w hw
   ·have hw:w=Value.int .i64 (c:Int):=by simpa using hw
    rw [hw];exact⟨rfl,rfl⟩
  ·by_cases h:r=ps.length
   ·subst h;rw [eQ (.inl rfl),fY hj];exact⟨(og rfl).symm,by show 20*szE c+57≤szE (c+1);omega⟩
   ·rw [lU h (.inl hr),bX (.inl h),bX (.inl h),fY hj];exact⟨(oh h).symm,oy _⟩
 ·have e:p=ps.length:=by
   have:=(bne_eq_false_iff_eq).1 hns;omega
  obtain⟨E1,hE1,hF2⟩:∃E1:Nat→Nat→W4,(∀i j,E1 i j=if i=ps.length then E p j else if i=p then E ps.length j else E i j)∧FamV n (fun _=>3) 18 (Ent k13) (fun i j=>(E1 i j,szE c)) X Y1:=
   ⟨E,fun i j=>by
     by_cases h1:i=ps.length
     ·rw [og h1,e,h1]
     ·rw [oh h1,oh oq],hF1⟩
  obtain⟨kw,hkw⟩:∃kw,kw=k13:=⟨_,rfl⟩;subst hkw;obtain⟨X2,hX2⟩:∃X2,X2=X:=⟨_,rfl⟩;subst hX2;obtain⟨Y2,hY2⟩:∃Y2,Y2=Y1:=⟨_,rfl⟩;subst hY2;obtain⟨dd,hdd⟩:∃dd,dd=d:=⟨_,rfl⟩;subst hdd;have hdd:=hd13;have ukw:=u613;intro A33 l33 c33 cs34 x7 y7 t3 ex7 ey7;obtain⟨g1,g2⟩:X2[ps.length]?=some (.slice A33 l33 c33)∧Y2[ps.length]?=some (.agg cs34):=t3 (by rw [hF2.sx];exact htn);obtain⟨gl,_,ga⟩:=hF2.get g1 g2;obtain rfl:l33=3:=gl;obtain⟨a,sa,ha,ra⟩:=ga.cell (i:=c) hlt cS;refine⟨bC htn,cE rfl g1,bC (n:=3) hlt,a,sa,ra,fun x8 y8 ex8 ey8=>?_⟩;obtain rfl:X2=x8:=bV ex7 ex8 fun _=>g1;obtain rfl:Y2=y8:=bV ey7 ey8 fun _=>g2;have ha:WaveV kw a (E1 ps.length c) (szE c):=ha;refine sJ (K:=szE c) hdd ha z2 oq fun k20 d2 u20 hd2=>⟨d2,hd2.seg,rfl,?_⟩;intro A41 l41 c41 cs42 x9 y9 t4 ex9 ey9;obtain⟨g5,g6⟩:X2[ps.length]?=some (.slice A41 l41 c41)∧Y2[ps.length]?=some (.agg cs42):=t4 (by rw [hF2.sx];exact htn);obtain⟨gl,_,_⟩:=hF2.get g5 g6;obtain rfl:l41=3:=gl;refine⟨bC htn,cE rfl g5,rfl,fun x10 y10 ex10 ey10=>?_⟩;obtain rfl:X2=x10:=bV ex9 ex10 fun _=>g5;obtain rfl:Y2=y10:=bV ey9 ey10 fun _=>g6;have hfz:E1 ps.length c≠W4.zero:=by rw [hE1,og rfl];exact hnz
  obtain⟨v,hv⟩:∃v,v=(W4.real 1).div (E1 ps.length c):=⟨_,rfl⟩
  -- the row is divided
  refine⟨fun r k' vs=>∃(q:Nat) (Y':Array Value),q+r=3∧vs=[.int .i64 (q:Int),.tuple #[.agg X2,.agg Y']]∧FamV n (fun _=>3) 18 (Ent k') (lV E1 v (szE c) ps.length q) X2 Y',
   ⟨3,fun k' u'=>⟨0,Y2,rfl,rfl,(hF2.mono fun _ _ h=>Ent.up h (u20.trans u')).congr fun i _ j _=>divF_zero.symm⟩⟩,?_⟩
  rintro r4 k21 _ u21 ⟨q,Y3,hq,rfl,hF3⟩;refine⟨_,X2,hF3.rowC,Y3,hF3.famC cS,rfl,fun hlt4=>?_,fun hge4=>?_⟩
  ·have hq3:q<3:=by have:=ow hlt4;omega
   intro A50 l50 c50 cs51 x11 y11 t5 ex11 ey11;obtain⟨g7,g8⟩:X2[ps.length]?=some (.slice A50 l50 c50)∧Y3[ps.length]?=some (.agg cs51):=t5 (by rw [hF3.sx];exact htn);obtain⟨gl,_,ga3⟩:=hF3.get g7 g8;obtain rfl:l50=3:=gl;obtain⟨b,sb,hb,rb⟩:=ga3.cell (i:=q) hq3 cS;rw [bX (.inr (oy q))]at hb;have hb:WaveV k21 b (E1 ps.length q) (szE c):=hb;refine⟨bC htn,cE rfl g7,bC htn,cE rfl g7,bC (n:=3) hq3,b,sb,rb,?_⟩;refine aLj hb (ha.up (u20.trans u21)) z2 oq fun k23 d3 u23 hd3=>⟨d3,hd3.seg,_,rfl,bC (n:=3) hq3,pH (n:=3) hq3,fun x12 ex12 x13 y13 ex13 ey13 k24 u24=>?_⟩;obtain rfl:X2=x13:=bV ex11 ex13 fun _=>g7;refine⟨r4-1,oq,q+1,y13,oq,by rw [wup oq],?_⟩;rw [zC ey11 ey13,ex12,qo];refine hF3.put (Q:=Ent k24) (j:=ps.length) htn (fun _ _ h=>Ent.up h (u23.trans u24)) g7 ?_ fun i _ hi j _=>nS (.inl hi);refine (ga3.mono fun _ _ h=>Ent.up h (u23.trans u24)).set hq3 hd3.seg.1 ?_ fun j _ hj=>(nS (.inr hj)).symm;rw [fY (zp q)];rw [W4.div_eq hfz,←hv]at hd3;exact hd3.up u24
  have hq3:q=3:=by have:=ov hge4;omega
  subst hq3
  -- it is taken from the others
  refine⟨rfl,fun r k' vs=>∃(i:Nat) (Y':Array Value),i+r=n∧vs=[.int .i64 (i:Int),.tuple #[.agg X2,.agg Y']]∧FamV n (fun _=>3) 18 (Ent k') (iN (lV E1 v (szE c) ps.length 3) (szE (c+1)) ps.length c i 0) X2 Y',
   ⟨n,fun k' u'=>⟨0,Y3,qc _,rfl,(hF3.mono fun _ _ h=>Ent.up h u').congr fun i _ j _=>subF_zero.symm⟩⟩,?_⟩
  rintro r6 k25 _ u25 ⟨i,Y4,hi,rfl,hF4⟩;refine⟨_,X2,hF4.rowC,Y4,hF4.famC cS,rfl,fun hlt6=>?_,fun hge6=>?_⟩
  ·have hin:i<n:=by have:=ow hlt6;omega
   intro A53 l53 c53 cs54 x14 y14 t6 ex14 ey14;obtain⟨g9,g10⟩:X2[i]?=some (.slice A53 l53 c53)∧Y4[i]?=some (.agg cs54):=t6 (by rw [hF4.sx];exact hin);obtain⟨gl,_,ga4⟩:=hF4.get g9 g10;obtain rfl:l53=3:=gl;obtain⟨f,sf,hf,rf⟩:=ga4.cell (i:=c) hlt cS;refine⟨bC hin,cE rfl g9,bC (n:=3) hlt,f,sf,rf,fun x15 y15 ex15 ey15=>?_⟩;obtain rfl:X2=x15:=bV ex14 ex15 fun _=>g9;obtain rfl:Y4=y15:=bV ey14 ey15 fun _=>g10;refine⟨fun he k26 u26=>?_,fun hne6=>?_⟩
   ·have e:i=ps.length:=by have:=eq_of_beq he;omega
    subst e;exact⟨r6-1,oq,ps.length+1,Y4,oq,by rw [wup oq],(hF4.mono fun _ _ h=>Ent.up h u26).congr fun i _ j _=>subF_skip.symm⟩
   have hit:i≠ps.length:=by have:=ne_of_beq_false hne6;omega
   rw [eQ (.inr (.inr ⟨rfl,jx c⟩)),bX (.inl hit)]at hf;have hf:WaveV k25 f (E1 i c) (szE c):=hf;refine rP hf oq fun k28 u28=>⟨_,rfl,fun hb k29 u29=>?_,fun hb=>?_⟩
   ·have hz0:E1 i c=W4.zero:=ow hb;refine⟨r6-1,oq,i+1,Y4,oq,by rw [wup oq],(hF4.mono fun _ _ h=>Ent.up h (u28.trans u29)).wk fun j _ q _=>?_⟩
    by_cases hj:j=i
    ·subst hj;rw [eQ (.inr (.inr ⟨rfl,jx q⟩)),lU hit (.inl (zp j)),bX (.inl hit),bX (.inl hit)];refine⟨?_,by show szE c≤szE (c+1);omega⟩;show E1 j q=E1 j q-E1 j c*_;rw [hz0];exact (W4.sub_zm _ _).symm
    ·rw [show iN (lV E1 v (szE c) ps.length 3) (szE (c+1)) ps.length c (i+1) 0 j q=iN (lV E1 v (szE c) ps.length 3) (szE (c+1)) ps.length c i 0 j q by
      unfold iN
      by_cases h':j≠ps.length∧(j<i∨j=i∧q<0)
      ·rw [og h',og ⟨h'.1,oq⟩]
      ·rw [oh h',oh oq]]
     exact⟨rfl,oy _⟩
   intro A61 l61 c61 cs62 x16 y16 t7 ex16 ey16;obtain⟨g11,g12⟩:X2[i]?=some (.slice A61 l61 c61)∧Y4[i]?=some (.agg cs62):=t7 (by rw [hF4.sx];exact hin);obtain⟨gl,_,_⟩:=hF4.get g11 g12;obtain rfl:l61=3:=gl;refine⟨bC hin,cE rfl g11,rfl,fun x17 y17 ex17 ey17=>?_⟩;obtain rfl:X2=x17:=bV ex16 ex17 fun _=>g11;obtain rfl:Y4=y17:=bV ey16 ey17 fun _=>g12
   refine⟨fun r k' vs=>∃(q:Nat) (Y':Array Value),q+r=3∧vs=[.int .i64 (q:Int),.tuple #[.agg X2,.agg Y']]∧FamV n (fun _=>3) 18 (Ent k') (iN (lV E1 v (szE c) ps.length 3) (szE (c+1)) ps.length c i q) X2 Y',
    ⟨3,fun k' u'=>⟨0,Y4,rfl,rfl,hF4.mono fun _ _ h=>Ent.up h (u28.trans u')⟩⟩,?_⟩
   rintro r8 k30 _ u30 ⟨q,Y5,hq,rfl,hF5⟩;refine⟨_,X2,hF5.rowC,Y5,hF5.famC cS,rfl,fun hlt8=>?_,fun hge8 k36 u36=>?_⟩
   ·have hq3:q<3:=by have:=ow hlt8;omega
    intro A70 l70 c70 cs71 x18 y18 t8 ex18 ey18 A74 l74 c74 cs75 x19 y19 t9 ex19 ey19;obtain⟨g13,g14⟩:X2[i]?=some (.slice A70 l70 c70)∧Y5[i]?=some (.agg cs71):=t8 (by rw [hF5.sx];exact hin);obtain⟨g15,g16⟩:X2[ps.length]?=some (.slice A74 l74 c74)∧Y5[ps.length]?=some (.agg cs75):=by
     have:=t9 (by rw [ex18,vq,hF5.sx];exact htn);rw [ex18,ey18]at this;exact⟨(get_set hit).symm.trans this.1,(get_set hit).symm.trans this.2⟩
    obtain⟨gl,_,ga5⟩:=hF5.get g13 g14;obtain rfl:l70=3:=gl;obtain⟨gl,_,ga6⟩:=hF5.get g15 g16;obtain rfl:l74=3:=gl;obtain⟨b,sb,hb,rb⟩:=ga5.cell (i:=q) hq3 cS;obtain⟨e,se,he,re⟩:=ga6.cell (i:=q) hq3 cS;rw [eQ (.inr (.inr ⟨rfl,oy q⟩)),bX (.inl hit)]at hb;rw [eQ (.inl rfl),fY hq3]at he;have hb:WaveV k30 b (E1 i q) (szE c):=hb;have he:WaveV k30 e (E1 ps.length q*v) (20*szE c+57):=he;refine⟨bC hin,cE rfl g13,bC hin,cE rfl g13,bC (n:=3) hq3,b,sb,rb,bC htn,cE rfl g15,bC (n:=3) hq3,e,se,re,?_⟩;refine sJ (K:=20*szE c+57) ((hf.up (u28.trans u30)).mono oq) he oq oq fun k32 d4 u32 h4=>⟨d4,h4.seg,rfl,?_⟩;refine aLl (K:=4*(20*szE c+57)+9) ((hb.up u32).mono oq) h4 oq oq fun k34 d5 u34 h5=>⟨d5,h5.seg,rfl,bC (n:=3) hq3,pH (n:=3) hq3,fun x20 ex20 x21 y21 ex21 ey21 x22 y22 ex22 ey22 k35 u35=>?_⟩;have eX:x22=X2:=by
     rw [ex22,ex21,ex19,ex18];refine (sC hit).trans ?_;rw [iL (X:=X2) fun _=>g13,iL fun _=>g15]
    have eY:y22=Y5.setIfInBounds i (.agg x20):=by
     rw [ey22,ey21,ey19,ey18];refine (sC hit).trans (iL fun _=>?_);rw [get_set hit];exact g16
    refine⟨r8-1,oq,q+1,y22,oq,by rw [wup oq,eX],?_⟩;rw [eY,ex20,qo];have uu:=u32.trans (u34.trans u35);refine hF5.put (Q:=Ent k35) (j:=i) hin (fun _ _ h=>Ent.up h uu) g13 ?_ fun r _ hr j _=>oU (.inl hr);refine (ga5.mono fun _ _ h=>Ent.up h uu).set hq3 h5.seg.1 ?_ fun j _ hj=>(oU (.inr hj)).symm;rw [lU hit (.inr ⟨rfl,zp q⟩),bX (.inl hit),bX (.inl hit),fY hq3];exact (h5.up u35).mono (by show _≤szE (c+1);omega)
   ·have e:q=3:=by have:=ov hge8;omega
    subst e;exact⟨r6-1,oq,i+1,Y5,oq,by rw [wup oq],(hF5.mono fun _ _ h=>Ent.up h u36).congr fun r _ j hj=>(aBt hj).symm⟩
  have e:i=n:=by have:=ov hge6;omega
  subst e;refine⟨rfl,oq,⟨oq,oq⟩,?_⟩;rintro A53 l53 c53 _ el rfl _ k37 u37;have el:l53=(ps++[c]).length:=by rw [od,kf];exact el
  subst el
  have st:=hE.step (M':=fun r j=>if r=ps.length then E1 r j*v else E1 r j-E1 r c*(E1 ps.length j*v)) hlt htp hpn (u:=v) (by
   have:=W4.one_div hfz;rw [←hv,hE1,og rfl]at this
   exact this) (fun j _=>by rw [og rfl,hE1,og rfl]) fun r _ hr j _=>by
   rw [oh hr,og rfl,hE1 r,hE1 r,oh hr,oh hr]
  have u2037:=u20.trans (u21.trans (u25.trans u37));refine⟨r-1,oq,c+1,A2,c2,X2,Y4,A53,c53,_,d2,_,_,ps++[c],oq,by rw [wup oq],fun w hw=>?_,(hd2.up (u21.trans (u25.trans u37))).mono oq,(hF4.mono fun _ _ h=>Ent.up h u37).wk (G:=fun r j=>(if r=ps.length then E1 r j*v else E1 r j-E1 r c*(E1 ps.length j*v),szE (c+1))) fun r hr j hj=>?_,st.1,fun x=>(st.2 x).trans (hK x)⟩
  ·rw [zd]at hw;rcases qd.1 hw with hw|hw
   ·exact hcs w hw
   ·have hw:w=Value.int .i64 (c:Int):=by simpa using hw
    rw [hw];exact⟨rfl,rfl⟩
  ·by_cases h:r=ps.length
   ·subst h;rw [eQ (.inl rfl),fY hj];exact⟨(og rfl).symm,by show 20*szE c+57≤szE (c+1);omega⟩
   ·rw [lU h (.inl hr),bX (.inl h),bX (.inl h),fY hj];exact⟨(oh h).symm,oy _⟩
end
def MtV (a:Array Value) (m:Int×Int):Prop:=a=#[.int .i64 m.1,.int .i64 m.2]
theorem MtV.seg {a:Array Value}{m:Int×Int}(h:MtV a m):Seg 2 a:=by
 unfold MtV at h;subst h
 exact⟨rfl,fun u hu=>by
  rcases wv.1 hu with rfl|hu
  ·exact⟨rfl,rfl⟩
  ·rcases wv.1 hu with rfl|hu
   ·exact⟨rfl,rfl⟩
   ·cases hu⟩
def okM (m:Int×Int):Bool:=decide (0≤m.1∧m.1<24∧0≤m.2∧m.2<24)
def jK (f:Nat→Int×Int):Nat→Bool
 | 0=>false
 | n+1=>jK f n || !okM (f n)
theorem pB {f:Nat→Int×Int}{j:Nat}:∀ {n:Nat},j<n→okM (f j)=false→jK f n=true
 | n+1,h,hb=>by
  unfold jK
  by_cases e:j=n
  ·rw [←e,hb];simp
  ·rw [pB (by omega:j<n) hb];rfl
def gK (f:Nat→Int×Int) (n:Nat):Int:=if n<1∨24<n then 4 else if jK f n=true then 1 else 0
def apE (f:Nat→Int×Int) (n:Nat) (z:Int):Int:=if gK f n=0 then if 0≤z∧z<13 then 0 else 1 else gK f n
theorem rR {f:Nat→Int×Int}{n:Nat}{z:Int}(h:gK f n≠0):apE f n z=gK f n:=oh h
theorem rQ {f:Nat→Int×Int}{n:Nat}{z:Int}(h:gK f n=0) (h':¬ (0≤z∧z<13)):apE f n z=1:=by unfold apE;rw [og h,oh h']
theorem wS {f:Nat→Int×Int}{n:Nat}{z:Int}(h:gK f n=0) (h':0≤z∧z<13):apE f n z=0:=by unfold apE;rw [og h,og h']
theorem aEz {f:Nat→Int×Int}{n:Nat}(h:gK f n=0):1≤n∧n≤24:=by
 unfold gK at h
 by_cases h':n<1∨24<n
 ·rw [og h']at h;cases h
 ·omega
section
variable {k k':World}{R:World→Value→Prop}{A:Option Addr}{n c0:Nat}{M:Nat→Nat→W4}{f:Nat→Int×Int}{z:Int}
theorem xN {j:Nat}(h:Els k A n 2 MtV f) (hj:j<n):(∃b o,A=some ⟨b,o,none⟩)∧∀k',Up k k'→ReadAt k'.cell? A (Int.toNat (j:Int)*2+0) 2 (.agg #[.int .i64 (f j).1,.int .i64 (f j).2]):=by
 obtain⟨a,ha,e,hA,hr⟩:=Els.el h hj oz;unfold MtV at e;subst e;exact⟨hA,fun k' u=>hr k' u 0 2 _ rfl fun q v hv=>by rw [qc];exact hv⟩
theorem bAc (hM:Els2 k A n 3 18 (Ent k) fun i j=>(M i j,1)) (h0:0<n) (hn:n≤32) (C:∀k' A' c' B p ps,Up k k'→EchR n M ps→R k' (.tuple #[.slice A' n c',.slice B ps.length p,.int .i64 0])) :
 Cl k 62 #[.slice A n c0] R:=fun k0 u0=>
 aXy (aVw (Els2.up hM u0 fun _ _ h=>h) h0 hn oz fun _ u1=>⟨_,rfl,fun h=>(nomatch h),fun _=>aHo (Els2.up hM (u0.trans u1) fun _ _ h=>Ent.up h (u0.trans u1)) h0 hn fun k2 A' c' B p d ps u2 hE hd=>
  ⟨A',n,c',B,ps.length,p,d,hd,rfl,fun k3 u3=>C k3 A' c' B p ps (u0.trans (u1.trans (u2.trans u3))) hE⟩⟩)
theorem aYq (hM:Els2 k A n 3 18 (Ent k) fun i j=>(M i j,1)) (h0:0<n) (hn:n≤32) (C:∀k' ps,Up k k'→EchR n M ps→R k' (.tuple #[.int .i64 ((ps.length:Nat):Int),.int .i64 0])) :
 Cl k 36 #[.slice A n c0] R:=fun _ u0=>
 aUq (bAc (Els2.up hM u0 fun _ _ h=>Ent.up h u0) h0 hn fun _ A' c' B p ps u1 hE=>⟨A',n,c',B,ps.length,p,_,rfl,rfl,fun k2 u2=>C k2 ps (u0.trans (u1.trans u2)) hE⟩)
theorem vN (C:∀k',Up k k'→R k' (.bool (decide (0≤z∧z<24)))):Cl k 35 #[.int .i64 z] R:=fun k0 u0=>
 aHn ⟨fun h k1 u1=>by
  have:=C k1 (u0.trans u1);have h:=ow h
  rwa [show decide (0≤z∧z<24)=decide (z<24) from decide_eq_decide.2 ⟨fun g=>g.2,fun g=>⟨h,g⟩⟩]at this,fun h k1 u1=>by
  have:=C k1 (u0.trans u1);have h:=ov h
  rwa [decide_eq_false fun g:0≤z∧z<24=>h g.1]at this⟩
theorem aNp (C:∀k',Up k k'→R k' (.bool (decide (0≤z∧z<13)))):Cl k 15 #[.int .i64 z] R:=fun k0 u0=>
 aHp ⟨fun h k1 u1=>by
  have:=C k1 (u0.trans u1);have h:=ow h
  rwa [show decide (0≤z∧z<13)=decide (z<13) from decide_eq_decide.2 ⟨fun g=>g.2,fun g=>⟨h,g⟩⟩]at this,fun h k1 u1=>by
  have:=C k1 (u0.trans u1);have h:=ov h
  rwa [decide_eq_false fun g:0≤z∧z<13=>h g.1]at this⟩
theorem not_true {b:Bool}(h:(!b)=true):b=false:=by cases b <;> simp_all
theorem iG {b:Bool}(h:(!b)=false):b=true:=by cases b <;> simp_all
theorem zN (hl:Els k A n 2 MtV f) (C:∀k',Up k k'→R k' (.int .i64 (gK f n))):Cl k 14 #[.slice A n c0] R:=by
 intro k0 u0;have c4:n<1∨24<n→∀k1,Up k0 k1→R k1 (.int .i64 4):=fun h k1 u1=>by
  have:=C k1 (u0.trans u1)
  rwa [show gK f n=4 from og h]at this
 refine wV ⟨rfl,fun h=>c4 (.inl ?_),fun h1=>⟨rfl,fun h=>c4 (.inr ?_),fun h2=>⟨rfl,?_⟩⟩⟩
 ·have:=ow h;omega
 ·have:=ow h;omega
 have h1:=ov h1;have h2:=ov h2;have c1:jK f n=true→∀k1,Up k0 k1→R k1 (.int .i64 1):=fun h k1 u1=>by
  have:=C k1 (u0.trans u1)
  rwa [show gK f n=1 by unfold gK;rw [oh oq,og h]]at this
 refine⟨fun r k' vs=>∃j:Nat,j+r=n∧vs=[.int .i64 (j:Int)]∧jK f j=false,⟨n,fun _ _=>⟨0,qc _,rfl,rfl⟩⟩,?_⟩;rintro r k2 _ u2 ⟨j,hj,rfl,hb⟩;refine⟨_,rfl,fun hlt=>?_,fun hge k10 u10=>?_⟩
 ·have hlt:j<n:=by have:=ow hlt;omega
  obtain⟨hA,hr⟩:=xN hl hlt;have bad:okM (f j)=false→∀k1,Up k2 k1→R k1 (.int .i64 1):=fun h k1 u1=>c1 (pB hlt h) k1 (u2.trans u1);refine⟨hA,⟨oq,oq⟩,_,_,hr k2 (u0.trans u2),vN fun k4 u4=>⟨_,rfl,fun h k5 u5=>bad ?_ k5 (u4.trans u5),fun h=>vN fun k7 u7=>⟨_,rfl,fun h' k8 u8=>bad ?_ k8 (u4.trans (u7.trans u8)),fun h' k9 u9=>⟨r-1,oq,j+1,oq,by rw [wup oq],?_⟩⟩⟩⟩
  ·have h:=ov (not_true h);exact decide_eq_false fun g=>h ⟨g.1,g.2.1⟩
  ·have h':=ov (not_true h');exact decide_eq_false fun g=>h' ⟨g.2.2.1,g.2.2.2⟩
  ·have h:=ow (iG h);have h':=ow (iG h');unfold jK;rw [hb,show okM (f j)=true from decide_eq_true ⟨h.1,h.2,h'.1,h'.2⟩];rfl
 ·have e:j=n:=by have:=ov hge;omega
  subst e;have:=C k10 (u0.trans (u2.trans u10))
  rwa [show gK f j=0 by unfold gK;rw [oh oq,hb];rfl]at this
theorem FamV.app {α:Type}{P:Array Value→α→Prop}{F:Nat→Nat→α}{m s c:Nat}{B:Option Addr}{X Y cs:Array Value}(h:FamV n (fun _=>m) s P F X Y) (hc:m≤c) (ha:ArrV m s P cs (F n)):FamV (n+1) (fun _=>m) s P F (X.push (.slice B m c)) (Y.push (.agg cs)):=by
 refine⟨by rw [Array.size_push,h.sx],by rw [Array.size_push,h.sy],fun j hj=>?_⟩
 by_cases e:j=n
 ·subst e;exact⟨B,c,cs,by rw [zf,og h.sx.symm],hc,by rw [zf,og h.sy.symm],ha⟩
 ·obtain⟨C,d,ds,h1,h2,h3,h4⟩:=h.row j oq;exact⟨C,d,ds,by rw [zf,oh (by rw [h.sx];exact e)];exact h1,h2,by rw [zf,oh (by rw [h.sy];exact e)];exact h3,h4⟩
theorem dsg0 (i:Nat):eZ f z i 0=iV (aIu z (f i).1):=og rfl
theorem dsg1 (i:Nat):eZ f z i 1=iV (aIu z (f i).2):=rfl
theorem dsg2 (i:Nat):eZ f z i 2=iV 0:=rfl
theorem aMc (hl:Els k A n 2 MtV f) (hn:n≤32) (C:∀k' A' c',Up k k'→Els2 k' A' n 3 18 (Ent k') (fun i j=>(eZ f z i j,1))→R k' (.slice A' n c')) :
 Cl k 37 #[.slice A n c0,.int .i64 z] R:=by
 intro k0 u0;refine aHf ?_;rintro _ _ rfl rfl
 refine⟨rfl,fun r k' vs=>∃(i:Nat) (A':Option Addr) (c':Nat) (X Y:Array Value),i+r=n∧vs=[.int .i64 (i:Int),.tuple #[.slice A' i c',.agg X],.tuple #[.agg X,.agg Y]]∧FamV i (fun _=>3) 18 (Ent k') (fun i j=>(eZ f z i j,1)) X Y,
  ⟨n,fun _ _=>⟨0,none,0,#[],#[],qc _,rfl,rfl,rfl,fun j hj=>absurd hj (wa _)⟩⟩,?_⟩
 rintro r k1 _ u1 ⟨i,A',c',X,Y,hi,rfl,hF⟩;refine⟨_,A',i,c',X,hF.rowC,X,hF.rowC,Y,hF.famC cS,rfl,fun hlt=>?_,fun hge k8 u8 hpub k9 u9 hrow k10 u10=>?_⟩
 ·have hlt:i<n:=by have:=ow hlt;omega
  obtain⟨hA,hr⟩:=xN hl hlt;refine⟨hA,⟨oq,oq⟩,_,_,hr k1 (u0.trans u1),?_⟩;refine sG fun k2 d0 u2 h0=>⟨d0,h0.seg,rfl,?_⟩;refine sG fun k4 d1 u4 h1=>⟨d1,h1.seg,rfl,?_⟩;refine sG fun k6 d2 u6 h2=>⟨d2,h2.seg,rfl,?_⟩;rintro B lB cB cs e1 e2 hB;obtain rfl:lB=3:=e1;refine⟨rfl,oq,⟨oq,oq⟩,?_⟩;rintro A6 l6 c6 cs6 e3 e4 _ x7 y7 e5 e6 k7 u7;obtain rfl:l6=i+1:=e3;have ex:cs6=x7:=by
   rw [e4,e5];apply zk;simp
  subst ex;refine⟨r-1,oq,i+1,A6,c6,cs6,y7,oq,by rw [wup oq],?_⟩;rw [e5,e6];have u17:=u2.trans (u4.trans (u6.trans u7));refine (hF.mono fun _ _ h=>Ent.up h u17).app hB ?_;have a0:ArrV 0 18 (Ent k7) #[] (fun j=>(eZ f z i j,1)):=ArrV.empty;have a1:=a0.push (a:=d0) h0.seg.1 (h0.up (u4.trans (u6.trans u7)));have a2:=a1.push (a:=d1) h1.seg.1 (h1.up (u6.trans u7));have a3:=a2.push (a:=d2) h2.seg.1 (h2.up u7);rw [e2];refine Eq.mp (congrArg (fun q=>ArrV 3 18 (Ent k7) q fun j=>(eZ f z i j,1)) ?_) a3;apply zk;simp
 ·have e:i=n:=by have:=ov hge;omega
  subst e;have hG:=hF.mono fun _ _ h=>Ent.up h (u8.trans u9);exact C k10 A' c' (u0.trans (u1.trans (u8.trans (u9.trans u10)))) (Els2.up (hG.els (k:=k9) cS (fun j A n c cs h1 h2=>aBf (hpub j A n c cs h1 h2) u9) hrow) u10 fun _ _ h=>Ent.up h u10)
theorem aNm (hl:Els k A n 2 MtV f) (h0:0<n) (hn:n≤32) (C:∀k' ps,Up k k'→EchR n (eZ f z) ps→R k' (.bool (decide (ps.length=3)))) :
 Cl k 16 #[.slice A n c0,.int .i64 z] R:=fun k0 u0=>
 aIo (aMc (hl.up u0) hn fun k1 A' c' u1 hM=>⟨A',n,c',rfl,aYq hM h0 hn fun k2 ps u2 hE=>⟨_,_,rfl,fun k3 u3=>by
  have:=C k3 ps (u0.trans (u1.trans (u2.trans u3))) hE
  rwa [show decide (ps.length=3)=(((ps.length:Nat):Int) == 3) by
   rw [vw,decide_eq_true_iff,beq_iff_eq];omega]at this⟩⟩)
theorem aAs (hl:Els k A n 2 MtV f) (C:∀k' b,Up k k'→(apE f n z≠0→b=false)→(apE f n z=0→∃ps,EchR n (eZ f z) ps∧b=decide (ps.length=3))→R k' (.tuple #[.bool b,.int .i64 (apE f n z)])) :
 Cl k 5 #[.slice A n c0,.int .i64 z] R:=by
 intro k0 u0;refine aIm (zN (hl.up u0) fun k1 u1=>⟨_,rfl,fun h k2 u2=>?_,fun h=>aNp fun k4 u4=>⟨_,rfl,fun h' k5 u5=>?_,fun h'=>?_⟩⟩)
 ·have h:gK f n≠0:=fun e=>by rw [e]at h;cases h
  have:=C k2 false (u0.trans (u1.trans u2)) (fun _=>rfl) fun e=>absurd ((rR h).symm.trans e) h
  rwa [rR h]at this
 ·have h:gK f n=0:=(bne_eq_false_iff_eq).1 h;have h':=ov (not_true h');have:=C k5 false (u0.trans (u1.trans (u4.trans u5))) (fun _=>rfl) fun e=>by rw [rQ h h']at e;cases e
  rwa [rQ h h']at this
 ·have h:gK f n=0:=(bne_eq_false_iff_eq).1 h;have h':=ow (iG h');obtain⟨h1,h2⟩:=aEz h;refine aNm ((hl.up u0).up (u1.trans u4)) oq oq fun k7 ps u7 hE=>⟨_,rfl,fun k8 u8=>?_⟩;have:=C k8 (decide (ps.length=3)) (u0.trans (u1.trans (u4.trans (u7.trans u8)))) (fun e=>absurd (wS h h') e) fun _=>⟨ps,hE,rfl⟩
  rwa [wS h h']at this
end
open Go.RowKit Num Plain W32
def grm (M:Nat→Nat→W4) (j i k:Nat):W4:=Ek.sm j fun a=>(M a i).conj*M a k
section
variable {k k':World}{R:World→Value→Prop}{A:Option Addr}{n c0 K:Nat}{f:Nat→Int×Int}{z:Int}{m:Int×Int}{M N:Nat→Nat→W4}
theorem fL (i l:Nat):grm M 0 i l=W4.zero:=W4.zero_eq
theorem kO {cs:Array Value}{v w:W4}(h:WQ k cs v K) (e:v=w):WQ k cs w K:=e▸h
theorem aPy (C:∀k',Up k k'→R k' (.bool (okM m))):Cl k 38 #[.agg #[.int .i64 m.1,.int .i64 m.2]] R:=by
 intro k0 u0;have no:¬ (0≤m.1∧m.1<24∧0≤m.2∧m.2<24)→∀k1,Up k0 k1→R k1 (.bool false):=fun h k1 u1=>by
  have:=C k1 (u0.trans u1)
  rwa [show okM m=false from decide_eq_false h]at this
 refine aHq ⟨fun h1=>⟨fun h2=>⟨fun h3 k1 u1=>?_,fun h=>no fun g=>?_⟩,fun h=>no fun g=>?_⟩,fun h=>no fun g=>?_⟩
 ·have h1:=ow h1;have h2:=ow h2;have h3:=ow h3;have:=C k1 (u0.trans u1)
  rwa [show okM m=decide (m.2<24) from decide_eq_decide.2 ⟨fun g=>g.2.2.2,fun g=>⟨h1,h2,h3,g⟩⟩]at this
 ·exact ov h g.2.2.1
 ·exact ov h g.2.1
 ·exact ov h g.1
theorem aUw (hl:Els k A n 2 MtV f) (C:∀k',Up k k'→R k' (.int .i64 (gK f n))):Cl k 17 #[.slice A n c0] R:=by
 intro k0 u0;have c4:n<1∨24<n→∀k1,Up k0 k1→R k1 (.int .i64 4):=fun h k1 u1=>by
  have:=C k1 (u0.trans u1)
  rwa [show gK f n=4 from og h]at this
 refine aPx ⟨rfl,fun h=>c4 (.inl ?_),fun h1=>⟨rfl,fun h=>c4 (.inr ?_),fun h2=>?_⟩⟩
 ·have:=eq_of_beq h;omega
 ·have:=ow h;omega
 have h1:=ne_of_beq_false h1;have h2:=ov h2;refine⟨fun r k' vs=>∃j:Nat,j+r=n∧vs=[.int .i64 (j:Int)]∧jK f j=false,⟨n,fun _ _=>⟨0,qc _,rfl,rfl⟩⟩,?_⟩;rintro r k2 _ u2 ⟨j,hj,rfl,hb⟩;refine⟨_,rfl,rfl,fun hlt=>?_,fun hge k10 u10=>?_⟩
 ·have hlt:j<n:=by have:=ow hlt;omega
  obtain⟨hA,hr⟩:=xN hl hlt;refine⟨hA,⟨oq,oq⟩,_,_,hr k2 (u0.trans u2),aPy fun k4 u4=>⟨_,rfl,fun h k5 u5=>?_,fun h k6 u6=>⟨r-1,oq,j+1,oq,by rw [wup oq],?_⟩⟩⟩
  ·have:=C k5 (u0.trans (u2.trans (u4.trans u5)))
   rwa [show gK f n=1 by unfold gK;rw [oh oq,og (pB hlt (not_true h))]]at this
  ·unfold jK;rw [hb,iG h];rfl
 ·have e:j=n:=by have:=ov hge;omega
  subst e;have:=C k10 (u0.trans (u2.trans u10))
  rwa [show gK f j=0 by unfold gK;rw [oh oq,hb];rfl]at this
theorem aYv {i:Nat}(C:∀k' d0 d1 d2,Up k k'→WQ k' d0 (eZ f z i 0) 2→WQ k' d1 (eZ f z i 1) 2→WQ k' d2 (eZ f z i 2) 2→R k' (.agg (d0.toList++(d1.toList++(d2.toList++([])))).toArray)) :
 Cl k 40 #[.agg #[.int .i64 (f i).1,.int .i64 (f i).2],.int .i64 z] R:=by
 intro k0 u0;refine aUx (aGc fun k1 d0 u1 h0=>⟨d0,h0.seg,rfl,aGc fun k3 d1 u3 h1=>⟨d1,h1.seg,rfl,dI (z:=1) oz oz fun k5 q u5 hq=>⟨q,hq.seg,rfl,aGr hq oz fun k7 d2 u7 h2=>⟨d2,h2.seg,rfl,fun k8 u8=>?_⟩⟩⟩⟩);exact C k8 d0 d1 d2 (u0.trans (u1.trans (u3.trans (u5.trans (u7.trans u8))))) (h0.up (u3.trans (u5.trans (u7.trans u8)))) (h1.up (u5.trans (u7.trans u8))) (kO (h2.up u8) (by rw [dsg2];decide +kernel))
theorem aYr {a0 a1 a2 a3 a4 a5 a6 a7 a8:Array Value}(h0:WQ k a0 (N 0 0) K) (h1:WQ k a1 (N 0 1) K) (h2:WQ k a2 (N 0 2) K) (h3:WQ k a3 (N 1 0) K) (h4:WQ k a4 (N 1 1) K) (h5:WQ k a5 (N 1 2) K) (h6:WQ k a6 (N 2 0) K) (h7:WQ k a7 (N 2 1) K) (h8:WQ k a8 (N 2 2) K) (hK:K≤100000)
 (C:∀k' d L,Up k k'→WQ k' d (Ek.det3 N) L→R k' (.agg d)) :
 Cl k 20 #[.agg (a0.toList++(a1.toList++(a2.toList++(a3.toList++(a4.toList++(a5.toList++(a6.toList++(a7.toList++(a8.toList++([])))))))))).toArray] R:=by
 intro k0 u0;replace h0:=h0.up u0;replace h1:=h1.up u0;replace h2:=h2.up u0;replace h3:=h3.up u0;replace h4:=h4.up u0;replace h5:=h5.up u0;replace h6:=h6.up u0;replace h7:=h7.up u0;replace h8:=h8.up u0;refine aUv h0.seg h1.seg h2.seg h3.seg h4.seg h5.seg h6.seg h7.seg h8.seg (eH fun k1 s0 v1 g0=>⟨s0,g0.seg,rfl,?_⟩);refine dO (h4.up v1) (h8.up v1) oq fun k2 p1 v2 q1=>⟨p1,q1.seg,rfl,?_⟩;have w2:=v1.trans v2;refine dO (h5.up w2) (h7.up w2) oq fun k3 p2 v3 q2=>⟨p2,q2.seg,rfl,?_⟩;have w3:=w2.trans v3;refine aEq (q1.up v3) q2 oq fun k4 p3 v4 q3=>⟨p3,q3.seg,rfl,?_⟩;have w4:=w3.trans v4;refine dO (h0.up w4) q3 oq fun k5 p4 v5 q4=>⟨p4,q4.seg,rfl,?_⟩;have w5:=w4.trans v5;refine gO (g0.up (v2.trans (v3.trans (v4.trans v5)))) q4 oq fun k6 s1 v6 g1=>⟨s1,g1.seg,rfl,?_⟩;have w6:=w5.trans v6;refine dO (h5.up w6) (h6.up w6) oq fun k7 p5 v7 q5=>⟨p5,q5.seg,rfl,?_⟩;have w7:=w6.trans v7;refine dO (h3.up w7) (h8.up w7) oq fun k8 p6 v8 q6=>⟨p6,q6.seg,rfl,?_⟩;have w8:=w7.trans v8;refine aEq (q5.up v8) q6 oq fun k9 p7 v9 q7=>⟨p7,q7.seg,rfl,?_⟩;have w9:=w8.trans v9;refine dO (h1.up w9) q7 oq fun k10 p8 v10 q8=>⟨p8,q8.seg,rfl,?_⟩;have w10:=w9.trans v10;refine gO (g1.up (v7.trans (v8.trans (v9.trans v10)))) q8 oq fun k11 s2 v11 g2=>⟨s2,g2.seg,rfl,?_⟩;have w11:=w10.trans v11;refine dO (h3.up w11) (h7.up w11) oq fun k12 p9 v12 q9=>⟨p9,q9.seg,rfl,?_⟩;have w12:=w11.trans v12;refine dO (h4.up w12) (h6.up w12) oq fun k13 p10 v13 q10=>⟨p10,q10.seg,rfl,?_⟩;have w13:=w12.trans v13;refine aEq (q9.up v13) q10 oq fun k14 p11 v14 q11=>⟨p11,q11.seg,rfl,?_⟩;have w14:=w13.trans v14;refine dO (h2.up w14) q11 oq fun k15 p12 v15 q12=>⟨p12,q12.seg,rfl,?_⟩;have w15:=w14.trans v15;refine gO (g2.up (v12.trans (v13.trans (v14.trans v15)))) q12 oq fun k16 s3 v16 g3=>⟨s3,g3.seg,rfl,fun k17 v17=>?_⟩;refine C k17 s3 _ (u0.trans (w15.trans (v16.trans v17))) (kO (g3.up v17) ?_);show ((W4.zero+N 0 0*(N 1 1*N 2 2-N 1 2*N 2 1))+N 0 1*(N 1 2*N 2 0-N 1 0*N 2 2))+N 0 2*(N 1 0*N 2 1-N 1 1*N 2 0)=Ek.det3 N;rw [←W4.zero_eq,Ek.z0];rfl
end
section
variable {k:World}{R:World→Value→Prop}{A:Option Addr}{n p0:Nat}{f:Nat→Int×Int}{z:Int}
theorem aNk {j:Nat}(h:decide ((j:Int)<((0:Nat):Int))=true):False:=by have:=ow h;omega
theorem aKd (hl:Els k A n 2 MtV f) (hn:n≤32) (C:∀k' c0 c1 c2 c3 c4 c5 c6 c7 c8 b0 b1 b2,Up k k'→WQ k' c0 (grm (eZ f z) n 0 0) 4000→WQ k' c1 (grm (eZ f z) n 0 1) 4000→WQ k' c2 (grm (eZ f z) n 0 2) 4000→WQ k' c3 (grm (eZ f z) n 1 0) 4000→WQ k' c4 (grm (eZ f z) n 1 1) 4000→WQ k' c5 (grm (eZ f z) n 1 2) 4000→WQ k' c6 (grm (eZ f z) n 2 0) 4000→WQ k' c7 (grm (eZ f z) n 2 1) 4000→WQ k' c8 (grm (eZ f z) n 2 2) 4000→Seg 24 b0→Seg 24 b1→Seg 24 b2→R k' (.tuple #[.agg (c0.toList++(c1.toList++(c2.toList++(c3.toList++(c4.toList++(c5.toList++(c6.toList++(c7.toList++(c8.toList++([])))))))))).toArray,.agg (b0.toList++(b1.toList++(b2.toList++([])))).toArray])) :
 Cl k 18 #[.slice A n p0,.slice none 0 0,.int .i64 z] R:=by
 intro k0 u0;obtain⟨M,hM⟩:∃M,M=eZ f z:=⟨_,rfl⟩;refine aDy (eH fun j0 b0 v0 hb0=>⟨b0,hb0.seg,rfl,?_⟩);refine eH fun j1 c0 v1 hc0=>⟨c0,hc0.seg,rfl,?_⟩;refine eH fun j2 c1 v2 hc1=>⟨c1,hc1.seg,rfl,?_⟩;refine eH fun j3 c2 v3 hc2=>⟨c2,hc2.seg,rfl,?_⟩;refine eH fun j4 b1 v4 hb1=>⟨b1,hb1.seg,rfl,?_⟩;refine eH fun j5 c3 v5 hc3=>⟨c3,hc3.seg,rfl,?_⟩;refine eH fun j6 c4 v6 hc4=>⟨c4,hc4.seg,rfl,?_⟩;refine eH fun j7 c5 v7 hc5=>⟨c5,hc5.seg,rfl,?_⟩;refine eH fun j8 b2 v8 hb2=>⟨b2,hb2.seg,rfl,?_⟩;refine eH fun j9 c6 v9 hc6=>⟨c6,hc6.seg,rfl,?_⟩;refine eH fun j10 c7 v10 hc7=>⟨c7,hc7.seg,rfl,?_⟩;refine eH fun j11 c8 v11 hc8=>⟨c8,hc8.seg,rfl,?_⟩;have u011:=u0.trans (v0.trans (v1.trans (v2.trans (v3.trans (v4.trans (v5.trans (v6.trans (v7.trans (v8.trans (v9.trans (v10.trans (v11))))))))))))
 refine⟨fun r k' vs=>∃(j:Nat) (c0 c1 c2 c3 c4 c5 c6 c7 c8 b0 b1 b2:Array Value),j+r=n∧vs=[.int .i64 (j:Int),.agg (c0.toList++(c1.toList++(c2.toList++(c3.toList++(c4.toList++(c5.toList++(c6.toList++(c7.toList++(c8.toList++([])))))))))).toArray,.agg (b0.toList++(b1.toList++(b2.toList++([])))).toArray]∧WQ k' c0 (grm M j 0 0) (2+78*j)∧WQ k' c1 (grm M j 0 1) (2+78*j)∧WQ k' c2 (grm M j 0 2) (2+78*j)∧WQ k' c3 (grm M j 1 0) (2+78*j)∧WQ k' c4 (grm M j 1 1) (2+78*j)∧WQ k' c5 (grm M j 1 2) (2+78*j)∧WQ k' c6 (grm M j 2 0) (2+78*j)∧WQ k' c7 (grm M j 2 1) (2+78*j)∧WQ k' c8 (grm M j 2 2) (2+78*j)∧Seg 24 b0∧Seg 24 b1∧Seg 24 b2,
  ⟨n,fun k' u'=>⟨0,c0,c1,c2,c3,c4,c5,c6,c7,c8,b0,b1,b2,qc _,rfl,kO (hc0.up (v2.trans (v3.trans (v4.trans (v5.trans (v6.trans (v7.trans (v8.trans (v9.trans (v10.trans (v11.trans (u')))))))))))) (fL _ _).symm,kO (hc1.up (v3.trans (v4.trans (v5.trans (v6.trans (v7.trans (v8.trans (v9.trans (v10.trans (v11.trans (u'))))))))))) (fL _ _).symm,kO (hc2.up (v4.trans (v5.trans (v6.trans (v7.trans (v8.trans (v9.trans (v10.trans (v11.trans (u')))))))))) (fL _ _).symm,kO (hc3.up (v6.trans (v7.trans (v8.trans (v9.trans (v10.trans (v11.trans (u')))))))) (fL _ _).symm,kO (hc4.up (v7.trans (v8.trans (v9.trans (v10.trans (v11.trans (u'))))))) (fL _ _).symm,kO (hc5.up (v8.trans (v9.trans (v10.trans (v11.trans (u')))))) (fL _ _).symm,kO (hc6.up (v10.trans (v11.trans (u')))) (fL _ _).symm,kO (hc7.up (v11.trans (u'))) (fL _ _).symm,kO (hc8.up (u')) (fL _ _).symm,hb0.seg,hb1.seg,hb2.seg⟩⟩,?_⟩
 clear hb0 hc0 hc1 hc2 hb1 hc3 hc4 hc5 hb2 hc6 hc7 hc8;rintro r k24 _ u24 ⟨j,c0,c1,c2,c3,c4,c5,c6,c7,c8,b0,b1,b2,hj,rfl,q0,q1,q2,q3,q4,q5,q6,q7,q8,s0,s1,s2⟩;refine⟨_,c0,q0.seg,c1,q1.seg,c2,q2.seg,c3,q3.seg,c4,q4.seg,c5,q5.seg,c6,q6.seg,c7,q7.seg,c8,q8.seg,b0,s0,b1,s1,b2,s2,rfl,rfl,fun hlt=>?_,fun hge k91 u91=>?_⟩
 rotate_left
 ·have e:j=n:=by have:=ov hge;omega
  subst e hM;exact C k91 c0 c1 c2 c3 c4 c5 c6 c7 c8 b0 b1 b2 (u011.trans (u24.trans u91)) ((q0.up u91).mono oq) ((q1.up u91).mono oq) ((q2.up u91).mono oq) ((q3.up u91).mono oq) ((q4.up u91).mono oq) ((q5.up u91).mono oq) ((q6.up u91).mono oq) ((q7.up u91).mono oq) ((q8.up u91).mono oq) s0 s1 s2
 have hlt:j<n:=by have:=ow hlt;omega
 obtain⟨hA,hr⟩:=xN hl hlt;refine⟨hA,⟨oq,oq⟩,_,_,hr k24 (u011.trans u24),aYv (f:=f) (i:=j) fun w d0 d1 d2 uw g0 g1 g2=>⟨d0,g0.seg,d1,g1.seg,d2,g2.seg,rfl,?_⟩⟩;rw [←hM]at g0 g1 g2;replace q0:=q0.up uw;replace q1:=q1.up uw;replace q2:=q2.up uw;replace q3:=q3.up uw;replace q4:=q4.up uw;replace q5:=q5.up uw;replace q6:=q6.up uw;replace q7:=q7.up uw;replace q8:=q8.up uw
 -- row 0
 refine⟨fun k' vs=>∃e0 e1 e2:Array Value,vs=[.agg (e0.toList++(e1.toList++(e2.toList++(c3.toList++(c4.toList++(c5.toList++(c6.toList++(c7.toList++(c8.toList++([])))))))))).toArray,.agg (b0.toList++(b1.toList++(b2.toList++([])))).toArray]∧WQ k' e0 (grm M (j+1) 0 0) (2+78*(j+1))∧WQ k' e1 (grm M (j+1) 0 1) (2+78*(j+1))∧WQ k' e2 (grm M (j+1) 0 2) (2+78*(j+1)),?_,?_⟩
 ·refine yP g0 oz fun k1 x u1 hx=>⟨x,hx.seg,rfl,?_⟩;refine dO hx (g0.up (u1)) oz fun k2 y0 u2 hy0=>⟨y0,hy0.seg,rfl,?_⟩;refine gO (q0.up (u1.trans (u2))) hy0 oq fun k3 t0 u3 ht0=>⟨t0,ht0.seg,rfl,?_⟩;refine dO (hx.up (u2.trans (u3))) (g1.up (u1.trans (u2.trans (u3)))) oz fun k4 y1 u4 hy1=>⟨y1,hy1.seg,rfl,?_⟩;refine gO (q1.up (u1.trans (u2.trans (u3.trans (u4))))) hy1 oq fun k5 t1 u5 ht1=>⟨t1,ht1.seg,rfl,?_⟩;refine dO (hx.up (u2.trans (u3.trans (u4.trans (u5))))) (g2.up (u1.trans (u2.trans (u3.trans (u4.trans (u5)))))) oz fun k6 y2 u6 hy2=>⟨y2,hy2.seg,rfl,?_⟩;refine gO (q2.up (u1.trans (u2.trans (u3.trans (u4.trans (u5.trans (u6))))))) hy2 oq fun k7 t2 u7 ht2=>⟨t2,ht2.seg,rfl,?_⟩;exact⟨rfl,fun h=>(aNk h).elim,fun _ k9 u9=>⟨t0,t1,t2,rfl,(ht0.up (u4.trans (u5.trans (u6.trans (u7.trans (u9)))))).mono oq,(ht1.up (u6.trans (u7.trans (u9)))).mono oq,(ht2.up u9).mono oq⟩⟩
 rintro w0 _ uw0 ⟨e0,e1,e2,rfl,r0,r1,r2⟩;replace q3:=q3.up uw0;replace q4:=q4.up uw0;replace q5:=q5.up uw0;replace q6:=q6.up uw0;replace q7:=q7.up uw0;replace q8:=q8.up uw0;replace g0:=g0.up uw0;replace g1:=g1.up uw0;replace g2:=g2.up uw0;refine⟨e0,r0.seg,e1,r1.seg,e2,r2.seg,c3,q3.seg,c4,q4.seg,c5,q5.seg,c6,q6.seg,c7,q7.seg,c8,q8.seg,b0,s0,b1,s1,b2,s2,rfl,?_⟩
 -- row 1
 refine⟨fun k' vs=>∃e3 e4 e5:Array Value,vs=[.agg (e0.toList++(e1.toList++(e2.toList++(e3.toList++(e4.toList++(e5.toList++(c6.toList++(c7.toList++(c8.toList++([])))))))))).toArray,.agg (b0.toList++(b1.toList++(b2.toList++([])))).toArray]∧WQ k' e3 (grm M (j+1) 1 0) (2+78*(j+1))∧WQ k' e4 (grm M (j+1) 1 1) (2+78*(j+1))∧WQ k' e5 (grm M (j+1) 1 2) (2+78*(j+1)),?_,?_⟩
 ·refine yP g1 oz fun k1 x u1 hx=>⟨x,hx.seg,rfl,?_⟩;refine dO hx (g0.up (u1)) oz fun k2 y0 u2 hy0=>⟨y0,hy0.seg,rfl,?_⟩;refine gO (q3.up (u1.trans (u2))) hy0 oq fun k3 t0 u3 ht0=>⟨t0,ht0.seg,rfl,?_⟩;refine dO (hx.up (u2.trans (u3))) (g1.up (u1.trans (u2.trans (u3)))) oz fun k4 y1 u4 hy1=>⟨y1,hy1.seg,rfl,?_⟩;refine gO (q4.up (u1.trans (u2.trans (u3.trans (u4))))) hy1 oq fun k5 t1 u5 ht1=>⟨t1,ht1.seg,rfl,?_⟩;refine dO (hx.up (u2.trans (u3.trans (u4.trans (u5))))) (g2.up (u1.trans (u2.trans (u3.trans (u4.trans (u5)))))) oz fun k6 y2 u6 hy2=>⟨y2,hy2.seg,rfl,?_⟩;refine gO (q5.up (u1.trans (u2.trans (u3.trans (u4.trans (u5.trans (u6))))))) hy2 oq fun k7 t2 u7 ht2=>⟨t2,ht2.seg,rfl,?_⟩;exact⟨rfl,fun h=>(aNk h).elim,fun _ k9 u9=>⟨t0,t1,t2,rfl,(ht0.up (u4.trans (u5.trans (u6.trans (u7.trans (u9)))))).mono oq,(ht1.up (u6.trans (u7.trans (u9)))).mono oq,(ht2.up u9).mono oq⟩⟩
 rintro w1 _ uw1 ⟨e3,e4,e5,rfl,r3,r4,r5⟩;replace r0:=r0.up uw1;replace r1:=r1.up uw1;replace r2:=r2.up uw1;replace q6:=q6.up uw1;replace q7:=q7.up uw1;replace q8:=q8.up uw1;replace g0:=g0.up uw1;replace g1:=g1.up uw1;replace g2:=g2.up uw1;refine⟨e0,r0.seg,e1,r1.seg,e2,r2.seg,e3,r3.seg,e4,r4.seg,e5,r5.seg,c6,q6.seg,c7,q7.seg,c8,q8.seg,b0,s0,b1,s1,b2,s2,rfl,?_⟩
 -- row 2
 refine⟨fun k' vs=>∃e6 e7 e8:Array Value,vs=[.agg (e0.toList++(e1.toList++(e2.toList++(e3.toList++(e4.toList++(e5.toList++(e6.toList++(e7.toList++(e8.toList++([])))))))))).toArray,.agg (b0.toList++(b1.toList++(b2.toList++([])))).toArray]∧WQ k' e6 (grm M (j+1) 2 0) (2+78*(j+1))∧WQ k' e7 (grm M (j+1) 2 1) (2+78*(j+1))∧WQ k' e8 (grm M (j+1) 2 2) (2+78*(j+1)),?_,?_⟩
 ·refine yP g2 oz fun k1 x u1 hx=>⟨x,hx.seg,rfl,?_⟩;refine dO hx (g0.up (u1)) oz fun k2 y0 u2 hy0=>⟨y0,hy0.seg,rfl,?_⟩;refine gO (q6.up (u1.trans (u2))) hy0 oq fun k3 t0 u3 ht0=>⟨t0,ht0.seg,rfl,?_⟩;refine dO (hx.up (u2.trans (u3))) (g1.up (u1.trans (u2.trans (u3)))) oz fun k4 y1 u4 hy1=>⟨y1,hy1.seg,rfl,?_⟩;refine gO (q7.up (u1.trans (u2.trans (u3.trans (u4))))) hy1 oq fun k5 t1 u5 ht1=>⟨t1,ht1.seg,rfl,?_⟩;refine dO (hx.up (u2.trans (u3.trans (u4.trans (u5))))) (g2.up (u1.trans (u2.trans (u3.trans (u4.trans (u5)))))) oz fun k6 y2 u6 hy2=>⟨y2,hy2.seg,rfl,?_⟩;refine gO (q8.up (u1.trans (u2.trans (u3.trans (u4.trans (u5.trans (u6))))))) hy2 oq fun k7 t2 u7 ht2=>⟨t2,ht2.seg,rfl,?_⟩;exact⟨rfl,fun h=>(aNk h).elim,fun _ k9 u9=>⟨t0,t1,t2,rfl,(ht0.up (u4.trans (u5.trans (u6.trans (u7.trans (u9)))))).mono oq,(ht1.up (u6.trans (u7.trans (u9)))).mono oq,(ht2.up u9).mono oq⟩⟩
 rintro w2 _ uw2 ⟨e6,e7,e8,rfl,r6,r7,r8⟩;replace r0:=r0.up uw2;replace r1:=r1.up uw2;replace r2:=r2.up uw2;replace r3:=r3.up uw2;replace r4:=r4.up uw2;replace r5:=r5.up uw2;refine⟨e0,r0.seg,e1,r1.seg,e2,r2.seg,e3,r3.seg,e4,r4.seg,e5,r5.seg,e6,r6.seg,e7,r7.seg,e8,r8.seg,b0,s0,b1,s1,b2,s2,rfl,?_⟩;exact fun k90 u90=>⟨r-1,oq,j+1,e0,e1,e2,e3,e4,e5,e6,e7,e8,b0,b1,b2,oq,by rw [wup oq],r0.up u90,r1.up u90,r2.up u90,r3.up u90,r4.up u90,r5.up u90,r6.up u90,r7.up u90,r8.up u90,s0,s1,s2⟩
theorem aOo (hl:Els k A n 2 MtV f) (C:∀k' b,Up k k'→(apE f n z≠0→b=false)→(apE f n z=0→b=!decide (Ek.det3 (grm (eZ f z) n)=W4.zero))→R k' (.tuple #[.bool b,.int .i64 (apE f n z)])) :
 Cl k 6 #[.slice A n p0,.int .i64 z] R:=by
 intro k0 u0;refine aJk (aUw (hl.up u0) fun k1 u1=>⟨_,rfl,fun h k2 u2=>?_,fun h=>?_⟩)
 ·have h:gK f n≠0:=fun e=>by rw [e]at h;cases h
  have:=C k2 false (u0.trans (u1.trans u2)) (fun _=>rfl) fun e=>absurd ((rR h).symm.trans e) h
  rwa [rR h]at this
 have h:gK f n=0:=(bne_eq_false_iff_eq).1 h;have no:¬ (0≤z∧z<13)→∀k2,Up k1 k2→R k2 (.tuple #[.bool false,.int .i64 1]):=fun h' k2 u2=>by
  have:=C k2 false (u0.trans (u1.trans u2)) (fun _=>rfl) fun e=>by rw [rQ h h']at e;cases e
  rwa [rQ h h']at this
 refine⟨fun h1=>no fun g=>?_,fun h1=>⟨fun h2=>no fun g=>?_,fun h2=>?_⟩⟩
 ·have:=ow h1;omega
 ·have:=ow h2;omega
 have h':0≤z∧z<13:=by
  have h1:=ov h1;have h2:=ov h2;omega
 obtain⟨_,hn⟩:=aEz h;refine aKd ((hl.up u0).up u1) oq fun k6 c0 c1 c2 c3 c4 c5 c6 c7 c8 b0 b1 b2 u6 q0 q1 q2 q3 q4 q5 q6 q7 q8 s0 s1 s2=>⟨c0,q0.seg,c1,q1.seg,c2,q2.seg,c3,q3.seg,c4,q4.seg,c5,q5.seg,c6,q6.seg,c7,q7.seg,c8,q8.seg,b0,s0,b1,s1,b2,s2,rfl,?_⟩;refine aYr (N:=grm (eZ f z) n) q0 q1 q2 q3 q4 q5 q6 q7 q8 oz fun k8 d L u8 hd=>⟨d,hd.seg,rfl,aWe hd fun k10 u10=>⟨_,rfl,fun k11 u11=>?_⟩⟩;have:=C k11 _ (u0.trans (u1.trans (u6.trans (u8.trans (u10.trans u11))))) (fun e=>absurd (wS h h') e) fun _=>rfl
 rwa [wS h h']at this
end
open IntKind (wrap)
section
variable {k:World}{R:World→Value→Prop}{A:Option Addr}{n c0:Nat}{f f':Nat→Int×Int}{z y w:Int}{ps ps':List Nat}
theorem vY (t:Int):aIu 0 t=0:=by
 unfold aIu;rw [show wrap .i64 (0-0)=0 by decide,Int.zero_mul];rfl
theorem EchR.iff (h:EchR n (eZ f z) ps):decide (ps.length=3)=!decide (Ek.det3 (grm (eZ f z) n)=W4.zero):=by
 obtain⟨E,hE,hK⟩:=h;have h:ps.length=3↔Ek.det3 (grm (eZ f z) n)≠0:=W4.rank hE hK;rw [W4.zero_eq]at h
 by_cases e:ps.length=3
 ·rw [decide_eq_true e,decide_eq_false (h.1 e)];rfl
 ·rw [decide_eq_false e,decide_eq_true (Classical.not_not.1 fun g=>e (h.2 g))];rfl
theorem EchR.zero (h:EchR n (eZ f 0) ps):ps.length≠3:=by
 obtain⟨E,hE,hK⟩:=h;exact Ek.aJm hE hK fun i _=>by rw [dsg0,dsg1,vY,vY]
theorem EchR.more (h:EchR n (eZ f z) ps) (h':EchR (n+1) (eZ f' z) ps') (hf:∀i,i<n→f' i=f i) (h3:ps.length=3):ps'.length=3:=by
 obtain⟨E,hE,hK⟩:=h;obtain⟨E',hE',hK'⟩:=h';exact Ek.aJl hE hK hE' hK' (fun i hi k _=>by unfold eZ;rw [hf i hi]) h3
theorem aGu (hl:Els k A n 2 MtV f) (_hz:In64 z) (_hy:In64 y) (_hw:In64 w) (C:∀k',Up k k'→R k' (.bool true)) :
 Cl k 3 #[.slice A n c0,.int .i64 z,.agg #[.int .i64 y,.int .i64 w]] R:=by
 intro k0 u0;have aw:Cl k0 4 #[] fun k' r=>∃b:Bool,some (Value.bool b)=some r∧∀k2,Up k' k2→R k2 (.bool b):=fun k1 u1=>
  aMt (k:=k1) (fun k2 u2=>⟨true,rfl,fun k3 u3=>C k3 (u0.trans (u1.trans (u2.trans u3)))⟩) k1 (Up.refl _)
 refine aCu ⟨rfl,fun _=>aw,fun h30=>?_⟩;have h30:n≤30:=by have:=ov h30;omega
 refine aAs (hl.up u0) fun k1 x u1 hx0 hx1=>⟨x,_,rfl,?_⟩;refine aOo (hl.up (u0.trans u1)) fun k2 x2 u2 hy0 hy1=>⟨x2,_,rfl,?_⟩;have exy:x=x2:=by
  by_cases h:apE f n z=0
  ·obtain⟨ps,hE,rfl⟩:=hx1 h;rw [hy1 h];exact hE.iff
  ·rw [hx0 h,hy0 h]
 subst exy;have v2:=u0.trans (u1.trans u2);refine⟨fun h=>(by cases x <;> cases h),fun _=>⟨fun h=>(by rw [bne_self_eq_false]at h;cases h),fun _=>⟨fun h0=>⟨fun hx=>?_,fun hx=>?_⟩,fun h0=>?_⟩⟩⟩
 ·have h0:z=0:=eq_of_beq h0;subst h0
  by_cases h:apE f n 0=0
  ·obtain⟨ps,hE,rfl⟩:=hx1 h;exact absurd (ow hx) hE.zero
  ·rw [hx0 h]at hx;cases hx
 all_goals
  rintro A8 l8 c8 _ rfl rfl _;obtain⟨cs,hc,hs,ha⟩:=(hl.up v2).spread;refine⟨cs,hc,hs,by rw [ja,hs.1,oo],oq,⟨oq,oq⟩,?_⟩;rintro A11 l11 c11 _ e11 rfl _;refine⟨rfl,oq,⟨oq,oq⟩,?_⟩;rintro A13 l13 c13 _ e13 rfl _ k10 u10 hrow k11 u11;obtain rfl:l13=n+1:=oq
  have hf:∀i,i<n→(fun i=>if i<n then f i else (y,w)) i=f i:=fun i hi=>og hi;have hl':Els k10 A13 (n+1) 2 MtV fun i=>if i<n then f i else (y,w):=by
   have h1:=(ha.congr fun i hi=>(hf i hi).symm).push (a:=#[.int .i64 y,.int .i64 w]) rfl (by rw [oh (Nat.lt_irrefl n)];exact rfl);refine h1.els (fun _ _ h=>h.seg) ?_;have e:(([]:List Value).toArray++cs.toList.toArray)++([Value.int .i64 y,Value.int .i64 w]:List Value).toArray=cs++(#[Value.int .i64 y,Value.int .i64 w]:Array Value).toList.toArray:=by simp
   rw [←e];exact hrow
  refine aAs (hl'.up u11) (fun k12 x' u12 hx'0 hx'1=>⟨x',_,rfl,fun _ k13 u13=>aw k13 ?_,fun hx=>⟨fun _ k13 u13=>aw k13 ?_,fun he=>⟨fun _ k13 u13=>aw k13 ?_,fun hx'=>?_⟩⟩⟩) k11 (Up.refl _)
  ·exact u1.trans (u2.trans (u10.trans (u11.trans (u12.trans u13))))
  ·exact u1.trans (u2.trans (u10.trans (u11.trans (u12.trans u13))))
  ·exact u1.trans (u2.trans (u10.trans (u11.trans (u12.trans u13))))
  ·have hx:=iG hx;have he:=(bne_eq_false_iff_eq).1 he;obtain⟨ps',hE',e'⟩:=hx'1 he
   by_cases h:apE f n z=0
   ·obtain⟨ps,hE,e⟩:=hx1 h;rw [hx]at e;have:=hE.more hE' hf (ow e.symm);rw [hx',decide_eq_true this]at e';cases e'
   ·rw [hx0 h]at hx;cases hx
end
