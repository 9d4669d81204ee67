/- Surds: texts. (Printed by gen/surd6.py.) -/
import Derived.Test.YthiaclljcnincaaGreatApS5
import Derived.Test.YthiaclljcnincaaGreatApG2
import Derived.Test.YthiaclljcnincaaGreatApVX
namespace Go.Proofs.YthiaclljcnincaaGreat
open Go.RowKit Num Plain
open Sy (Up Sees CallsG Seg)
def str (l:List UInt8):ByteArray:=⟨l.toArray⟩
theorem aI (a b:List UInt8):str a++str b=str (a++b):=by
 apply ByteArray.ext;simp [str,ByteArray.data_append]
theorem aF (l:List UInt8):(str l).size=l.length:=by simp [str,ByteArray.size]
theorem oT {a b:List UInt8}(h:str a=str b):a=b:=by
 have:=congrArg (fun s:ByteArray=>s.data.toList) h;simpa [str] using this
theorem rG (bs:ByteArray):∀(n i:Nat) (r:List UInt8),bs.size-i=n→ByteArray.toList.loop bs i r=r.reverse++bs.data.toList.drop i
 | 0,i,r,h=>by
  unfold ByteArray.toList.loop;have hs:bs.size=bs.data.size:=rfl;rw [oh oq,List.drop_eq_nil_of_le (by simp;omega)];simp
 | n+1,i,r,h=>by
  unfold ByteArray.toList.loop;have hs:bs.size=bs.data.size:=rfl;have hl:i<bs.data.toList.length:=by simp;omega
  rw [og oq,rG bs n (i+1) _ oq,ko hl];have:bs.get! i=bs.data.toList[i]:=by
   have hl':i<bs.data.size:=by simpa using hl
   rw [ByteArray.get!,getElem!_pos bs.data i hl'];simp
  rw [this];simp
theorem rF (bs:ByteArray):bs.toList=bs.data.toList:=by
 unfold ByteArray.toList;rw [rG bs _ 0 [] rfl];simp
theorem toList_inj {a b:ByteArray}:(a.toList == b.toList)=true↔a=b:=by
 rw [rF,rF,beq_iff_eq];constructor
 ·intro h;apply ByteArray.ext;exact Array.toList_inj.1 h
 ·intro h;rw [h]
theorem tM:((str []).toList == (⟨#[]⟩:ByteArray).toList)=true:=toList_inj.2 rfl
def aO (s:List UInt8) (q:Rat) (m:List UInt8):List UInt8:=
 if q=0 then s else (if s≠[]∧0<q.num.sign then s++[43] else s)++(aH q++m)
def body (v:Q4):Nat→List UInt8
 | 0=>[]
 | 1=>aO [] v.a []
 | 2=>aO (aO [] v.a []) v.b [114,50]
 | 3=>aO (aO (aO [] v.a []) v.b [114,50]) v.c [114,51]
 | _=>aO (aO (aO (aO [] v.a []) v.b [114,50]) v.c [114,51]) v.d [114,54]
def dZ (v:Q4):List UInt8:=if body v 4=[] then [48] else body v 4
theorem dF {k:World}{cs:Array Value}{q:Rat}{K:Nat}(h:RatV k cs q K):(aH q).length≤128*K+4:=by
 obtain⟨g,A,n,c,D,d,e,rfl,h,hn,hd⟩:=h;have h1:=lK q.num.natAbs;have h2:=lK q.den;have e1:n=nw q.num.natAbs:=h.num.lim.len;have e2:=h.den.len;unfold aH;rw [od,od];have h3:(if q.num<0 then [45] else ([]:List UInt8)).length≤1:=by split <;> simp
 by_cases h4:q.den=1
 ·rw [og h4];simp only [qu];omega
 ·rw [oh h4]at e2 ⊢;simp only [qk];omega
theorem iO (s:List UInt8) (q:Rat) (m:List UInt8):(aO s q m).length≤s.length+1+(aH q).length+m.length:=by
 unfold aO;split
 ·omega
 ·split
  ·simp only [od,qk,qu];omega
  ·simp only [od];omega
section
variable {k:World}{R:World→Value→Prop}{K L:Nat}{cs cs':Array Value}{v v':Q4}
theorem eT (C:∀k',Up k k'→R k' (Value.agg #[Value.string (str []),Value.string (str [114,50]),Value.string (str [114,51]),Value.string (str [114,54])])) :
 Cl k 34 #[] R:=fun _k0 u0=>aId fun k1 u1=>C k1 (u0.trans u1)
theorem fits {a b:Nat}(h:a+b≤9223372036854775807):(decide (((a+b:Nat):Int)≤9223372036854775807))=true:=by
 rw [decide_eq_true_iff];omega
theorem aLo (h0:RatV k cs v.a K) {c1 c2 c3:Array Value}(h1:RatV k c1 v.b K) (h2:RatV k c2 v.c K) (h3:RatV k c3 v.d K) (j:Nat):(body v j).length≤512*K+26:=by
 have e0:=dF h0;have e1:=dF h1;have e2:=dF h2;have e3:=dF h3;have f1:=iO [] v.a [];have f2:=iO (aO [] v.a []) v.b [114,50];have f3:=iO (aO (aO [] v.a []) v.b [114,50]) v.c [114,51];have f4:=iO (aO (aO (aO [] v.a []) v.b [114,50]) v.c [114,51]) v.d [114,54];simp only [qk,qu]at f1 f2 f3 f4
 match j with
 | 0=>simp [body]
 | 1=>simp only [body];omega
 | 2=>simp only [body];omega
 | 3=>simp only [body];omega
 | n+4=>simp only [body];omega
theorem rO (hx:SurdV k cs v K) (hK1:1≤K) (hK:K≤268435456) (C:∀k',Up k k'→R k' (.string (str (dZ v)))) :
 Cl k 12 #[.agg cs] R:=by
 intro k0 u0;replace hx:=hx.up u0;replace C:=fun k' u=>C k' (u0.trans u);refine aLh hx.seg ?_;refine aSc hx hK1 hK ?_;intro k1 d0 d1 d2 d3 u1 q0 q1 q2 q3;refine⟨d0,q0.seg,d1,q1.seg,d2,q2.seg,d3,q3.seg,rfl,?_⟩;replace C:=fun k' u=>C k' (u1.trans u);have hlen:=aLo q0 q1 q2 q3;have t0:=dF q0;have t1:=dF q1;have t2:=dF q2;have t3:=dF q3;refine⟨fun m k' vs=>∃j,j≤4∧m=4-j∧vs=[.string (str (body v j)),.int .i64 (j:Nat)],⟨4,fun k' _=>⟨0,oq,rfl,rfl⟩⟩,?_⟩;rintro m k2 vs u2 ⟨j,hj,rfl,rfl⟩;refine⟨str (body v j),(j:Nat),rfl,?_⟩;replace q0:=q0.up u2;replace q1:=q1.up u2;replace q2:=q2.up u2;replace q3:=q3.up u2;replace C:=fun k' u=>C k' (u2.trans u);clear u0 u1 u2;refine⟨fun hj0=>?_,fun hj0=>?_⟩
 ·have e:j=0:=by have:=eq_of_beq hj0;omega
  subst e;clear C hx;refine rN q0 oq ?_;intro k3 u3;refine⟨_,rfl,fun hz=>?_,fun hz=>?_⟩
  ·intro k4 u4;refine⟨3-0,oq,0+1,oq,oq,?_⟩;have hz:v.a=0:=ow hz;have e:body v (0+1)=body v 0:=by simp only [body];conv=>lhs;rw [aO,og hz]
   rw [e];rfl
  ·have hz:¬ v.a=0:=ov hz;refine⟨fun hs=>?_,fun hs=>?_⟩
   ·have hs:body v 0≠[]:=by
     intro h;rw [h,tM]at hs;cases hs
    refine rM (q0.up u3) oq ?_;intro k4 u4;refine⟨_,rfl,fun hp=>?_,fun hp=>?_⟩
    ·have hp:0<(v.a).num.sign:=by simpa using hp
     refine⟨fits (by rw [aF];have:=hlen 0;show _+1≤_;omega),?_⟩;refine eR ((q0.up u3).up u4) oq ?_;intro k5 u5;refine⟨_,rfl,?_⟩;refine eT ?_;intro k6 u6;have e:body v (0+1)=(body v 0++[43])++(aH v.a++[]):=by
      simp only [body];conv=>lhs;rw [aO,oh hz,og ⟨hs,hp⟩]
     have hl:=hlen (0+1);rw [e]at hl;simp only [od,qk,qu]at hl;refine⟨_,_,_,_,rfl,?_,?_,?_⟩
     ·refine fits ?_;show (str _).size+(str _).size≤_;rw [aF,aF];simp only [qu];omega
     ·refine fits ?_;show (str (body v 0)++str [43]).size+(str (aH v.a)++str []).size≤_;rw [aI,aI,aF,aF];simp only [od,qk,qu];omega
     ·intro k7 u7;refine⟨3-0,oq,0+1,oq,oq,?_⟩;rw [e,←aI,←aI,←aI];rfl
    ·have hp:¬ 0<(v.a).num.sign:=by simpa using hp
     refine eR ((q0.up u3).up u4) oq ?_;intro k5 u5;refine⟨_,rfl,?_⟩;refine eT ?_;intro k6 u6;have e:body v (0+1)=body v 0++(aH v.a++[]):=by
      simp only [body];conv=>lhs;rw [aO,oh hz,oh (fun h=>hp h.2)]
     have hl:=hlen (0+1);rw [e]at hl;simp only [od,qu]at hl;refine⟨_,_,_,_,rfl,?_,?_,?_⟩
     ·refine fits ?_;show (str _).size+(str _).size≤_;rw [aF,aF];simp only [qu];omega
     ·refine fits ?_;show (str (body v 0)).size+(str (aH v.a)++str []).size≤_;rw [aI,aF,aF];simp only [od,qu];omega
     ·intro k7 u7;refine⟨3-0,oq,0+1,oq,oq,?_⟩;rw [e,←aI,←aI];rfl
   ·have hs:¬ body v 0≠[]:=by
     intro h;cases hq:((str (body v 0)).toList == (⟨#[]⟩:ByteArray).toList) with
     | false=>rw [hq]at hs;cases hs
     | true=>exact h (oT (toList_inj.1 hq))
    refine eR (q0.up u3) oq ?_;intro k5 u5;refine⟨_,rfl,?_⟩;refine eT ?_;intro k6 u6;have e:body v (0+1)=body v 0++(aH v.a++[]):=by
     simp only [body];conv=>lhs;rw [aO,oh hz,oh (fun h=>hs h.1)]
    have hl:=hlen (0+1);rw [e]at hl;simp only [od,qu]at hl;refine⟨_,_,_,_,rfl,?_,?_,?_⟩
    ·refine fits ?_;show (str _).size+(str _).size≤_;rw [aF,aF];simp only [qu];omega
    ·refine fits ?_;show (str (body v 0)).size+(str (aH v.a)++str []).size≤_;rw [aI,aF,aF];simp only [od,qu];omega
    ·intro k7 u7;refine⟨3-0,oq,0+1,oq,oq,?_⟩;rw [e,←aI,←aI];rfl
 refine⟨fun hj1=>?_,fun hj1=>?_⟩
 ·have e:j=1:=by have:=eq_of_beq hj1;omega
  subst e;clear C hx;refine rN q1 oq ?_;intro k3 u3;refine⟨_,rfl,fun hz=>?_,fun hz=>?_⟩
  ·intro k4 u4;refine⟨3-1,oq,1+1,oq,oq,?_⟩;have hz:v.b=0:=ow hz;have e:body v (1+1)=body v 1:=by simp only [body];conv=>lhs;rw [aO,og hz]
   rw [e];rfl
  ·have hz:¬ v.b=0:=ov hz;refine⟨fun hs=>?_,fun hs=>?_⟩
   ·have hs:body v 1≠[]:=by
     intro h;rw [h,tM]at hs;cases hs
    refine rM (q1.up u3) oq ?_;intro k4 u4;refine⟨_,rfl,fun hp=>?_,fun hp=>?_⟩
    ·have hp:0<(v.b).num.sign:=by simpa using hp
     refine⟨fits (by rw [aF];have:=hlen 1;show _+1≤_;omega),?_⟩;refine eR ((q1.up u3).up u4) oq ?_;intro k5 u5;refine⟨_,rfl,?_⟩;refine eT ?_;intro k6 u6;have e:body v (1+1)=(body v 1++[43])++(aH v.b++[114,50]):=by
      simp only [body];conv=>lhs;rw [aO,oh hz,og ⟨hs,hp⟩]
     have hl:=hlen (1+1);rw [e]at hl;simp only [od,qk,qu]at hl;refine⟨_,_,_,_,rfl,?_,?_,?_⟩
     ·refine fits ?_;show (str _).size+(str _).size≤_;rw [aF,aF];simp only [qk,qu];omega
     ·refine fits ?_;show (str (body v 1)++str [43]).size+(str (aH v.b)++str [114,50]).size≤_;rw [aI,aI,aF,aF];simp only [od,qk,qu];omega
     ·intro k7 u7;refine⟨3-1,oq,1+1,oq,oq,?_⟩;rw [e,←aI,←aI,←aI];rfl
    ·have hp:¬ 0<(v.b).num.sign:=by simpa using hp
     refine eR ((q1.up u3).up u4) oq ?_;intro k5 u5;refine⟨_,rfl,?_⟩;refine eT ?_;intro k6 u6;have e:body v (1+1)=body v 1++(aH v.b++[114,50]):=by
      simp only [body];conv=>lhs;rw [aO,oh hz,oh (fun h=>hp h.2)]
     have hl:=hlen (1+1);rw [e]at hl;simp only [od,qk,qu]at hl;refine⟨_,_,_,_,rfl,?_,?_,?_⟩
     ·refine fits ?_;show (str _).size+(str _).size≤_;rw [aF,aF];simp only [qk,qu];omega
     ·refine fits ?_;show (str (body v 1)).size+(str (aH v.b)++str [114,50]).size≤_;rw [aI,aF,aF];simp only [od,qk,qu];omega
     ·intro k7 u7;refine⟨3-1,oq,1+1,oq,oq,?_⟩;rw [e,←aI,←aI];rfl
   ·have hs:¬ body v 1≠[]:=by
     intro h;cases hq:((str (body v 1)).toList == (⟨#[]⟩:ByteArray).toList) with
     | false=>rw [hq]at hs;cases hs
     | true=>exact h (oT (toList_inj.1 hq))
    refine eR (q1.up u3) oq ?_;intro k5 u5;refine⟨_,rfl,?_⟩;refine eT ?_;intro k6 u6;have e:body v (1+1)=body v 1++(aH v.b++[114,50]):=by
     simp only [body];conv=>lhs;rw [aO,oh hz,oh (fun h=>hs h.1)]
    have hl:=hlen (1+1);rw [e]at hl;simp only [od,qk,qu]at hl;refine⟨_,_,_,_,rfl,?_,?_,?_⟩
    ·refine fits ?_;show (str _).size+(str _).size≤_;rw [aF,aF];simp only [qk,qu];omega
    ·refine fits ?_;show (str (body v 1)).size+(str (aH v.b)++str [114,50]).size≤_;rw [aI,aF,aF];simp only [od,qk,qu];omega
    ·intro k7 u7;refine⟨3-1,oq,1+1,oq,oq,?_⟩;rw [e,←aI,←aI];rfl
 refine⟨fun hj2=>?_,fun hj2=>?_⟩
 ·have e:j=2:=by have:=eq_of_beq hj2;omega
  subst e;clear C hx;refine rN q2 oq ?_;intro k3 u3;refine⟨_,rfl,fun hz=>?_,fun hz=>?_⟩
  ·intro k4 u4;refine⟨3-2,oq,2+1,oq,oq,?_⟩;have hz:v.c=0:=ow hz;have e:body v (2+1)=body v 2:=by simp only [body];conv=>lhs;rw [aO,og hz]
   rw [e];rfl
  ·have hz:¬ v.c=0:=ov hz;refine⟨fun hs=>?_,fun hs=>?_⟩
   ·have hs:body v 2≠[]:=by
     intro h;rw [h,tM]at hs;cases hs
    refine rM (q2.up u3) oq ?_;intro k4 u4;refine⟨_,rfl,fun hp=>?_,fun hp=>?_⟩
    ·have hp:0<(v.c).num.sign:=by simpa using hp
     refine⟨fits (by rw [aF];have:=hlen 2;show _+1≤_;omega),?_⟩;refine eR ((q2.up u3).up u4) oq ?_;intro k5 u5;refine⟨_,rfl,?_⟩;refine eT ?_;intro k6 u6;have e:body v (2+1)=(body v 2++[43])++(aH v.c++[114,51]):=by
      simp only [body];conv=>lhs;rw [aO,oh hz,og ⟨hs,hp⟩]
     have hl:=hlen (2+1);rw [e]at hl;simp only [od,qk,qu]at hl;refine⟨_,_,_,_,rfl,?_,?_,?_⟩
     ·refine fits ?_;show (str _).size+(str _).size≤_;rw [aF,aF];simp only [qk,qu];omega
     ·refine fits ?_;show (str (body v 2)++str [43]).size+(str (aH v.c)++str [114,51]).size≤_;rw [aI,aI,aF,aF];simp only [od,qk,qu];omega
     ·intro k7 u7;refine⟨3-2,oq,2+1,oq,oq,?_⟩;rw [e,←aI,←aI,←aI];rfl
    ·have hp:¬ 0<(v.c).num.sign:=by simpa using hp
     refine eR ((q2.up u3).up u4) oq ?_;intro k5 u5;refine⟨_,rfl,?_⟩;refine eT ?_;intro k6 u6;have e:body v (2+1)=body v 2++(aH v.c++[114,51]):=by
      simp only [body];conv=>lhs;rw [aO,oh hz,oh (fun h=>hp h.2)]
     have hl:=hlen (2+1);rw [e]at hl;simp only [od,qk,qu]at hl;refine⟨_,_,_,_,rfl,?_,?_,?_⟩
     ·refine fits ?_;show (str _).size+(str _).size≤_;rw [aF,aF];simp only [qk,qu];omega
     ·refine fits ?_;show (str (body v 2)).size+(str (aH v.c)++str [114,51]).size≤_;rw [aI,aF,aF];simp only [od,qk,qu];omega
     ·intro k7 u7;refine⟨3-2,oq,2+1,oq,oq,?_⟩;rw [e,←aI,←aI];rfl
   ·have hs:¬ body v 2≠[]:=by
     intro h;cases hq:((str (body v 2)).toList == (⟨#[]⟩:ByteArray).toList) with
     | false=>rw [hq]at hs;cases hs
     | true=>exact h (oT (toList_inj.1 hq))
    refine eR (q2.up u3) oq ?_;intro k5 u5;refine⟨_,rfl,?_⟩;refine eT ?_;intro k6 u6;have e:body v (2+1)=body v 2++(aH v.c++[114,51]):=by
     simp only [body];conv=>lhs;rw [aO,oh hz,oh (fun h=>hs h.1)]
    have hl:=hlen (2+1);rw [e]at hl;simp only [od,qk,qu]at hl;refine⟨_,_,_,_,rfl,?_,?_,?_⟩
    ·refine fits ?_;show (str _).size+(str _).size≤_;rw [aF,aF];simp only [qk,qu];omega
    ·refine fits ?_;show (str (body v 2)).size+(str (aH v.c)++str [114,51]).size≤_;rw [aI,aF,aF];simp only [od,qk,qu];omega
    ·intro k7 u7;refine⟨3-2,oq,2+1,oq,oq,?_⟩;rw [e,←aI,←aI];rfl
 refine⟨fun hj3=>?_,fun hj3=>?_⟩
 ·have e:j=3:=by have:=eq_of_beq hj3;omega
  subst e;clear C hx;refine rN q3 oq ?_;intro k3 u3;refine⟨_,rfl,fun hz=>?_,fun hz=>?_⟩
  ·intro k4 u4;refine⟨3-3,oq,3+1,oq,oq,?_⟩;have hz:v.d=0:=ow hz;have e:body v (3+1)=body v 3:=by simp only [body];conv=>lhs;rw [aO,og hz]
   rw [e];rfl
  ·have hz:¬ v.d=0:=ov hz;refine⟨fun hs=>?_,fun hs=>?_⟩
   ·have hs:body v 3≠[]:=by
     intro h;rw [h,tM]at hs;cases hs
    refine rM (q3.up u3) oq ?_;intro k4 u4;refine⟨_,rfl,fun hp=>?_,fun hp=>?_⟩
    ·have hp:0<(v.d).num.sign:=by simpa using hp
     refine⟨fits (by rw [aF];have:=hlen 3;show _+1≤_;omega),?_⟩;refine eR ((q3.up u3).up u4) oq ?_;intro k5 u5;refine⟨_,rfl,?_⟩;refine eT ?_;intro k6 u6;have e:body v (3+1)=(body v 3++[43])++(aH v.d++[114,54]):=by
      simp only [body];conv=>lhs;rw [aO,oh hz,og ⟨hs,hp⟩]
     have hl:=hlen (3+1);rw [e]at hl;simp only [od,qk,qu]at hl;refine⟨_,_,_,_,rfl,?_,?_,?_⟩
     ·refine fits ?_;show (str _).size+(str _).size≤_;rw [aF,aF];simp only [qk,qu];omega
     ·refine fits ?_;show (str (body v 3)++str [43]).size+(str (aH v.d)++str [114,54]).size≤_;rw [aI,aI,aF,aF];simp only [od,qk,qu];omega
     ·intro k7 u7;refine⟨3-3,oq,3+1,oq,oq,?_⟩;rw [e,←aI,←aI,←aI];rfl
    ·have hp:¬ 0<(v.d).num.sign:=by simpa using hp
     refine eR ((q3.up u3).up u4) oq ?_;intro k5 u5;refine⟨_,rfl,?_⟩;refine eT ?_;intro k6 u6;have e:body v (3+1)=body v 3++(aH v.d++[114,54]):=by
      simp only [body];conv=>lhs;rw [aO,oh hz,oh (fun h=>hp h.2)]
     have hl:=hlen (3+1);rw [e]at hl;simp only [od,qk,qu]at hl;refine⟨_,_,_,_,rfl,?_,?_,?_⟩
     ·refine fits ?_;show (str _).size+(str _).size≤_;rw [aF,aF];simp only [qk,qu];omega
     ·refine fits ?_;show (str (body v 3)).size+(str (aH v.d)++str [114,54]).size≤_;rw [aI,aF,aF];simp only [od,qk,qu];omega
     ·intro k7 u7;refine⟨3-3,oq,3+1,oq,oq,?_⟩;rw [e,←aI,←aI];rfl
   ·have hs:¬ body v 3≠[]:=by
     intro h;cases hq:((str (body v 3)).toList == (⟨#[]⟩:ByteArray).toList) with
     | false=>rw [hq]at hs;cases hs
     | true=>exact h (oT (toList_inj.1 hq))
    refine eR (q3.up u3) oq ?_;intro k5 u5;refine⟨_,rfl,?_⟩;refine eT ?_;intro k6 u6;have e:body v (3+1)=body v 3++(aH v.d++[114,54]):=by
     simp only [body];conv=>lhs;rw [aO,oh hz,oh (fun h=>hs h.1)]
    have hl:=hlen (3+1);rw [e]at hl;simp only [od,qk,qu]at hl;refine⟨_,_,_,_,rfl,?_,?_,?_⟩
    ·refine fits ?_;show (str _).size+(str _).size≤_;rw [aF,aF];simp only [qk,qu];omega
    ·refine fits ?_;show (str (body v 3)).size+(str (aH v.d)++str [114,54]).size≤_;rw [aI,aF,aF];simp only [od,qk,qu];omega
    ·intro k7 u7;refine⟨3-3,oq,3+1,oq,oq,?_⟩;rw [e,←aI,←aI];rfl
 refine⟨fun hj4=>?_,fun hj4=>?_⟩
 ·have e:j=4:=by have:=eq_of_beq hj4;omega
  subst e;refine⟨fun hs=>?_,fun hs=>?_⟩
  ·have hs:body v 4=[]:=oT (toList_inj.1 hs);intro k3 u3;have:=C k3 u3;unfold dZ at this
   rwa [og hs]at this
  ·have hs:¬ body v 4=[]:=by
    intro h;rw [h,tM]at hs;cases hs
   intro k3 u3;have:=C k3 u3;unfold dZ at this
   rwa [oh hs]at this
 ·exfalso;simp only [beq_eq_false_iff_ne,ne_eq]at hj0 hj1 hj2 hj3 hj4;omega
end
