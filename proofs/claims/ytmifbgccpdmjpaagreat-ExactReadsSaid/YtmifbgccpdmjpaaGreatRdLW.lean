/- Several texts in one. (Printed by prep.py.) -/
import Derived.Test.YtmifbgccpdmjpaaGreatRdVRS
import Derived.Test.YtmifbgccpdmjpaaGreatRdLB
namespace Go.Proofs.YtmifbgccpdmjpaaGreat.W32
open Go.RowKit Num
open Sy (Up Sees CallsG Seg)
def cat4 (c0 c1 c2 c3:Array Value):Array Value:=(c0.toList++(c1.toList++(c2.toList++(c3.toList++([]))))).toArray
def SQ (k:World) (cs:Array Value) (v:Q4) (K:Nat):Prop:=∃c0 c1 c2 c3:Array Value,cs=cat4 c0 c1 c2 c3∧QV k c0 v.a K∧QV k c1 v.b K∧QV k c2 v.c K∧QV k c3 v.d K
section
variable {k k':World}{cs cs' c0 c1 c2 c3:Array Value}{R:World→Value→Prop}{x y q q':Rat}{v v':Q4}{K L:Nat}
theorem SQ.up (h:SQ k cs v K) (u:Up k k'):SQ k' cs v K:=by
 obtain⟨c0,c1,c2,c3,e,h0,h1,h2,h3⟩:=h;exact⟨c0,c1,c2,c3,e,h0.up u,h1.up u,h2.up u,h3.up u⟩
theorem SQ.mono (h:SQ k cs v K) (hL:K≤L):SQ k cs v L:=by
 obtain⟨c0,c1,c2,c3,e,h0,h1,h2,h3⟩:=h;exact⟨c0,c1,c2,c3,e,h0.mono hL,h1.mono hL,h2.mono hL,h3.mono hL⟩
theorem aLz (h0:Seg 3 c0) (h1:Seg 3 c1) (h2:Seg 3 c2) (h3:Seg 3 c3):Seg 12 (cat4 c0 c1 c2 c3):=by
 obtain⟨a0,b0⟩:=h0;obtain⟨a1,b1⟩:=h1;obtain⟨a2,b2⟩:=h2;obtain⟨a3,b3⟩:=h3;refine⟨by simp [cat4,a0,a1,a2,a3],fun u hu=>?_⟩;simp only [cat4,List.append_nil,List.mem_append]at hu;rcases hu with hu|hu|hu|hu
 ·exact b0 u hu
 ·exact b1 u hu
 ·exact b2 u hu
 ·exact b3 u hu
theorem SQ.seg (h:SQ k cs v K):Seg 12 cs:=by
 obtain⟨c0,c1,c2,c3,rfl,h0,h1,h2,h3⟩:=h;exact aLz h0.seg h1.seg h2.seg h3.seg
theorem aSx (hx:QV k cs q K) (hK:2≤K) (C:∀k' ds,Up k k'→SQ k' ds (Q4.real q) K→R k' (.agg ds)) :
 Cl k 78 #[.agg cs] R:=by
 intro k0 u0;refine aLt hx.seg ?_;refine oU oz oz fun k1 d1 u1 h1=>⟨d1,h1.seg,rfl,?_⟩;refine oU oz oz fun k2 d2 u2 h2=>⟨d2,h2.seg,rfl,?_⟩;refine oU oz oz fun k3 d3 u3 h3=>⟨d3,h3.seg,rfl,fun k4 u4=>?_⟩;exact C k4 _ ((((u0.trans u1).trans u2).trans u3).trans u4) ⟨cs,d1,d2,d3,rfl,((((hx.up u0).up u1).up u2).up u3).up u4,(((h1.up u2).up u3).up u4).mono hK,((h2.up u3).up u4).mono hK,(h3.up u4).mono hK⟩
end
end Go.Proofs.YtmifbgccpdmjpaaGreat.W32

namespace Go.Proofs.YtmifbgccpdmjpaaGreat
open Go.RowKit
open Value (agg slice int bool tuple)
open Sy (Up Sees CallsG Seg execFn_use)
set_option maxRecDepth 100000
variable {k:World}{R:World→Value→Prop}{cs0 cs1 cs2 cs3:Array Value}
theorem aHn (hcs0:Seg 3 cs0) (hcs1:Seg 3 cs1) (hcs2:Seg 3 cs2) (hcs3:Seg 3 cs3)
 (h:∃I0:Nat→World→List Value→Prop,(∃m0,∀k0,Up k k0→I0 m0 k0 [Value.string ⟨#[]⟩,int .i64 0])∧
 ∀m0 k0 vs0,Up k k0→I0 m0 k0 vs0→∃s4,∃n5,some [Value.string s4,int .i64 n5]=some vs0∧
 Br ((n5:Int) == 0) (Cl k0 184 #[agg cs0] fun k2 r1=>Gb r1 fun b6=>
 Br b6 (∀k3,Up k2 k3→∃m,m<m0∧I0 m k3 [Value.string s4,int .i64 1]) (Br (!(ByteArray.toList s4 == ByteArray.toList ⟨#[]⟩)) (Cl k2 185 #[agg cs0] fun k5 r4=>Gi r4 fun n7=>
 Br (decide ((n7:Int) > 0)) ((decide (((ByteArray.size s4+ByteArray.size ⟨#[43]⟩:Nat):Int)≤9223372036854775807))=true∧
 (Cl k5 186 #[agg cs0] fun k7 r6=>∃s8,some (Value.string s8)=some r6∧
 (decide (((ByteArray.size (s4++⟨#[43]⟩)+ByteArray.size s8:Nat):Int)≤9223372036854775807))=true∧
 ((decide (((ByteArray.size ((s4++⟨#[43]⟩)++s8)+ByteArray.size ⟨#[]⟩:Nat):Int)≤9223372036854775807))=true∧
 (∀k8,Up k7 k8→∃m,m<m0∧I0 m k8 [Value.string (((s4++⟨#[43]⟩)++s8)++⟨#[]⟩),int .i64 1])))) (Cl k5 186 #[agg cs0] fun k10 r9=>∃s8,some (Value.string s8)=some r9∧
 (decide (((ByteArray.size s4+ByteArray.size s8:Nat):Int)≤9223372036854775807))=true∧
 ((decide (((ByteArray.size (s4++s8)+ByteArray.size ⟨#[]⟩:Nat):Int)≤9223372036854775807))=true∧
 (∀k11,Up k10 k11→∃m,m<m0∧I0 m k11 [Value.string ((s4++s8)++⟨#[]⟩),int .i64 1])))) (Cl k2 186 #[agg cs0] fun k13 r12=>∃s7,some (Value.string s7)=some r12∧
 (decide (((ByteArray.size s4+ByteArray.size s7:Nat):Int)≤9223372036854775807))=true∧
 ((decide (((ByteArray.size (s4++s7)+ByteArray.size ⟨#[]⟩:Nat):Int)≤9223372036854775807))=true∧
 (∀k14,Up k13 k14→∃m,m<m0∧I0 m k14 [Value.string ((s4++s7)++⟨#[]⟩),int .i64 1]))))) (Br ((n5:Int) == 1) (Cl k0 184 #[agg cs1] fun k16 r15=>Gb r15 fun b6=>
 Br b6 (∀k17,Up k16 k17→∃m,m<m0∧I0 m k17 [Value.string s4,int .i64 2]) (Br (!(ByteArray.toList s4 == ByteArray.toList ⟨#[]⟩)) (Cl k16 185 #[agg cs1] fun k19 r18=>Gi r18 fun n7=>
 Br (decide ((n7:Int) > 0)) ((decide (((ByteArray.size s4+ByteArray.size ⟨#[43]⟩:Nat):Int)≤9223372036854775807))=true∧
 (Cl k19 186 #[agg cs1] fun k21 r20=>∃s8,some (Value.string s8)=some r20∧
 (decide (((ByteArray.size (s4++⟨#[43]⟩)+ByteArray.size s8:Nat):Int)≤9223372036854775807))=true∧
 ((decide (((ByteArray.size ((s4++⟨#[43]⟩)++s8)+ByteArray.size ⟨#[114,50]⟩:Nat):Int)≤9223372036854775807))=true∧
 (∀k22,Up k21 k22→∃m,m<m0∧I0 m k22 [Value.string (((s4++⟨#[43]⟩)++s8)++⟨#[114,50]⟩),int .i64 2])))) (Cl k19 186 #[agg cs1] fun k24 r23=>∃s8,some (Value.string s8)=some r23∧
 (decide (((ByteArray.size s4+ByteArray.size s8:Nat):Int)≤9223372036854775807))=true∧
 ((decide (((ByteArray.size (s4++s8)+ByteArray.size ⟨#[114,50]⟩:Nat):Int)≤9223372036854775807))=true∧
 (∀k25,Up k24 k25→∃m,m<m0∧I0 m k25 [Value.string ((s4++s8)++⟨#[114,50]⟩),int .i64 2])))) (Cl k16 186 #[agg cs1] fun k27 r26=>∃s7,some (Value.string s7)=some r26∧
 (decide (((ByteArray.size s4+ByteArray.size s7:Nat):Int)≤9223372036854775807))=true∧
 ((decide (((ByteArray.size (s4++s7)+ByteArray.size ⟨#[114,50]⟩:Nat):Int)≤9223372036854775807))=true∧
 (∀k28,Up k27 k28→∃m,m<m0∧I0 m k28 [Value.string ((s4++s7)++⟨#[114,50]⟩),int .i64 2]))))) (Br ((n5:Int) == 2) (Cl k0 184 #[agg cs2] fun k30 r29=>Gb r29 fun b6=>
 Br b6 (∀k31,Up k30 k31→∃m,m<m0∧I0 m k31 [Value.string s4,int .i64 3]) (Br (!(ByteArray.toList s4 == ByteArray.toList ⟨#[]⟩)) (Cl k30 185 #[agg cs2] fun k33 r32=>Gi r32 fun n7=>
 Br (decide ((n7:Int) > 0)) ((decide (((ByteArray.size s4+ByteArray.size ⟨#[43]⟩:Nat):Int)≤9223372036854775807))=true∧
 (Cl k33 186 #[agg cs2] fun k35 r34=>∃s8,some (Value.string s8)=some r34∧
 (decide (((ByteArray.size (s4++⟨#[43]⟩)+ByteArray.size s8:Nat):Int)≤9223372036854775807))=true∧
 ((decide (((ByteArray.size ((s4++⟨#[43]⟩)++s8)+ByteArray.size ⟨#[114,51]⟩:Nat):Int)≤9223372036854775807))=true∧
 (∀k36,Up k35 k36→∃m,m<m0∧I0 m k36 [Value.string (((s4++⟨#[43]⟩)++s8)++⟨#[114,51]⟩),int .i64 3])))) (Cl k33 186 #[agg cs2] fun k38 r37=>∃s8,some (Value.string s8)=some r37∧
 (decide (((ByteArray.size s4+ByteArray.size s8:Nat):Int)≤9223372036854775807))=true∧
 ((decide (((ByteArray.size (s4++s8)+ByteArray.size ⟨#[114,51]⟩:Nat):Int)≤9223372036854775807))=true∧
 (∀k39,Up k38 k39→∃m,m<m0∧I0 m k39 [Value.string ((s4++s8)++⟨#[114,51]⟩),int .i64 3])))) (Cl k30 186 #[agg cs2] fun k41 r40=>∃s7,some (Value.string s7)=some r40∧
 (decide (((ByteArray.size s4+ByteArray.size s7:Nat):Int)≤9223372036854775807))=true∧
 ((decide (((ByteArray.size (s4++s7)+ByteArray.size ⟨#[114,51]⟩:Nat):Int)≤9223372036854775807))=true∧
 (∀k42,Up k41 k42→∃m,m<m0∧I0 m k42 [Value.string ((s4++s7)++⟨#[114,51]⟩),int .i64 3]))))) (Br ((n5:Int) == 3) (Cl k0 184 #[agg cs3] fun k44 r43=>Gb r43 fun b6=>
 Br b6 (∀k45,Up k44 k45→∃m,m<m0∧I0 m k45 [Value.string s4,int .i64 4]) (Br (!(ByteArray.toList s4 == ByteArray.toList ⟨#[]⟩)) (Cl k44 185 #[agg cs3] fun k47 r46=>Gi r46 fun n7=>
 Br (decide ((n7:Int) > 0)) ((decide (((ByteArray.size s4+ByteArray.size ⟨#[43]⟩:Nat):Int)≤9223372036854775807))=true∧
 (Cl k47 186 #[agg cs3] fun k49 r48=>∃s8,some (Value.string s8)=some r48∧
 (decide (((ByteArray.size (s4++⟨#[43]⟩)+ByteArray.size s8:Nat):Int)≤9223372036854775807))=true∧
 ((decide (((ByteArray.size ((s4++⟨#[43]⟩)++s8)+ByteArray.size ⟨#[114,54]⟩:Nat):Int)≤9223372036854775807))=true∧
 (∀k50,Up k49 k50→∃m,m<m0∧I0 m k50 [Value.string (((s4++⟨#[43]⟩)++s8)++⟨#[114,54]⟩),int .i64 4])))) (Cl k47 186 #[agg cs3] fun k52 r51=>∃s8,some (Value.string s8)=some r51∧
 (decide (((ByteArray.size s4+ByteArray.size s8:Nat):Int)≤9223372036854775807))=true∧
 ((decide (((ByteArray.size (s4++s8)+ByteArray.size ⟨#[114,54]⟩:Nat):Int)≤9223372036854775807))=true∧
 (∀k53,Up k52 k53→∃m,m<m0∧I0 m k53 [Value.string ((s4++s8)++⟨#[114,54]⟩),int .i64 4])))) (Cl k44 186 #[agg cs3] fun k55 r54=>∃s7,some (Value.string s7)=some r54∧
 (decide (((ByteArray.size s4+ByteArray.size s7:Nat):Int)≤9223372036854775807))=true∧
 ((decide (((ByteArray.size (s4++s7)+ByteArray.size ⟨#[114,54]⟩:Nat):Int)≤9223372036854775807))=true∧
 (∀k56,Up k55 k56→∃m,m<m0∧I0 m k56 [Value.string ((s4++s7)++⟨#[114,54]⟩),int .i64 4]))))) (Br ((n5:Int) == 4) (Br (ByteArray.toList s4 == ByteArray.toList ⟨#[]⟩) (Rt R k0 (Value.string ⟨#[48]⟩)) (Rt R k0 (Value.string s4))) (False /- split -/)))))) :
   CallsG Tryz.prog 76 #[Rg cs0 cs1 cs2 cs3] k R:=
  qX { opq:=[49],loops:=[(0,[.tmp 3 false [.str],.tmp 5 false [.int .i64]])],splits:=[(0,5,[0,1,2,3,4])] } [.agg [.seg 0 3,.seg 1 3,.seg 2 3,.seg 3 3]] [agg cs0,agg cs1,agg cs2,agg cs3] [.seg 3,.seg 3,.seg 3,.seg 3] ⟨⟨cs0,rfl,hcs0⟩,⟨cs1,rfl,hcs1⟩,⟨cs2,rfl,hcs2⟩,⟨cs3,rfl,hcs3⟩,trivial⟩ h
end Go.Proofs.YtmifbgccpdmjpaaGreat

namespace Go.Proofs.YtmifbgccpdmjpaaGreat.W32
open Go.RowKit Num
open Sy (Up Sees CallsG Seg)
section
variable {k k':World}{cs cs' c0 c1 c2 c3:Array Value}{R:World→Value→Prop}{x y q q':Rat}{v v':Q4}{K L:Nat}
theorem lS (h:QV k cs q K):(aC q).length≤20*K+4:=by
 obtain⟨b,A,l,c,A',l',c',rfl,h,e1,e2⟩:=h;have h1:=lI h.n;have h2:=lI h.d;unfold aC;rw [oh,oh];have h3:(if q.num<0 then [45] else ([]:List UInt8)).length≤1:=by split <;> simp
 by_cases h4:q.den=1
 ·rw [om h4];simp only [ob];omega
 ·rw [og h4];simp only [od];omega
theorem aHg (h0:QV k c0 v.a K) (h1:QV k c1 v.b K) (h2:QV k c2 v.c K) (h3:QV k c3 v.d K) (j:Nat):(body v j).length≤80*K+26:=by
 have e0:=lS h0;have e1:=lS h1;have e2:=lS h2;have e3:=lS h3;have f1:=bO [] v.a [];have f2:=bO (aF [] v.a []) v.b [114,50];have f3:=bO (aF (aF [] v.a []) v.b [114,50]) v.c [114,51];have f4:=bO (aF (aF (aF [] v.a []) v.b [114,50]) v.c [114,51]) v.d [114,54];simp only [od,ob]at f1 f2 f3 f4
 match j with
 | 0=>simp [body]
 | 1=>simp only [body];omega
 | 2=>simp only [body];omega
 | 3=>simp only [body];omega
 | n+4=>simp only [body];omega
theorem aFb (hx:SQ k cs v K) (hK:K≤10000000000) (C:∀k',Up k k'→R k' (.string (str (aL v)))) :
 Cl k 76 #[.agg cs] R:=by
 intro k0 u0;obtain⟨c0,c1,c2,c3,rfl,q0,q1,q2,q3⟩:=hx.up u0;replace C:=fun k' u=>C k' (u0.trans u);refine aHn q0.seg q1.seg q2.seg q3.seg ?_;have hlen:=aHg q0 q1 q2 q3;refine⟨fun m k' vs=>∃j,j≤4∧m=4-j∧vs=[.string (str (body v j)),.int .i64 (j:Nat)],⟨4,fun k' _=>⟨0,oq,rfl,rfl⟩⟩,?_⟩;rintro m k2 vs u2 ⟨j,hj,rfl,rfl⟩;refine⟨str (body v j),(j:Nat),rfl,?_⟩;replace q0:=q0.up u2;replace q1:=q1.up u2;replace q2:=q2.up u2;replace q3:=q3.up u2;replace C:=fun k' u=>C k' (u2.trans u);clear u0 u2;refine⟨fun hj0=>?_,fun hj0=>?_⟩
 ·have e:j=0:=by have:=eq_of_beq hj0;omega
  subst e;clear C hx;refine xX q0 ?_;intro k3 u3;refine⟨_,rfl,fun hz=>?_,fun hz=>?_⟩
  ·intro k4 u4;refine⟨3-0,oq,0+1,oq,oq,?_⟩;have hz:v.a=0:=ow hz;have e:body v (0+1)=body v 0:=by simp only [body];conv=>lhs;rw [aF,om hz]
   rw [e];rfl
  ·have hz:¬ v.a=0:=ov hz;refine⟨fun hs=>?_,fun hs=>?_⟩
   ·have hs:body v 0≠[]:=by
     intro h;rw [h,gC]at hs;cases hs
    refine xP (q0.up u3) ?_;intro k4 u4;refine⟨_,rfl,fun hp=>?_,fun hp=>?_⟩
    ·have hp:0<(v.a).num.sign:=by simpa using hp
     refine⟨fits (by rw [aA];have:=hlen 0;show _+1≤_;omega),?_⟩;refine gF ((q0.up u3).up u4) oq ?_;intro k5 u5;have e:body v (0+1)=(body v 0++[43])++(aC v.a++[]):=by
      simp only [body];conv=>lhs;rw [aF,og hz,om ⟨hs,hp⟩]
     have hl:=hlen (0+1);rw [e]at hl;simp only [oh,od,ob]at hl;refine⟨_,rfl,?_,?_,?_⟩
     ·refine fits ?_;show (str (body v 0)++str [43]).size+(str (aC v.a)).size≤_;rw [aE,aA,aA];(try simp only [oh,od,ob]);omega
     ·refine fits ?_;show ((str (body v 0)++str [43])++str (aC v.a)).size+(str []).size≤_;rw [aE,aE,aA,aA];(try simp only [oh,od,ob]);omega
     ·intro k7 u7;refine⟨3-0,oq,0+1,oq,oq,?_⟩;rw [e,←jk,←aE,←aE,←aE];rfl
    ·have hp:¬ 0<(v.a).num.sign:=by simpa using hp
     refine gF ((q0.up u3).up u4) oq ?_;intro k5 u5;have e:body v (0+1)=body v 0++(aC v.a++[]):=by
      simp only [body];conv=>lhs;rw [aF,og hz,og (fun h=>hp h.2)]
     have hl:=hlen (0+1);rw [e]at hl;simp only [oh,ob]at hl;refine⟨_,rfl,?_,?_,?_⟩
     ·refine fits ?_;show (str (body v 0)).size+(str (aC v.a)).size≤_;rw [aA,aA];(try simp only [oh,od,ob]);omega
     ·refine fits ?_;show (str (body v 0)++str (aC v.a)).size+(str []).size≤_;rw [aE,aA,aA];(try simp only [oh,ob]);omega
     ·intro k7 u7;refine⟨3-0,oq,0+1,oq,oq,?_⟩;rw [e,←jk,←aE,←aE];rfl
   ·have hs:¬ body v 0≠[]:=by
     intro h;cases hq:((str (body v 0)).toList == (⟨#[]⟩:ByteArray).toList) with
     | false=>rw [hq]at hs;cases hs
     | true=>exact h (fL (toList_inj.1 hq))
    refine gF (q0.up u3) oq ?_;intro k5 u5;have e:body v (0+1)=body v 0++(aC v.a++[]):=by
     simp only [body];conv=>lhs;rw [aF,og hz,og (fun h=>hs h.1)]
    have hl:=hlen (0+1);rw [e]at hl;simp only [oh,ob]at hl;refine⟨_,rfl,?_,?_,?_⟩
    ·refine fits ?_;show (str (body v 0)).size+(str (aC v.a)).size≤_;rw [aA,aA];(try simp only [oh,od,ob]);omega
    ·refine fits ?_;show (str (body v 0)++str (aC v.a)).size+(str []).size≤_;rw [aE,aA,aA];(try simp only [oh,ob]);omega
    ·intro k7 u7;refine⟨3-0,oq,0+1,oq,oq,?_⟩;rw [e,←jk,←aE,←aE];rfl
 refine⟨fun hj1=>?_,fun hj1=>?_⟩
 ·have e:j=1:=by have:=eq_of_beq hj1;omega
  subst e;clear C hx;refine xX q1 ?_;intro k3 u3;refine⟨_,rfl,fun hz=>?_,fun hz=>?_⟩
  ·intro k4 u4;refine⟨3-1,oq,1+1,oq,oq,?_⟩;have hz:v.b=0:=ow hz;have e:body v (1+1)=body v 1:=by simp only [body];conv=>lhs;rw [aF,om hz]
   rw [e];rfl
  ·have hz:¬ v.b=0:=ov hz;refine⟨fun hs=>?_,fun hs=>?_⟩
   ·have hs:body v 1≠[]:=by
     intro h;rw [h,gC]at hs;cases hs
    refine xP (q1.up u3) ?_;intro k4 u4;refine⟨_,rfl,fun hp=>?_,fun hp=>?_⟩
    ·have hp:0<(v.b).num.sign:=by simpa using hp
     refine⟨fits (by rw [aA];have:=hlen 1;show _+1≤_;omega),?_⟩;refine gF ((q1.up u3).up u4) oq ?_;intro k5 u5;have e:body v (1+1)=(body v 1++[43])++(aC v.b++[114,50]):=by
      simp only [body];conv=>lhs;rw [aF,og hz,om ⟨hs,hp⟩]
     have hl:=hlen (1+1);rw [e]at hl;simp only [oh,od,ob]at hl;refine⟨_,rfl,?_,?_,?_⟩
     ·refine fits ?_;show (str (body v 1)++str [43]).size+(str (aC v.b)).size≤_;rw [aE,aA,aA];(try simp only [oh,od,ob]);omega
     ·refine fits ?_;show ((str (body v 1)++str [43])++str (aC v.b)).size+(str [114,50]).size≤_;rw [aE,aE,aA,aA];(try simp only [oh,od,ob]);omega
     ·intro k7 u7;refine⟨3-1,oq,1+1,oq,oq,?_⟩;rw [e,←jk,←aE,←aE,←aE];rfl
    ·have hp:¬ 0<(v.b).num.sign:=by simpa using hp
     refine gF ((q1.up u3).up u4) oq ?_;intro k5 u5;have e:body v (1+1)=body v 1++(aC v.b++[114,50]):=by
      simp only [body];conv=>lhs;rw [aF,og hz,og (fun h=>hp h.2)]
     have hl:=hlen (1+1);rw [e]at hl;simp only [oh,od,ob]at hl;refine⟨_,rfl,?_,?_,?_⟩
     ·refine fits ?_;show (str (body v 1)).size+(str (aC v.b)).size≤_;rw [aA,aA];(try simp only [oh,od,ob]);omega
     ·refine fits ?_;show (str (body v 1)++str (aC v.b)).size+(str [114,50]).size≤_;rw [aE,aA,aA];(try simp only [oh,od,ob]);omega
     ·intro k7 u7;refine⟨3-1,oq,1+1,oq,oq,?_⟩;rw [e,←jk,←aE,←aE];rfl
   ·have hs:¬ body v 1≠[]:=by
     intro h;cases hq:((str (body v 1)).toList == (⟨#[]⟩:ByteArray).toList) with
     | false=>rw [hq]at hs;cases hs
     | true=>exact h (fL (toList_inj.1 hq))
    refine gF (q1.up u3) oq ?_;intro k5 u5;have e:body v (1+1)=body v 1++(aC v.b++[114,50]):=by
     simp only [body];conv=>lhs;rw [aF,og hz,og (fun h=>hs h.1)]
    have hl:=hlen (1+1);rw [e]at hl;simp only [oh,od,ob]at hl;refine⟨_,rfl,?_,?_,?_⟩
    ·refine fits ?_;show (str (body v 1)).size+(str (aC v.b)).size≤_;rw [aA,aA];(try simp only [oh,od,ob]);omega
    ·refine fits ?_;show (str (body v 1)++str (aC v.b)).size+(str [114,50]).size≤_;rw [aE,aA,aA];(try simp only [oh,od,ob]);omega
    ·intro k7 u7;refine⟨3-1,oq,1+1,oq,oq,?_⟩;rw [e,←jk,←aE,←aE];rfl
 refine⟨fun hj2=>?_,fun hj2=>?_⟩
 ·have e:j=2:=by have:=eq_of_beq hj2;omega
  subst e;clear C hx;refine xX q2 ?_;intro k3 u3;refine⟨_,rfl,fun hz=>?_,fun hz=>?_⟩
  ·intro k4 u4;refine⟨3-2,oq,2+1,oq,oq,?_⟩;have hz:v.c=0:=ow hz;have e:body v (2+1)=body v 2:=by simp only [body];conv=>lhs;rw [aF,om hz]
   rw [e];rfl
  ·have hz:¬ v.c=0:=ov hz;refine⟨fun hs=>?_,fun hs=>?_⟩
   ·have hs:body v 2≠[]:=by
     intro h;rw [h,gC]at hs;cases hs
    refine xP (q2.up u3) ?_;intro k4 u4;refine⟨_,rfl,fun hp=>?_,fun hp=>?_⟩
    ·have hp:0<(v.c).num.sign:=by simpa using hp
     refine⟨fits (by rw [aA];have:=hlen 2;show _+1≤_;omega),?_⟩;refine gF ((q2.up u3).up u4) oq ?_;intro k5 u5;have e:body v (2+1)=(body v 2++[43])++(aC v.c++[114,51]):=by
      simp only [body];conv=>lhs;rw [aF,og hz,om ⟨hs,hp⟩]
     have hl:=hlen (2+1);rw [e]at hl;simp only [oh,od,ob]at hl;refine⟨_,rfl,?_,?_,?_⟩
     ·refine fits ?_;show (str (body v 2)++str [43]).size+(str (aC v.c)).size≤_;rw [aE,aA,aA];(try simp only [oh,od,ob]);omega
     ·refine fits ?_;show ((str (body v 2)++str [43])++str (aC v.c)).size+(str [114,51]).size≤_;rw [aE,aE,aA,aA];(try simp only [oh,od,ob]);omega
     ·intro k7 u7;refine⟨3-2,oq,2+1,oq,oq,?_⟩;rw [e,←jk,←aE,←aE,←aE];rfl
    ·have hp:¬ 0<(v.c).num.sign:=by simpa using hp
     refine gF ((q2.up u3).up u4) oq ?_;intro k5 u5;have e:body v (2+1)=body v 2++(aC v.c++[114,51]):=by
      simp only [body];conv=>lhs;rw [aF,og hz,og (fun h=>hp h.2)]
     have hl:=hlen (2+1);rw [e]at hl;simp only [oh,od,ob]at hl;refine⟨_,rfl,?_,?_,?_⟩
     ·refine fits ?_;show (str (body v 2)).size+(str (aC v.c)).size≤_;rw [aA,aA];(try simp only [oh,od,ob]);omega
     ·refine fits ?_;show (str (body v 2)++str (aC v.c)).size+(str [114,51]).size≤_;rw [aE,aA,aA];(try simp only [oh,od,ob]);omega
     ·intro k7 u7;refine⟨3-2,oq,2+1,oq,oq,?_⟩;rw [e,←jk,←aE,←aE];rfl
   ·have hs:¬ body v 2≠[]:=by
     intro h;cases hq:((str (body v 2)).toList == (⟨#[]⟩:ByteArray).toList) with
     | false=>rw [hq]at hs;cases hs
     | true=>exact h (fL (toList_inj.1 hq))
    refine gF (q2.up u3) oq ?_;intro k5 u5;have e:body v (2+1)=body v 2++(aC v.c++[114,51]):=by
     simp only [body];conv=>lhs;rw [aF,og hz,og (fun h=>hs h.1)]
    have hl:=hlen (2+1);rw [e]at hl;simp only [oh,od,ob]at hl;refine⟨_,rfl,?_,?_,?_⟩
    ·refine fits ?_;show (str (body v 2)).size+(str (aC v.c)).size≤_;rw [aA,aA];(try simp only [oh,od,ob]);omega
    ·refine fits ?_;show (str (body v 2)++str (aC v.c)).size+(str [114,51]).size≤_;rw [aE,aA,aA];(try simp only [oh,od,ob]);omega
    ·intro k7 u7;refine⟨3-2,oq,2+1,oq,oq,?_⟩;rw [e,←jk,←aE,←aE];rfl
 refine⟨fun hj3=>?_,fun hj3=>?_⟩
 ·have e:j=3:=by have:=eq_of_beq hj3;omega
  subst e;clear C hx;refine xX q3 ?_;intro k3 u3;refine⟨_,rfl,fun hz=>?_,fun hz=>?_⟩
  ·intro k4 u4;refine⟨3-3,oq,3+1,oq,oq,?_⟩;have hz:v.d=0:=ow hz;have e:body v (3+1)=body v 3:=by simp only [body];conv=>lhs;rw [aF,om hz]
   rw [e];rfl
  ·have hz:¬ v.d=0:=ov hz;refine⟨fun hs=>?_,fun hs=>?_⟩
   ·have hs:body v 3≠[]:=by
     intro h;rw [h,gC]at hs;cases hs
    refine xP (q3.up u3) ?_;intro k4 u4;refine⟨_,rfl,fun hp=>?_,fun hp=>?_⟩
    ·have hp:0<(v.d).num.sign:=by simpa using hp
     refine⟨fits (by rw [aA];have:=hlen 3;show _+1≤_;omega),?_⟩;refine gF ((q3.up u3).up u4) oq ?_;intro k5 u5;have e:body v (3+1)=(body v 3++[43])++(aC v.d++[114,54]):=by
      simp only [body];conv=>lhs;rw [aF,og hz,om ⟨hs,hp⟩]
     have hl:=hlen (3+1);rw [e]at hl;simp only [oh,od,ob]at hl;refine⟨_,rfl,?_,?_,?_⟩
     ·refine fits ?_;show (str (body v 3)++str [43]).size+(str (aC v.d)).size≤_;rw [aE,aA,aA];(try simp only [oh,od,ob]);omega
     ·refine fits ?_;show ((str (body v 3)++str [43])++str (aC v.d)).size+(str [114,54]).size≤_;rw [aE,aE,aA,aA];(try simp only [oh,od,ob]);omega
     ·intro k7 u7;refine⟨3-3,oq,3+1,oq,oq,?_⟩;rw [e,←jk,←aE,←aE,←aE];rfl
    ·have hp:¬ 0<(v.d).num.sign:=by simpa using hp
     refine gF ((q3.up u3).up u4) oq ?_;intro k5 u5;have e:body v (3+1)=body v 3++(aC v.d++[114,54]):=by
      simp only [body];conv=>lhs;rw [aF,og hz,og (fun h=>hp h.2)]
     have hl:=hlen (3+1);rw [e]at hl;simp only [oh,od,ob]at hl;refine⟨_,rfl,?_,?_,?_⟩
     ·refine fits ?_;show (str (body v 3)).size+(str (aC v.d)).size≤_;rw [aA,aA];(try simp only [oh,od,ob]);omega
     ·refine fits ?_;show (str (body v 3)++str (aC v.d)).size+(str [114,54]).size≤_;rw [aE,aA,aA];(try simp only [oh,od,ob]);omega
     ·intro k7 u7;refine⟨3-3,oq,3+1,oq,oq,?_⟩;rw [e,←jk,←aE,←aE];rfl
   ·have hs:¬ body v 3≠[]:=by
     intro h;cases hq:((str (body v 3)).toList == (⟨#[]⟩:ByteArray).toList) with
     | false=>rw [hq]at hs;cases hs
     | true=>exact h (fL (toList_inj.1 hq))
    refine gF (q3.up u3) oq ?_;intro k5 u5;have e:body v (3+1)=body v 3++(aC v.d++[114,54]):=by
     simp only [body];conv=>lhs;rw [aF,og hz,og (fun h=>hs h.1)]
    have hl:=hlen (3+1);rw [e]at hl;simp only [oh,od,ob]at hl;refine⟨_,rfl,?_,?_,?_⟩
    ·refine fits ?_;show (str (body v 3)).size+(str (aC v.d)).size≤_;rw [aA,aA];(try simp only [oh,od,ob]);omega
    ·refine fits ?_;show (str (body v 3)++str (aC v.d)).size+(str [114,54]).size≤_;rw [aE,aA,aA];(try simp only [oh,od,ob]);omega
    ·intro k7 u7;refine⟨3-3,oq,3+1,oq,oq,?_⟩;rw [e,←jk,←aE,←aE];rfl
 refine⟨fun hj4=>?_,fun hj4=>?_⟩
 ·have e:j=4:=by have:=eq_of_beq hj4;omega
  subst e;refine⟨fun hs=>?_,fun hs=>?_⟩
  ·have hs:body v 4=[]:=fL (toList_inj.1 hs);intro k3 u3;have:=C k3 u3;unfold aL at this
   rwa [om hs]at this
  ·have hs:¬ body v 4=[]:=by
    intro h;rw [h,gC]at hs;cases hs
   intro k3 u3;have:=C k3 u3;unfold aL at this
   rwa [og hs]at this
 ·exfalso;simp only [beq_eq_false_iff_ne,ne_eq]at hj0 hj1 hj2 hj3 hj4;omega
end
end Go.Proofs.YtmifbgccpdmjpaaGreat.W32

namespace Go.Proofs.YtmifbgccpdmjpaaGreat
open Num Plain
structure W4 where
 (re im:Q4)
theorem W4.ext' {x y:W4}(h1:x.re=y.re) (h2:x.im=y.im):x=y:=by cases x;cases y;simp_all
instance:DecidableEq Q4:=fun x y=>decidable_of_iff (x.a=y.a∧x.b=y.b∧x.c=y.c∧x.d=y.d)
 ⟨fun ⟨h1,h2,h3,h4⟩=>Q4.ext' h1 h2 h3 h4,fun h=>by rw [h];exact⟨rfl,rfl,rfl,rfl⟩⟩
instance:DecidableEq W4:=fun x y=>decidable_of_iff (x.re=y.re∧x.im=y.im)
 ⟨fun ⟨h1,h2⟩=>W4.ext' h1 h2,fun h=>by rw [h];exact⟨rfl,rfl⟩⟩
def W4.add (x y:W4):W4:=⟨x.re.add y.re,x.im.add y.im⟩
def W4.sub (x y:W4):W4:=⟨x.re.sub y.re,x.im.sub y.im⟩
def W4.mul (x y:W4):W4:=⟨(x.re.mul y.re).sub (x.im.mul y.im),(x.re.mul y.im).add (x.im.mul y.re)⟩
def W4.neg (x:W4):W4:=⟨x.re.neg,x.im.neg⟩
def W4.conj (x:W4):W4:=⟨x.re,x.im.neg⟩
def W4.norm (x:W4):Q4:=(x.re.mul x.re).add (x.im.mul x.im)
def W4.zero:W4:=⟨Q4.zero,Q4.zero⟩
def W4.real (q:Rat):W4:=⟨Q4.real q,Q4.zero⟩
theorem Q4.sub_zero_iff {x y:Q4}:x.sub y=Q4.zero↔x=y:=by
 constructor
 ·intro h;have ha:=congrArg Q4.a h;have hb:=congrArg Q4.b h;have hc:=congrArg Q4.c h;have hd:=congrArg Q4.d h;simp only [Q4.sub,Q4.add,Q4.neg,Q4.zero]at ha hb hc hd;exact Q4.ext' (by grind) (by grind) (by grind) (by grind)
 ·intro h;subst h;simp only [Q4.sub,Q4.add,Q4.neg,Q4.zero];exact Q4.ext' (by grind) (by grind) (by grind) (by grind)
def aUb:Nat→Q4
 | 0=>⟨1,0,0,0⟩
 | 1=>⟨0,1/4,0,1/4⟩
 | 2=>⟨0,0,1/2,0⟩
 | 3=>⟨0,1/2,0,0⟩
 | 4=>⟨1/2,0,0,0⟩
 | 5=>⟨0,-1/4,0,1/4⟩
 | _=>⟨0,0,0,0⟩
def aUc (m:Nat):Q4:=if 6<m then (aUb (12-m)).neg else aUb m
def aUd (n:Nat):Q4:=if 12<n then aUc (24-n) else aUc n
def aUw (n:Nat):W4:=⟨aUd n,aUd ((n+18) % 24)⟩
def plc (k:Int):Nat:=(k % 24).toNat
def aVh (k:Nat):Nat→W4
 | 0=>W4.zero
 | j+1=>(aVh k j).add (aUw (j*k % 24))
def q4s (q:Rat):Bool:=(4*q).den == 1 && decide ((4*q).num.natAbs≤1000)
def Q4.small (v:Q4):Bool:=q4s v.a && q4s v.b && q4s v.c && q4s v.d
def W4.small (v:W4):Bool:=v.re.small && v.im.small
def Q4.t1 (y:Q4):Q4:=⟨y.a,-y.b,y.c,-y.d⟩
def Q4.t2 (y:Q4):Q4:=⟨y.a,y.b,-y.c,-y.d⟩
def Q4.cnj (y:Q4):Q4:=(y.t1.mul y.t2).mul y.t1.t2
def Q4.div (x y:Q4):Q4:=⟨(x.mul y.cnj).a/(y.mul y.cnj).a,(x.mul y.cnj).b/(y.mul y.cnj).a,(x.mul y.cnj).c/(y.mul y.cnj).a,(x.mul y.cnj).d/(y.mul y.cnj).a⟩
def W4.div (x y:W4):W4:=⟨(x.mul y.conj).re.div y.norm,(x.mul y.conj).im.div y.norm⟩
open Go.RowKit
open Value (agg slice int bool tuple)
open Sy (Up Sees CallsG Seg execFn_use)
set_option maxRecDepth 100000
variable {k:World}{R:World→Value→Prop}
end Go.Proofs.YtmifbgccpdmjpaaGreat

namespace Go.Proofs.YtmifbgccpdmjpaaGreat
open Go.RowKit Num Plain
open Sy (Up Sees CallsG Seg)
def cat2 (c0 c1:Array Value):Array Value:=(c0.toList++(c1.toList++([]))).toArray
def aVj (k:World) (cs:Array Value) (w:W4) (K:Nat):Prop:=∃c0 c1:Array Value,cs=cat2 c0 c1∧SurdV k c0 w.re K∧SurdV k c1 w.im K
section
variable {k k':World}{cs cs' c0 c1:Array Value}{R:World→Value→Prop}{v v':Q4}{x y:W4}{K L:Nat}
end
end Go.Proofs.YtmifbgccpdmjpaaGreat

namespace Go.Proofs.YtmifbgccpdmjpaaGreat.W32
open Go.RowKit Num
open Sy (Up Sees CallsG Seg)
section
variable {k k':World}{cs cs' c0 c1 c2 c3:Array Value}{R:World→Value→Prop}{x y q q':Rat}{v v':Q4}{K L:Nat}
end
def WQ (k:World) (cs:Array Value) (w:W4) (K:Nat):Prop:=∃c0 c1:Array Value,cs=cat2 c0 c1∧SQ k c0 w.re K∧SQ k c1 w.im K
section
variable {k k':World}{cs cs' c0 c1:Array Value}{R:World→Value→Prop}{v v':Q4}{x y:W4}{q:Rat}{K L:Nat}
end
end Go.Proofs.YtmifbgccpdmjpaaGreat.W32

namespace Go.Proofs.YtmifbgccpdmjpaaGreat
open Go.RowKit
open Value (agg slice int bool tuple)
open Sy (Up Sees CallsG Seg execFn_use)
set_option maxRecDepth 100000
variable {k:World}{R:World→Value→Prop}{cs0 cs1:Array Value}{n0 n1 n2 n3 n4 n5 n6 n7:Int}
theorem aFf (hcs0:Seg 9 cs0) (hcs1:Seg 12 cs1)
 (h:Cl k 40 #[agg cs0] fun k1 r0=>∃s2,some (Value.string s2)=some r0∧
 Cl k1 76 #[agg cs1] fun k3 r2=>∃s3,some (Value.string s3)=some r2∧
 Rt R k3 (bool (ByteArray.toList s2 == ByteArray.toList s3))) :
  CallsG Tryz.prog 20 #[agg cs0,agg cs1] k R:=
  qX { opq:=[36,51] } [.agg [.seg 0 9],.agg [.seg 1 12]] [agg cs0,agg cs1] [.seg 9,.seg 12] ⟨⟨cs0,rfl,hcs0⟩,⟨cs1,rfl,hcs1⟩,trivial⟩ h
theorem aFg 
 (h:Cl k 48 #[agg #[int .i64 n0,int .i64 n1]] fun k1 r0=>Gt 3 r0 fun cs8=>
 Cl k1 48 #[agg #[int .i64 n2,int .i64 n3]] fun k3 r2=>Gt 3 r2 fun cs9=>
 Cl k3 48 #[agg #[int .i64 n4,int .i64 n5]] fun k5 r4=>Gt 3 r4 fun cs10=>
 Cl k5 48 #[agg #[int .i64 n6,int .i64 n7]] fun k7 r6=>Gt 3 r6 fun cs11=>
 Cl k7 88 #[Rg cs8 cs9 cs10 cs11] fun k9 r8=>Gt 9 r8 fun cs12=>
 Rt R k9 (agg cs12)) :
  CallsG Tryz.prog 28 #[agg #[int .i64 n0,int .i64 n1,int .i64 n2,int .i64 n3,int .i64 n4,int .i64 n5,int .i64 n6,int .i64 n7]] k R:=
  qY { opq:=[128,36] } h
end Go.Proofs.YtmifbgccpdmjpaaGreat

namespace Go.Proofs.YtmifbgccpdmjpaaGreat
open Go.RowKit Num Plain W32
open Sy (Up Sees CallsG Seg)
section
variable {k k':World}{R:World→Value→Prop}{x q:Rat}{K L:Nat}{cs cs':Array Value}{v:Q4}{w:W4}
theorem aIo {n0 n1 n2 n3 n4 n5 n6 n7:Int}(h0:In64 n0) (h1:In64 n1) (h2:In64 n2) (h3:In64 n3) (h4:In64 n4) (h5:In64 n5) (h6:In64 n6) (h7:In64 n7) (C:∀k' ds,Up k k'→SurdV k' ds ⟨ofQ n0 n1,ofQ n2 n3,ofQ n4 n5,ofQ n6 n7⟩ 6→R k' (.agg ds)) :
 Cl k 28 #[.agg #[.int .i64 n0,.int .i64 n1,.int .i64 n2,.int .i64 n3,.int .i64 n4,.int .i64 n5,.int .i64 n6,.int .i64 n7]] R:=by
 intro k0 u0;replace C:=fun k' ds u=>C k' ds (u0.trans u);refine aFg ?_;refine aMw h0 h1 ?_;intro k1 c1 u1 q1;refine⟨c1,q1.seg,rfl,?_⟩;refine aMw h2 h3 ?_;intro k2 c2 u2 q2;refine⟨c2,q2.seg,rfl,?_⟩;refine aMw h4 h5 ?_;intro k3 c3 u3 q3;refine⟨c3,q3.seg,rfl,?_⟩;refine aMw h6 h7 ?_;intro k4 c4 u4 q4;refine⟨c4,q4.seg,rfl,?_⟩;refine aAx (((q1.up u2).up u3).up u4) ((q2.up u3).up u4) (q3.up u4) q4 oq oq ?_;intro k5 c5 u5 h5;refine⟨c5,h5.seg,rfl,?_⟩;intro k6 u6;exact C k6 c5 (((((u1.trans u2).trans u3).trans u4).trans u5).trans u6) (h5.up u6)
theorem aJz (hx:SurdV k cs v K) (hK1:1≤K) (hK:K≤268435456) (h:SQ k cs' v L) (hL:L≤10000000000) (C:∀k',Up k k'→R k' (.bool true)) :
 Cl k 20 #[.agg cs,.agg cs'] R:=by
 intro k0 u0;refine aFf hx.seg h.seg (nD (hx.up u0) hK1 hK fun k1 u1=>⟨_,rfl,aFb ((h.up u0).up u1) hL fun k3 u3=>⟨_,rfl,fun k4 u4=>?_⟩⟩);have:=C k4 (((u0.trans u1).trans u3).trans u4);rw [show (ByteArray.toList (str (aL v)) == ByteArray.toList (str (aL v)))=true from beq_self_eq_true _];exact this
end
