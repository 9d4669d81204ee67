/- Walk: limbs.text. -/
import Derived.Test.YthiaclljcnincaaGreatApText1
namespace Go.Proofs.YthiaclljcnincaaGreat
open Go.RowKit Num
theorem LR.grownB {w w':World}{A:Option Addr}{n c m B:Nat}{row:Option Nat}(h:LR w A c m) (hf:(Value.slice A n c).ownBlock=some B) (hg:w.grownBy w' row) (hne:row≠some B):LR w' A c m:=
 ⟨h.lt,h.cap,fun hn0=>by
   obtain⟨b,o,e,hb,hc⟩:=h.at_ hn0;subst e;have hbB:b=B:=by injection hf
   have hs:=hg.size
   exact⟨b,o,rfl,oq,fun i hi=>(World.cell?_of_block (hg.block b hb (fun e'=>hne (by rw [←e',hbB])))).trans (hc i hi)⟩⟩
theorem aHm (P:List (List UInt8)) (j:Nat) (h:j<P.length):(P.drop j).reverse.flatten=(P.drop (j+1)).reverse.flatten++P[j]:=by
 rw [ko h,List.reverse_cons,List.flatten_append];simp
theorem uQ (P:List (List UInt8)) (j:Nat):(P.drop j).reverse.flatten.length≤P.reverse.flatten.length:=by
 have h:P.reverse=(P.drop j).reverse++(P.take j).reverse:=by rw [←List.reverse_append,List.take_append_drop]
 conv=>rhs;rw [h]
 rw [List.flatten_append,od];omega
theorem uM {m a N:Nat}{P:List (List UInt8)}(h:(dig m).length≤64*N) (hd:dig m=dig a++P.reverse.flatten) (hp:∀s∈P,0<s.length) (hN:N≤8589934592):P.length≤549755813888:=by
 have h1:=congrArg List.length hd;rw [od]at h1;have h2:=iR P.reverse (fun s hs=>hp s (by simpa using hs));rw [List.length_reverse]at h2;omega
theorem aPr (k:Nat) (hk:k≤19) (W:World):Calls Tryz.prog 91 #[.string ⟨#[48]⟩,.int .i64 k] W fun e w'=>e=.returned (.string ⟨(List.replicate k 48).toArray⟩)∧Below W.heap.size W w':=by
 have h:=Tryz.strings_Repeat ⟨#[48]⟩ k W oq (by rw [show (⟨#[48]⟩:ByteArray).size=1 from rfl];omega);rw [show (⟨#[48]⟩:ByteArray).data.toList=[48] from rfl,aBe]at h;exact h
set_option maxRecDepth 100000 in
set_option maxHeartbeats 4000000 in
theorem pS {w:World}{A:Option Addr}{n c m:Nat}(h:LimR w A n c m) (hn:n≤8589934592) :
 Calls Tryz.prog 61 #[.slice A n c] w (fun e w'=>e=.returned (.string ⟨(dec m).toArray⟩)∧Below w.heap.size w w'):=by
 obtain⟨rfl,h⟩:=h;have hdl:(dig m).length≤64*nw m:=by
  refine nQ _ _ (qy (dA m) ?_);rw [mK,←yk];exact Nat.pow_le_pow_left oz _
 go_enter Tryz.func61,Tryz.ntmps61
 go_wp2_with fail
 go_loopg [0,3] m (fun a X Y wr=>∃(Aa:Option Addr) (ca:Nat),X=.slice Aa (nw a) ca∧LR wr Aa ca a∧nw a≤8589934592∧TextI w wr m a Y∧Below w.heap.size w wr)
 case atStart=>exact⟨A,c,rfl,h,hn,⟨⟨[],⟨by simp,.inl ⟨rfl,rfl⟩⟩,by simp,by simp⟩⟩,Below.refl _ _⟩
 case round=>
  obtain⟨Aa,ca,rfl,ha,na,hT,hB⟩:=hrel;rcases ju gk with h0|h0
  ·subst h0;obtain⟨P,hown,hd,hp⟩:=hT.ex;rw [eO,wn]at hd;rw [nw_zero]
   by_cases hP:P=[]
   ·subst hP;have hm0:m=0:=xv fun h=>by have:=aCk h;rw [hd]at this;simp at this
    have hv:u3=.slice none 0 0∨∃a c,u3=.slice (some a) 0 c:=by
     rcases hown.2 with ⟨hv,_⟩|⟨g,cap,cur,hv,_⟩
     ·exact .inl hv
     ·exact .inr ⟨_,_,hv⟩
    have hdec:dec m=[48]:=by rw [hm0];rfl
    have HD:=ou hdec;clear hdec hm0 hd hown hp hT ha h hdl hn;rcases hv with rfl|⟨a,c,rfl⟩
    ·go_wp2_with fail
     go_ret
     exact⟨by rw [HD.out];rfl,hB⟩
    ·go_wp2_with fail
     go_ret
     exact⟨by rw [HD.out];rfl,hB⟩
   ·obtain⟨W,rfl⟩:∃W,W=wr:=⟨_,rfl⟩;have hN0:0<P.length:=List.length_pos_iff.2 hP;obtain⟨g,cap,rfl,hg⟩:∃g cap,u3=.slice (some ⟨g,0,none⟩) P.length cap∧g<W.heap.size:=by
     rcases hown.2 with ⟨_,h0⟩|⟨g,cap,cur,hv,_⟩
     ·omega
     ·exact⟨g,cap,hv,(hown.lt g (by rw [hv];rfl)).2⟩
    have hcell:∀j (hj:j<P.length),W.cell? ⟨g,j,none⟩=some (aEk P[j]):=fun j hj=>by
     rw [hown.cellAt j oq];simp [hj]
    have HC:=ou hcell;have hm0:m≠0:=fun e=>by
     rw [e,eO]at hd;have h2:=iR P.reverse (fun s hs=>hp s (by simpa using hs));rw [←hd]at h2;simp at h2;exact hP h2
    have hdec:dec m=P.reverse.flatten:=by rw [dec,oh hm0,hd]
    have hfl:P.reverse.flatten.length≤549755813888:=by rw [←hd];omega
    have hPl:P.length≤549755813888:=qr (by have h2:=iR P.reverse (fun s hs=>hp s (by simpa using hs));rwa [List.length_reverse]at h2) hfl;have HD:=ou hdec;have HFl:=ou hfl;obtain⟨N,hN⟩:∃N,N=P.length:=⟨_,rfl⟩;rw [←hN]at hN0 hPl;rw [←hN];have HN:=ou hN;have eN:¬ (N:Int)=0:=oq
    have eb:((N:Int) == 0)=false:=by simpa using eN
    clear hdec hm0 hd hown hp hT ha h hdl hn hcell hfl hP hN;have hgne:g≠W.heap.size:=oq
    go_wp2_with fail
    go_loopw [8] (fun x wx=>∃k,k≤N∧x=.int .i64 ((k:Int)-1)∧Lib.IsBuilder 137 5 W.heap.size W.heap.size (Lib.byteCells (P.drop k).reverse.flatten) wx∧Below W.heap.size W wx) (fun x _=>(intOf x+1).toNat)
    case atStart=>
     refine⟨N,oy _,rfl,?_,(Below.refl _ _).alloc (oy _) _⟩;rw [HN.out,List.drop_length];exact .inl ⟨oy _,_,heap_alloc_new _ _,⟨by simp [Lib.byteCells],.inl ⟨rfl,rfl⟩⟩,by simp [Value.ownBlock]⟩
    case round=>
     obtain⟨k,hk,rfl,hbd,hbl⟩:=hrel;rcases ju k with h0|h0
     ·subst h0
      go_wp2_with (go_at_call 93;refine (Tryz.Builder_String_any _ _ _ _ hbd (qr hbl.size (oy _))).mono ?_;rintro e w5 ⟨rfl,hb5⟩)
      rw [←HD.out];exact bodyPost_ret (v:=.string ⟨(dec m).toArray⟩) (by simp [results,Tryz.results61,go_sem]) rfl ⟨rfl,((hB.trans (hbl.mono hB.size)).trans (hb5.mono hB.size))⟩
     ·obtain⟨j,rfl⟩:∃j,k=j+1:=⟨k-1,oq⟩;have hjP:j<P.length:=by rw [←HN.out];omega
      have hcj:=(hbl.cell (p:=⟨g,j,none⟩) hg).trans (HC.out j hjP);obtain⟨s,hs⟩:∃s,s=P[j]:=⟨_,rfl⟩;rw [←hs]at hcj;unfold aEk at hcj;have hdrop:(P.drop j).reverse.flatten=(P.drop (j+1)).reverse.flatten++s:=by
       rw [hs];exact aHm P j hjP
      have hlen:((P.drop (j+1)).reverse.flatten++s).length≤549755813888:=by
       rw [←hdrop];exact qr (uQ P j) HFl.out
      rw [od]at hlen;have HDr:=ou hdrop;clear hs hdrop;generalize (P.drop (j+1)).reverse.flatten=t at *
      have hlt:(Lib.byteCells t).length+(⟨s.toArray⟩:ByteArray).size≤140737488355328:=by
       rw [Lib.byteCells_length,show (⟨s.toArray⟩:ByteArray).size=s.length from by simp [ByteArray.size]];omega
      have HLt:=ou hlt;have ej:((j+1:Nat):Int)-1=j:=oq
      have ejN:(j:Int)<N:=oq
      have hjN:j<N:=oq
      clear hlen hlt;rw [ej]
      go_wp2_with (go_at_call 92;refine (rJ _ _ _ _ _ hbd HLt.out (hbl.size)).mono ?_;rintro e w5 ⟨rfl,hbd5,hb5⟩)
      go_roundw
      case rel=>
       exact⟨j,oq,rfl,.inr (by rw [HDr.out,Lib.byteCells_append,←uU s];exact hbd5),hbl.trans hb5⟩
      case measure=>simp [intOf]
  ·have hgn:0<nw gk:=zx fun e=>by have:=bS.1 e;omega
   have hgi:(0:Int)<(nw gk:Int):=oq
   obtain⟨q,hq⟩:∃q,q=gk/10000000000000000000:=⟨_,rfl⟩;obtain⟨r,hr⟩:∃r,r=gk % 10000000000000000000:=⟨_,rfl⟩;have HB:=ou (nN Aa ca gk (nw gk) 10000000000000000000 wr ha oq oq oq);rw [←hq,←hr]at HB;have hsp:=vF 19 gk;rw [show (10:Nat)^19=10000000000000000000 by decide,←hq,←hr]at hsp;have hrl:r<18446744073709551616:=oq
   have hr19:(dig r).length≤19:=nQ 19 r oq;have hqn:nw q≤8589934592:=qr (bJ oq) na;have hql:q<gk:=oq
   have hr0:q=0→r=gk:=oq
   have HR:=ou hr0;have HS:=ou hsp;have HA:=ou ha;have HT:=ou hT;clear ha hq hr hr0 hsp h hT
   go_wp2_with fail
   refine HB.out.mono ?_;rintro e w1 ⟨⟨v,rfl,⟨A1,c1,rfl,hqv⟩,hfr⟩,hb1⟩;have HFr:=ou hfr;clear hfr
   go_wp2_with fail
   refine (aHd hrl).mono ?_;rintro e w2 ⟨rfl,hb2⟩;generalize hl:dig r=l at *
   have HL:=ou hl;clear hl;rcases ju q with hq0|hq0
   ·have hrg0:=ou (HR.out hq0);clear HR HS;subst hq0;obtain⟨P,hown,hd,hp⟩:=HT.out.ex;have hown2:=fT (fT hown hb1) hb2;have HD:=ou hd;have HPp:=ou hp;have HO:=ou hown;clear hd hp hown;have hPl:=uM hdl HD.out HPp.out hn;have HPl:=ou hPl;clear hPl;have hq00:¬ ((nw 0:Nat):Int) > 0:=by rw [nw_zero];decide
    obtain⟨i0,hi,hz0,hz1,hz2⟩:=info_parts (show (Tryz.prog.info? 9).map (fun i=>(i.zero,i.size,i.bytes))=some (some (.string ⟨#[]⟩),1,16) by kernel_rfl);have hPl:P.length≤549755813888:=HPl.out
    go_wp2_with (at_builtin;refine wpList_append_own _ rfl _ _ 129 rfl w.heap.size 9 i0 (.string ⟨#[]⟩) 1 16 ox hi hz0 hz1 hz2 rfl oz _ _ _ rfl (hown2.alloc _) ⟨w2.heap.size,0,none⟩ 1 1 [aEk l] rfl rfl ?c1 ?c2 ?c3 ?c4 ?c5 ?_)
    case c1=>
     intro j u hj
     match j,hj with
     | 0,hj=>simp at hj;subst hj;simp [Addr.add,aEk]
    case c2=>intro u hu;simp at hu;subst hu;rfl
    case c3=>unfold maxLen;omega
    case c4=>omega
    case c5=>have:=hb1.size;have:=hb2.size;have:=hB.size;simp;omega
    intro v' w4 hown' hgrow _
    go_wp2_with fail
    go_roundg 0
    case rel=>
     have hlt3:∀k,u3.ownBlock=some k→k<wr.heap.size:=fun k hk=>(HO.out.lt k hk).2;refine⟨A1,c1,rfl,?_,hqn,⟨⟨P++[l],?_,?_,?_⟩⟩,?_⟩
     ·have h3:LR w2 A1 c1 0:=hqv.below hb2;exact LR.grownB (h3.below (Below.al _ _)) HFr.out hgrow (fun e=>Nat.lt_irrefl _ (hlt3 _ e))
     ·rw [od,List.map_append];exact hown'
     ·have hrg:=hrg0.out;rw [HD.out,eO,←hrg,HL.out];simp
     ·intro x hx;rcases qd.1 hx with h|h
      ·exact HPp.out x h
      ·have:x=l:=by simpa using h
       subst this;rw [←HL.out];exact aCk (by have:=hrg0.out;omega)
     ·exact (((((hB.trans (hb1.mono hB.size)).trans (hb2.mono (qr hB.size hb1.size)))).alloc (by have:=hb1.size;have:=hb2.size;have:=hB.size;omega) _).grown hgrow (by have:=hb1.size;have:=hb2.size;have:=hB.size;simp;omega) (fun k hk=>(HO.out.lt k hk).1))
    case measure=>exact hql
   ·have hqp:0<nw q:=zx fun e=>by have:=bS.1 e;omega
    have hqi:(0:Int)<(nw q:Int):=oq
    obtain⟨k,hk⟩:∃k,k=19-l.length:=⟨_,rfl⟩;have HK:=ou hk;have hk19:k≤19:=oq
    have hrep:=aPr k hk19;rw [show (k:Int)=19-(l.length:Int) by omega]at hrep;obtain⟨z,hz⟩:∃z,z=List.replicate k (48:UInt8):=⟨_,rfl⟩;rw [←hz]at hrep;have HRep:=ou hrep;have HZ:=ou hz;have hsum:¬ 9223372036854775807<z.length+l.length:=by rw [hz,List.length_replicate];omega
    obtain⟨s,hs⟩:∃s,s=z++l:=⟨_,rfl⟩;have hcat:(⟨z.toArray⟩++⟨l.toArray⟩:ByteArray)=⟨s.toArray⟩:=by rw [hs];exact gQ z l
    have HSs:=ou hs;clear hrep hz hs;clear hk
    go_wp2_with fail
    refine (HRep.out _).mono ?_;rintro e w3 ⟨rfl,hb3⟩;obtain⟨P,hown,hd,hp⟩:=HT.out.ex;have hown3:=fT (fT (fT hown hb1) hb2) hb3;have HD:=ou hd;have HPp:=ou hp;have HO:=ou hown;clear hd hp hown;have hPl:=uM hdl HD.out HPp.out hn;have HPl:=ou hPl;clear hPl;obtain⟨i0,hi,hz0,hz1,hz2⟩:=info_parts (show (Tryz.prog.info? 9).map (fun i=>(i.zero,i.size,i.bytes))=some (some (.string ⟨#[]⟩),1,16) by kernel_rfl);have hPl:P.length≤549755813888:=HPl.out
    go_wp2_with (at_builtin;refine wpList_append_own _ rfl _ _ 129 rfl w.heap.size 9 i0 (.string ⟨#[]⟩) 1 16 ox hi hz0 hz1 hz2 rfl oz _ _ _ rfl (hown3.alloc _) ⟨w3.heap.size,0,none⟩ 1 1 [aEk s] rfl rfl ?c1 ?c2 ?c3 ?c4 ?c5 ?_)
    case c1=>
     intro j u hj
     match j,hj with
     | 0,hj=>simp at hj;subst hj;simp [Addr.add,aEk]
    case c2=>intro u hu;simp at hu;subst hu;rfl
    case c3=>unfold maxLen;omega
    case c4=>omega
    case c5=>have:=hb1.size;have:=hb2.size;have:=hb3.size;have:=hB.size;simp;omega
    intro v' w4 hown' hgrow _
    go_wp2_with fail
    go_roundg q
    case rel=>
     have hlt3:∀k,u3.ownBlock=some k→k<wr.heap.size:=fun k hk=>(HO.out.lt k hk).2;refine⟨A1,c1,rfl,?_,hqn,⟨⟨P++[s],?_,?_,?_⟩⟩,?_⟩
     ·have h3:LR w3 A1 c1 q:=(hqv.below hb2).below hb3;exact LR.grownB (h3.below (Below.al _ _)) HFr.out hgrow (fun e=>Nat.lt_irrefl _ (hlt3 _ e))
     ·rw [od,List.map_append];exact hown'
     ·rw [HD.out,HS.out oq,show pad 19 r=s from by rw [HSs.out,HZ.out,HK.out,pad,HL.out]];simp
     ·intro x hx;rcases qd.1 hx with h|h
      ·exact HPp.out x h
      ·have:x=s:=by simpa using h
       subst this;rw [HSs.out,HZ.out,od,List.length_replicate,HK.out];omega
     ·exact (((((hB.trans (hb1.mono hB.size)).trans (hb2.mono (qr hB.size hb1.size))).trans (hb3.mono (qr (qr hB.size hb1.size) hb2.size))).alloc (by have:=hb1.size;have:=hb2.size;have:=hb3.size;have:=hB.size;omega) _).grown hgrow (by have:=hb1.size;have:=hb2.size;have:=hb3.size;have:=hB.size;simp;omega) (fun k hk=>(HO.out.lt k hk).1))
    case measure=>exact hql
