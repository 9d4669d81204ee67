/- Walks: division of package exact's natural numbers. -/
import Derived.Test.YthiaclljcnincaaGreatApLimb3
import Derived.Test.YthiaclljcnincaaGreatApLimb4
import Derived.Test.YthiaclljcnincaaGreatApDiv
set_option maxHeartbeats 2000000
set_option maxRecDepth 100000
namespace Go.Proofs.YthiaclljcnincaaGreat
open Go.RowKit Num
def rsq (a d k:Nat):Nat:=a/B64^k % d
theorem aVa {a d n:Nat}(h:a<B64^n):rsq a d n=0:=by unfold rsq;rw [qa h];simp
theorem aPz (a d:Nat):rsq a d 0=a % d:=by simp [rsq]
theorem aYw {a d k:Nat}(h:0<d):rsq a d k<d:=qg _ h
theorem aTe (a d k:Nat) (hd:0<d) (hd':d<18446744073709551616) (w:World) :
 Calls Tryz.prog 110 #[.int .u64 (rsq a d (k+1)),.int .u64 (wq a k),.int .u64 d] w fun e w'=>e=.returned (.tuple #[.int .u64 (wq (a/d) k),.int .u64 (rsq a d k)])∧∃n,w'=w.drewN n:=
 (vG _ _ d w (bN a k) hd' (aYw hd)).mono fun e w' ⟨he,hw⟩=>⟨by
   have h:=byword (n:=a) (d:=d) aG hd k;have h1:(rsq a d (k+1)*18446744073709551616+wq a k) / d=wq (a/d) k:=h.1;have h2:(rsq a d (k+1)*18446744073709551616+wq a k) % d=rsq a d k:=h.2
   rw [he,h1,h2],hw⟩
theorem nN (A:Option Addr) (c a n d:Nat) (w:World) (h:RW w A n c a) (hn:n≤17179869184) (hd:0<d) (hd':d<18446744073709551616) :
 Calls Tryz.prog 89 #[.slice A n c,.int .u64 d] w fun e w'=>(∃v,e=.returned (.tuple #[v,.int .u64 ((a % d:Nat):Int)])∧LV w' v (a/d)∧v.ownBlock=some w.heap.size)∧Below w.heap.size w w':=by
 have hmk:=fG n n oq oq oq;have R0:=ou (aPz a d);have RN:=ou (aVa (d:=d) h.lt);have HLt:Hid (a/d<B64^n):=jm (zt _ _) h.lt;have hcall:=ou (fun k=>aTe a d k hd hd')
 go_enter Tryz.func89,Tryz.ntmps89
 go_wp2_with fail
 go_loopw [7,8] (fun rs i wr=>∃k:Nat,k≤n∧i=.int .i64 ((k:Int)-1)∧rs=.int .u64 (rsq a d k)∧Blk wr w.heap.size 94 (gT (a/d) k n)∧Below w.heap.size w wr) (fun _ i _=>(intOf i+1).toNat)
 case atStart=>
  exact⟨n,oy _,rfl,by rw [RN.out];rfl,by rw [mI];exact Blk.new _ _ _,(Below.refl _ _).alloc (oy _) _⟩
 case round=>
  obtain⟨k,hk,rfl,rfl,hblk,hbel⟩:=hrel;rcases ju k with h0|h0
  ·subst h0;rw [qP]at hblk;rw [R0.out];have hr:=RW.ofBlk hblk (oy _) HLt.out;clear hblk h hmk
   go_wp2_with (go_at_call 71;refine (fX _ _ _ _ _ hr oq).mono ?_;rintro e w' ⟨rfl,rfl⟩)
   go_ret2
   exact⟨⟨_,rfl,hr.toLR.lv,rfl⟩,hbel⟩
  ·obtain⟨k,rfl⟩:∃j,k=j+1:=⟨k-1,oq⟩;obtain⟨b1,o1,rfl,hb1,hc1⟩:=h.at_ oq;have hx:wr.cell? ⟨b1,o1+k,none⟩=some (.int .u64 (wq a k)):=(hbel.cell (p:=⟨_,_,none⟩) hb1).trans (hc1 k oq);have hout:wr.cell? ⟨w.heap.size,k,none⟩=some (.int .u64 0):=by rw [hblk.cell,qQ _ oq oq]
   have hfr:wr.frozen? ⟨w.heap.size,k,none⟩=false:=hblk.frozen k;have HB:=ou hblk;have ek:((k+1:Nat):Int)-1=(k:Int):=oq
   rw [ek];clear hc1 hblk hmk h
   go_wp2_with (go_at_call 110;refine (hcall.out k _).mono ?_;rintro e w' ⟨rfl,dn,rfl⟩)
   go_roundw
   case rel=>exact⟨k,oq,rfl,rfl,by have:=HB.out.set_ k (.int .u64 (wq (a/d) k));rw [qR]at this;exact this,cX (hbel.setCell (oy _) _) _⟩
   case measure=>simp [intOf]
theorem zK (A:Option Addr) (c a n d:Nat) (w:World) (h:RW w A n c a) (hn:n≤17179869184) (hd:0<d) (hd':d<18446744073709551616) :
 Calls Tryz.prog 89 #[.slice A n c,.int .u64 d] w fun e w'=>(∃v,e=.returned (.tuple #[v,.int .u64 ((a % d:Nat):Int)])∧LV w' v (a/d))∧Below w.heap.size w w':=by
 refine (nN A c a n d w h hn hd hd').mono ?_;rintro e w' ⟨⟨v,rfl,hv,-⟩,hb⟩;exact⟨⟨v,rfl,hv⟩,hb⟩
def tcq (m q k:Nat):Nat:=cmul B64 0 q m k
theorem aQw (m q:Nat):tcq m q 0=0:=vC _ _ _
theorem aQv (m q k:Nat) (hq:q<18446744073709551616):tcq m q k<18446744073709551616:=aFa aG _ _ _ hq
theorem aVp (m q n:Nat) (hm:m<B64^n) (hq:q<18446744073709551616):tcq m q n=wq (q*m) n:=by
 have h:=aQv m q n hq;unfold tcq cmul at h ⊢;rw [Nat.zero_mod,qc,oi hm]at h ⊢;unfold wq wd;exact (oi h).symm
theorem aKu (m q k:Nat) (hq:q<18446744073709551616):∃hi lo c:Nat,
 wq m k*q=hi*18446744073709551616+lo∧lo<18446744073709551616∧hi+c<18446744073709551616∧
 (∀w,(callFunc 84 #[.int .u64 lo,.int .u64 (tcq m q k),.int .u64 0]).run Tryz.prog w=.ok (.value (.tuple #[.int .u64 (wq (q*m) k),.int .u64 c])) w)∧
 hi+c=tcq m q (k+1):=by
 have h1:=aGp (b:=B64) aG 0 q m k;have h2:=vB (b:=B64) aG 0 q m k;have hz:wd B64 0 k=0:=by simp [wd]
 rw [qc,hz,qc]at h1;rw [hz,qc]at h2;have e1:wq (q*m) k=(wq m k*q+tcq m q k) % 18446744073709551616:=by rw [oa (wq m k) q];exact h1
 have e2:tcq m q (k+1)=(wq m k*q+tcq m q k) / 18446744073709551616:=by rw [oa (wq m k) q];exact h2
 have hc:=aQv m q k hq;have hx:=bN m k;have hp:wq m k*q≤18446744073709551615*18446744073709551615:=ky oq oq;rw [e1,e2];generalize wq m k*q=p at *
 generalize tcq m q k=c at *
 clear e1 e2 h1 h2 hz hx hq;refine⟨p/18446744073709551616,p % 18446744073709551616,(p % 18446744073709551616+c) / 18446744073709551616,oq,oq,oq,fun w=>?_,oq⟩;rw [nK]
 congr 6
 omega
theorem wK {U j n m q:Nat}(hle:q*m≤U/B64^j) (hu:U/B64^j<B64^(n+1)) :
 (∀i,i<j→wq (U-B64^j*(q*m)) i=wq U i)∧(∀i,wq (U-B64^j*(q*m)) (j+i)=wq (U/B64^j-q*m) i)∧(∀i,j+(n+1)≤i→wq U i=wq (U-B64^j*(q*m)) i):=by
 have hp:0<B64^j:=oc aG;have h1:=jf U (B64^j);have e:U-B64^j*(q*m)=U % B64^j+B64^j*(U/B64^j-q*m):=by
  rw [Nat.mul_sub];have:=qn (B64^j) hle;generalize U % B64^j=r at *
  generalize B64^j*(U/B64^j)=x at *
  generalize B64^j*(q*m)=y at *
  omega
 have hlow:U % B64^j<B64^j:=qg _ hp;have hd:(U-B64^j*(q*m)) / B64^j=U/B64^j-q*m:=by
  rw [e,jg _ _ hp,qa hlow,qc]
 have hm:(U-B64^j*(q*m)) % B64^j=U % B64^j:=by
  rw [e,zv,oi hlow]
 refine⟨fun i hi=>?_,fun i=>?_,fun i hi=>?_⟩
 ·unfold wq;rw [←nI aG _ j i hi,hm,nI aG _ j i hi]
 ·rw [←gX,hd]
 ·obtain⟨i,rfl⟩:∃z,i=j+z:=⟨i-j,oq⟩;rw [←gX,←gX,hd];unfold wq;rw [rH aG hu oq,rH aG (jm (Nat.sub_le _ _) hu) oq]
theorem aQu {U j n m q:Nat}(hle:q*m≤U/B64^j) (hu:U/B64^j<B64^(n+1)) (i:Nat) (w:World) :
 (callFunc 109 #[.int .u64 (wq U (j+i)),.int .u64 (wq (q*m) i),.int .u64 (boq (U/B64^j) (q*m) i)]).run Tryz.prog w =
   .ok (.value (.tuple #[.int .u64 (wq (U-B64^j*(q*m)) (j+i)),.int .u64 (boq (U/B64^j) (q*m) (i+1))])) w:=by
 rw [(wK hle hu).2.1,←gX];exact yN _ _ i hle w
def TakeQ (U j qm N g:Nat) (w:World) (e:Ending) (w':World):Prop:=
 e=.returned (.bool (decide (qm≤U/B64^j)))∧RowF w' g 94 (wq (if qm≤U/B64^j then U-B64^j*qm else U)) N∧w.grownBy w' (some g)
theorem TakeQ.yes {U j qm N g:Nat}{w w':World}(h:qm≤U/B64^j) (hb:RowF w' g 94 (wq (U-B64^j*qm)) N) (ho:w.grownBy w' (some g)):TakeQ U j qm N g w (.returned (.bool true)) w':=
 ⟨by rw [decide_eq_true h],by rw [og h];exact hb,ho⟩
theorem TakeQ.no {U j qm N g:Nat}{w w':World}(h:¬ qm≤U/B64^j) (hb:RowF w' g 94 (wq U) N) (ho:w.grownBy w' (some g)):TakeQ U j qm N g w (.returned (.bool false)) w':=
 ⟨by rw [decide_eq_false h],by rw [oh h];exact hb,ho⟩
theorem wL (A:Option Addr) (c m n q g j cu U N:Nat) (w:World) (h:RW w A n c m) (hU:RowF w g 94 (wq U) N) (hj:j+n+1≤N) (hN:N≤34359738368) (hu:U/B64^j<B64^(n+1)) (hcu:n+1≤cu)
 (hq:q<18446744073709551616) (hA:∀b o,A=some ⟨b,o,none⟩→b≠g) :
 Calls Tryz.prog 131 #[.slice (some ⟨g,j,none⟩) (n+1) cu,.slice A n c,.int .u64 q] w (TakeQ U j (q*m) N g w):=by
 have hmk:=fG (n+1) (n+1) oq oq oq;rw [xl,Int.natCast_one]at hmk;have T0:=ou (aQw m q);have TE:=ou (aVp m q n h.lt hq);have hstep:=ou (fun k=>aKu m q k hq);have hg:=hU.lt
 go_enter Tryz.func131,Tryz.ntmps131
 go_wp2_with fail
 go_loopw [8,22] (fun cv i wr=>∃k:Nat,k≤n∧i=.int .i64 k∧cv=.int .u64 (tcq m q k)∧Blk wr w.heap.size 94 (dX (q*m) 0 k (n+1))∧Below w.heap.size w wr) (fun _ i _=>n-(intOf i).toNat)
 case atStart=>
  exact⟨0,jx _,rfl,by rw [T0.out];rfl,by rw [jR _ _ _ _ (fun _ h=>absurd h oq)];exact Blk.new _ _ _,(Below.refl _ _).alloc (oy _) _⟩
 case round=>
  obtain⟨k,hk,rfl,rfl,hblk,hbel⟩:=hrel;have hout:wr.cell? ⟨w.heap.size,k,none⟩=some (.int .u64 (wq 0 k)):=by rw [hblk.cell,jQ _ _ (oy _) oq]
  have hfr:wr.frozen? ⟨w.heap.size,k,none⟩=false:=hblk.frozen k;have HB:=ou hblk;clear hblk hmk
  by_cases hlt:k<n
  ·obtain⟨b1,o1,rfl,hb1,hc1⟩:=h.at_ oq;have hx:wr.cell? ⟨b1,o1+k,none⟩=some (.int .u64 (wq m k)):=(hbel.cell (p:=⟨_,_,none⟩) hb1).trans (hc1 k hlt);obtain⟨hi,lo,cc,s1,s2,s3,s4,s5⟩:=hstep.out k;have S1:=ou s1;have S5:=ou s5;have bx:=bN m k;clear s1 s5 hc1 h
   go_wp2_with (go_at_call 83;refine (fF _ _ hi lo bx hq S1.out s2 _).mono ?_;rintro e w' ⟨rfl,rfl⟩)
   go_roundw
   case rel=>exact⟨k+1,oq,by go_num,by rw [←S5.out];go_num,by have:=HB.out.set_ k (.int .u64 (wq (q*m) k));rw [fV]at this;exact this,hbel.setCell (oy _) _⟩
   case measure=>simp [intOf];omega
  ·obtain rfl:k=n:=oq
   have hqm:q*m<B64^(k+1):=by
    have h1:(q+1)*m≤B64*m:=ol m hq;have h2:B64*m<B64*B64^k:=Nat.mul_lt_mul_of_pos_left h.lt aG;rw [zj]at h1;rw [jj,oa (B64^k)];omega
   have hP:Blk (wr.setCell ⟨w.heap.size,k,none⟩ (.int .u64 (wq (q*m) k))) w.heap.size 94 (dN (q*m) (k+1)):=by
    have:=HB.out.set_ k (.int .u64 (wq (q*m) k))
    rwa [fV,qT hqm]at this
   have hG:RowF (wr.setCell ⟨w.heap.size,k,none⟩ (.int .u64 (wq (q*m) k))) g 94 (wq U) N:=(hU.below hbel hg).far (p:=⟨_,_,none⟩) (by simp;omega) _;have hB:Below w.heap.size w (wr.setCell ⟨w.heap.size,k,none⟩ (.int .u64 (wq (q*m) k))):=hbel.setCell (oy _) _;rw [TE.out];clear TE T0 hstep HB hbel
   go_wp2_with fail
   generalize wr.setCell ⟨w.heap.size,k,none⟩ (.int .u64 (wq (q*m) k))=w1 at *
   have hRu:=RW.ofRowAt hG (n:=k+1) (c:=cu) oq hcu hu;have hRp:=RW.ofBlk hP (oy _) hqm;have hp:0<B64^j:=oc aG;have n1:=aY hu;have n2:=aY hqm;refine (fX _ _ _ _ _ hRu oq).mono ?_;rintro e w' ⟨rfl,rfl⟩
   go_wp2_with fail
   refine (fX _ _ _ _ _ hRp oq).mono ?_;rintro e w' ⟨rfl,rfl⟩
   go_wp2_with fail
   refine (rT _ _ _ _ _ _ _ hRu.toLR hRp.toLR oq oq).mono ?_;rintro e w' ⟨rfl,d,rfl⟩;have HRp:=ou hRp;have HP:=ou hP;have HG:=ou hG;clear hRu hRp hP hG hU h hfr hout
   by_cases hle:q*m≤U/B64^j
   ·have hc:¬ (gE (U/B64^j) (q*m)<0):=by
     unfold gE
     by_cases he:U/B64^j=q*m
     ·rw [oh oq,og he];decide
     ·rw [oh oq,oh he];decide
    have HT:=ou (wK hle hu);have HS:=ou (fun i=>aQu (U:=U) (j:=j) (n:=k) (m:=m) (q:=q) hle hu i);have B0:=ou (zJ (U/B64^j) (q*m));have HY:=ou hle;have HY2:=ou (fun (w':World) hb ho=>TakeQ.yes (N:=N) (g:=g) (w:=w) (w':=w') HY.out hb ho);generalize U/B64^j=part at *
    clear hle
    go_wp2_with fail
    go_loopw [14,59] (fun cv i wl=>∃i':Nat,i'≤k+1∧i=.int .i64 i'∧cv=.int .u64 (boq part (q*m) i')∧Blk wl w.heap.size 94 (dN (q*m) (k+1))∧RowF wl g 94 (mixq (U-B64^j*(q*m)) U (j+i')) N∧w.grownBy wl (some g)) (fun _ i _=>(k+1)-(intOf i).toNat)
    case atStart=>
     exact⟨0,jx _,rfl,by rw [B0.out];rfl,HP.out,HG.out.congr (fun i _=>aCw HT.out.1 i),mG (cX hB _) _⟩
    case round=>
     obtain⟨i',hi',rfl,rfl,hp1,hg1,ho⟩:=hrel
     by_cases hlt':i'<k+1
     ·have hu1:wr.cell? ⟨g,j+i',none⟩=some (.int .u64 (wq U (j+i'))):=by rw [hg1.cell oq,aTu]
      have hp2:wr.cell? ⟨w.heap.size,i',none⟩=some (.int .u64 (wq (q*m) i')):=by rw [hp1.cell,jH _ hlt']
      have hfr:wr.frozen? ⟨g,j+i',none⟩=false:=hg1.frozen _;have hsub:=HS.out i';have HG1:=ou hg1;have HP1:=ou hp1;clear hg1 hp1
      go_wp2_with fail
      go_region
      go_wp2_with fail
      go_roundw
      case rel=>exact⟨i'+1,oq,by go_num,rfl,(HP1.out.far (p:=⟨_,_,none⟩) (by simp;omega) _).drew,HG1.out.mix.drew,aIr (cY ho (.inl rfl) _)⟩
      case measure=>simp [intOf];omega
     ·obtain rfl:i'=k+1:=oq
      have hz:=hg1.congr (fun i _=>aNb HT.out.2.2 i);have HZ:=ou hz;clear hz hg1 hp1
      go_wp2_with fail
      go_ret
      exact HY2.out _ HZ.out ho
   ·have hc:gE (U/B64^j) (q*m)=-1:=by rw [gE,og oq]
    rw [hc];have HN:=ou hle;clear hle hc
    go_wp2_with fail
    go_ret
    exact TakeQ.no HN.out HG.out (mG (cX hB _) _)
def DigitQ (U j m N g:Nat) (w:World) (e:Ending) (w':World):Prop:=
 e=.returned (.int .u64 ((U/B64^j/m:Nat):Int))∧RowF w' g 94 (wq (U-B64^j*(U/B64^j/m*m))) N∧w.grownBy w' (some g)
theorem DigitQ.mk {U j m N g gv:Nat}{w w':World}(e:U/B64^j/m=gv) (hb:RowF w' g 94 (wq (U-B64^j*(gv*m))) N) (ho:w.grownBy w' (some g)):DigitQ U j m N g w (.returned (.int .u64 gv)) w':=
 ⟨by rw [e],by rw [e];exact hb,ho⟩
theorem aHh (A:Option Addr) (c m n g j cu U N:Nat) (w:World) (h:RW w A (n+2) c m) (hU:RowF w g 94 (wq U) N) (hj:j+n+3≤N) (hN:N≤34359738368) (hu:U/B64^j<B64^(n+3)) (hcu:n+3≤cu)
 (hm0:0<m) (hq:U/B64^j<m*B64) (hA:∀b o,A=some ⟨b,o,none⟩→b≠g) (hbig:wq m (n+1)≤wq U (j+(n+2))) :
 Calls Tryz.prog 107 #[.slice (some ⟨g,j,none⟩) (n+3) cu,.slice A (n+2) c] w (DigitQ U j m N g w):=by
 have hql:U/B64^j/m<18446744073709551616:=by rw [qj hm0,oa];exact hq
 obtain⟨q,hQ⟩:∃q,q=U/B64^j/m:=⟨_,rfl⟩;rw [←hQ]at hql;have HQ:=ou hQ;clear hQ;have hc1:w.cell? ⟨g,j+(n+2),none⟩=some (.int .u64 (wq U (j+(n+2)))):=by exact hU.cell oq
 obtain⟨b1,o1,rfl,hb1,hcv⟩:=h.at_ oq;have hc2:w.cell? ⟨b1,o1+(n+1),none⟩=some (.int .u64 (wq m (n+1))):=hcv (n+1) oq;have hdec:decide (wq U (j+(n+2))<wq m (n+1))=false:=decide_eq_false oq;have HU:=ou hU;have HR:=ou h;clear hU h hcv
 go_enter Tryz.func107,Tryz.ntmps107
 go_wp2_with fail
 go_quiet (fail)
 go_wp2_with fail
 go_loopw [6] (fun gs wr=>∃gv:Nat,gs=.int .u64 gv∧q≤gv∧gv<18446744073709551616∧RowF wr g 94 (wq U) N∧RW wr (some ⟨b1,o1,none⟩) (n+2) c m∧w.grownBy wr (some g)) (fun gs _=>(intOf gs).toNat)
 case atStart=>exact⟨18446744073709551615,rfl,oq,oq,HU.out.drewN _,HR.out.drewN _,tN (World.grownBy.refl _ _) _⟩
 case round=>
  obtain⟨gv,rfl,hge,hgl,hb,hr,ho⟩:=hrel;have HT:=ou (wL (some ⟨b1,o1,none⟩) c m (n+2) gv g j cu U N wr hr hb oq oq hu hcu hgl hA)
  by_cases ht:gv*m≤U/B64^j
  ·have e:q=gv:=by rw [HQ.out]at hge ⊢;exact Nat.le_antisymm hge ((zy hm0).2 ht)
   have HE:=ou e;have HTT:=ou ht;clear e ht hge hb hr
   go_wp2_with fail
   refine HT.out.mono ?_;rintro e w' ⟨rfl,hb1,ho1⟩;rw [decide_eq_true HTT.out];rw [og HTT.out]at hb1;have HB1:=ou hb1;clear hb1
   go_wp2_with fail
   go_ret
   exact DigitQ.mk (HQ.out.symm.trans HE.out) HB1.out (jP ho ho1)
  ·have hlt:q<gv:=by
    refine vu fun hle=>ht ?_;rw [HQ.out]at hle;exact (zy hm0).1 hle
   have HTT:=ou ht;clear ht hge hb
   go_wp2_with fail
   refine HT.out.mono ?_;rintro e w' ⟨rfl,hb1,ho1⟩;rw [decide_eq_false HTT.out];rw [oh HTT.out]at hb1;have HB1:=ou hb1;clear hb1
   go_wp2_with fail
   go_roundw
   case rel=>(repeat apply Exists.intro);exact⟨⟨gv-1,by go_num,oq,oq,HB1.out,hr.grown ho1 hA,jP ho ho1⟩,rfl⟩
   case measure=>simp [intOf];omega
theorem zR {p m n:Nat}(_hm0:0<m) (hm:m<B64^(n+2)) (hp:p<B64^(n+3)) (hlt:wq p (n+2)<wq m (n+1)) :
 p/m≤(wq p (n+2)*18446744073709551616+wq p (n+1)) / wq m (n+1)∧
 ∀g r:Nat,g*wq m (n+1)+r=wq p (n+2)*18446744073709551616+wq p (n+1)→r*18446744073709551616+wq p n<g*wq m n→p/m<g:=by
 have hv:=top1 (b:=B64) (n:=n+1) hm;have hv2:=top2 (b:=B64) (n:=n) hm;have h2:=top2 (b:=B64) (n:=n+1) hp;have h3:=top3 (b:=B64) (n:=n) hp;have p1:0<B64^(n+1):=oc aG;have p0:0<B64^n:=oc aG;have a1:wq m (n+1)*B64^(n+1)≤m:=by
  show wd B64 m (n+1)*B64^(n+1)≤m;rw [←hv];exact vj _ _
 have a2:p<(wq p (n+2)*18446744073709551616+wq p (n+1)+1)*B64^(n+1):=by
  have:=oC (x:=p) p1;rw [h2]at this;exact this
 have a3:(wq m (n+1)*18446744073709551616+wq m n)*B64^n≤m:=by
  have:=vj m (B64^n);rw [hv2]at this;exact this
 have a4:p<((wq p (n+2)*18446744073709551616+wq p (n+1))*18446744073709551616+wq p n+1)*B64^n:=by
  have:=oC (x:=p) p0;rw [h3]at this;exact this
 refine⟨pG a1 oq a2 (vj _ _),fun g r hr ht=>?_⟩;refine vu fun hle=>?_;exact tH a3 a4 hr ht (qr (ol m hle) (vj _ _))
