/- Walks: division of package exact's natural numbers, the long one. -/
import Derived.Test.YthiaclljcnincaaGreatApDigit
set_option maxHeartbeats 2000000
set_option maxRecDepth 100000
namespace Go.Proofs.YthiaclljcnincaaGreat
open Go.RowKit Num
def aZl (a b:Nat) (w:World) (e:Ending) (w':World):Prop:=
 (∃v1 v2,e=.returned (.tuple #[v1,v2])∧LV w' v1 (a/b)∧LV w' v2 (a % b))∧Below w.heap.size w w'
theorem aMd {b n s:Nat}(hn:nw b=n) (h2:0<n) (hs:s+bl (wq b (n-1))=64):nw (b*2^s)=n:=by
 have hP:0<2^s:=oc oq;have hlt:=dA b;rw [hn]at hlt;obtain⟨k,rfl⟩:∃k,n=k+1:=⟨n-1,oq⟩;rw [wu]at hs;have ht:=top1 (b:=B64) hlt;have hb:=mE (wq b k);have h1:=oC (x:=b) (oc (n:=k) aG);rw [ht]at h1;have e:B64^(k+1)=B64^k*(2^bl (wq b k)*2^s):=by
  rw [jj,←jt,show bl (wq b k)+s=64 by omega];rfl
 refine kI ⟨?_,fun _=>?_⟩
 ·rw [e];have h3:b*2^s<(wq b k+1)*B64^k*2^s:=jr h1 hP;refine qy h3 ?_;rw [oa (wq b k+1),jl];exact qn _ (ol _ hb)
 ·have h4:=(cJ b).le oq;rw [hn]at h4;exact qr h4 (zl _ hP)
def ukq (a m k:Nat):Nat:=a-a/m/B64^k*(B64^k*m)
theorem pU (a m k:Nat) (hm:0<m):a=ukq a m k+a/m/B64^k*(B64^k*m)∧ukq a m k<B64^k*m:=by
 have hp:=oc (n:=k) aG;have h1:a/m/B64^k*(B64^k*m)≤a:=by
  rw [←jl];exact qr (ol m (vj _ _)) (vj _ _)
 have h2:a<(a/m/B64^k+1)*(B64^k*m):=by
  have h3:=oC (x:=a/m) hp;have h4:=oC (x:=a) hm;rw [←jl];exact qy h4 (ol m h3)
 rw [jo,yv]at h2;unfold ukq;omega
theorem aVt {a m k:Nat}(h:a/m<B64^k):ukq a m k=a:=by
 unfold ukq;rw [qa h];simp
theorem aQy (a m:Nat):ukq a m 0=a % m:=by
 unfold ukq;rw [ke,yw,yv];have:=jf a m;rw [oa]at this;omega
theorem aQx (a m k:Nat) (hm:0<m):ukq a m (k+1)=ukq a m k+B64^k*(wq (a/m) k*m):=by
 have h1:=(pU a m k hm).1;have h2:=(pU a m (k+1) hm).1;have h3:=dK (b:=B64) (a/m) k;have e:a/m/B64^k*(B64^k*m)=a/m/B64^(k+1)*(B64^(k+1)*m)+B64^k*(wq (a/m) k*m):=by
  rw [h3,jo,jj];unfold wq
  congr 1 <;> ac_rfl
 omega
theorem aKx (a m k:Nat) (hm:0<m):ukq a m (k+1) / B64^k/m=wq (a/m) k∧ukq a m (k+1)-B64^k*(wq (a/m) k*m)=ukq a m k∧ukq a m (k+1) / B64^k<m*B64:=by
 have hp:=oc (n:=k) aG;have h1:=aQx a m k hm;have h2:=(pU a m k hm).2;have h3:ukq a m k/B64^k<m:=by rw [qj hp,oa];exact h2
 have e:ukq a m (k+1) / B64^k=ukq a m k/B64^k+m*wq (a/m) k:=by rw [h1,jg _ _ hp,oa m]
 refine⟨by rw [e,jg _ _ hm,qa h3,qc],oq,?_⟩;rw [e];have h4:=bN (a/m) k;have h5:m*(wq (a/m) k+1)≤m*B64:=qn m h4;rw [zu]at h5;omega
theorem aHg (A:Option Addr) (c m n g j cu U N:Nat) (w:World) (h:RW w A (n+2) c m) (hU:RowF w g 94 (wq U) N) (hj:j+n+3≤N) (hN:N≤34359738368) (hcu:n+3≤cu)
 (hm0:0<m) (hq:U/B64^j<m*B64) (hA:∀b o,A=some ⟨b,o,none⟩→b≠g) :
 Calls Tryz.prog 107 #[.slice (some ⟨g,j,none⟩) (n+3) cu,.slice A (n+2) c] w (DigitQ U j m N g w):=by
 have hu:U/B64^j<B64^(n+3):=by
  refine qy hq ?_;rw [jj];exact ol _ (yp h.lt)
 by_cases hb:wq m (n+1)≤wq U (j+(n+2))
 ·exact aHh A c m n g j cu U N w h hU hj hN hu hcu hm0 hq hA hb
 ·exact zU A c m n g j cu U N w h hU hj hN hu hcu hm0 hq hA oq
theorem aHj {m L:Nat}(h:m<B64^L) (i:Nat) (hi:i<0+L+1):(([]++oB m L)++[Value.int .u64 0])[i]?=some (.int .u64 (wq m i)):=by
 rw [wn]
 by_cases h1:i<L
 ·rw [vf (by rw [jC];exact h1),vO _ h1]
 ·have:i=L:=oq
  subst this;rw [vk (by rw [jC];omega),jC,Nat.sub_self,show wq m i=0 from kC h];rfl
theorem zW (A A':Option Addr) (c c' a b n s:Nat) (w:World) (h:LR w A c a) (h':LR w A' c' b) (hn:nw b=n+2) (hle:b≤a) (hb:nw a≤8589934592) (hs:s+bl (wq b (n+1))=64) :
 Calls Tryz.prog 79 #[.slice A (nw a) c,.slice A' (n+2) c'] w (aZl a b w):=by
 have hnm:=aMd hn oq hs;have hab:n+2≤nw a:=by rw [←hn];exact aY (jm hle (dA a))
 have hcmp:=rT A A' c c' a b w h h' oq oq;rw [hn]at hcmp;have hc0:0≤gE a b:=by
  unfold gE
  by_cases e:a=b
  ·rw [oh oq,og e];decide
  ·rw [oh oq,oh e];decide
 have hn1:((n:Int)+2 == 1)=false:=by simp;omega
 have ht:=bN b (n+1);have hs64:s≤64:=oq
 have HS:=ou hs;have HC:=ou hcmp;have HNM:=ou hnm;have HN:=ou hn;clear hs hcmp hnm;have h'':RW w A' (n+2) c' b:=by have:=h';unfold LR at this;rwa [hn]at this
 obtain⟨b2,o2,rfl,hb2,hc2⟩:=h''.at_ oq;have hx:w.cell? ⟨b2,o2+(n+1),none⟩=some (.int .u64 (wq b (n+1))):=hc2 (n+1) oq;have HL:=ou h;have HL':=ou h';clear h h' h'' hc2 hn
 go_enter Tryz.func79,Tryz.ntmps79
 go_wp2_with fail
 refine HC.out.mono ?_;rintro e w' ⟨rfl,d,rfl⟩
 go_wp2_with fail
 refine (aMx _ s _ ht HS.out).mono ?_;rintro e w' ⟨rfl,rfl⟩
 go_wp2_with fail
 have hl:=aAj (some ⟨b2,o2,none⟩) c' b s (w.drewN d) (HL'.out.drewN d) (by rw [HN.out];omega) oq;rw [HN.out]at hl;refine hl.mono ?_;clear hl;rintro e w1 ⟨⟨v,rfl,A1,c1,rfl,hv⟩,hbel1⟩;rw [HNM.out]
 go_wp2_with fail
 have ha1:LR (w1.alloc (.cells #[] 94)) A c a:=by
  have:=(HL.out.drewN d).below hbel1;exact RW.below this ((Below.refl _ _).alloc (oy _) _)
 refine (aAj A c a s _ ha1 oq oq).mono ?_;rintro e w2 ⟨⟨v,rfl,A2,c2,rfl,hu⟩,hbel2⟩;have hown0:=fT (World.ownsRow_lit (base:=w1.heap.size) (e:=94) (size:=1) w1 #[] 0 (oy _) (by unfold maxLen;omega) rfl) hbel2;have hL0:0<nw (a*2^s):=by
  refine zx fun e=>?_;have h1:=bS.1 e;have h3:0<a:=by
   refine zx fun e=>?_;subst e;rw [nw_zero]at hab;omega
  have:=zg h3 (oc (n:=s) (show 0<2 by omega));omega
 have hLn:nw (a*2^s)≤nw a+1:=by
  refine aY ?_;rw [jj];exact Nat.mul_lt_mul_of_lt_of_le (dA a) (by rw [mK];exact qb oq hs64) aG
 have hLl:n+2≤nw (a*2^s):=qr hab (aY (jm (zl _ (oc oq)) (dA _)));obtain⟨L,hL⟩:∃L,L=nw (a*2^s):=⟨_,rfl⟩;have hu':RW w2 A2 L c2 (a*2^s):=by rw [hL];exact hu
 rw [←hL]at hL0 hLn hLl ⊢;have HLe:=ou hL;clear hL hu;obtain⟨b3,o3,rfl,hb3,hc3⟩:=hu'.at_ hL0;obtain⟨i0,hi,hz0,hz1,hz2⟩:=info_parts info64;have HCells:=aAl (n:=L) hc3;have HOne:=aIa (a*2^s) L;have HC2:=ou HCells;have HO2:=ou HOne;have HOwn0:=ou hown0;have HV:=ou hv;have HU:=ou hu'.lt;have hw1:=hbel1.size;have hw2:=hbel2.size;simp only [wy]at hw2;have hmk:=fG (L+1-(n+2)) (L+1-(n+2)) (oy _) oq oq;rw [show ((L+1-(n+2):Nat):Int)=(L:Int)+1-((n:Int)+2) by omega]at hmk;have HI:=ou hi;have HZ0:=ou hz0;have HZ1:=ou hz1;have HZ2:=ou hz2;clear HCells HOne hown0 hv hc3 hu' hi hz0 hz1 hz2 ha1
 go_wp2_with (first
  | (at_builtin;refine wpList_append_own _ rfl (.tmp 45) (.tmp 48) 31 rfl w1.heap.size 94 i0 (.int .u64 0) 1 8 Tryz.underlying31 HI.out HZ0.out HZ1.out HZ2.out rfl oz (.slice (some ⟨w1.heap.size,0,none⟩) 0 0) 0 [] rfl HOwn0.out ⟨b3,o3,none⟩ L c2 (oB (a*2^s) L) rfl (by rw [jC,js]) HC2.out HO2.out (by unfold maxLen;omega) oq oq ?_;intro v3 w3 hown3 hgrow3 hat3)
  | (at_builtin;refine wpList_append_own _ rfl (.tmp 49) (.tmp 50) 31 rfl w1.heap.size 94 i0 (.int .u64 0) 1 8 Tryz.underlying31 HI.out HZ0.out HZ1.out HZ2.out rfl oz v3 (0+L) _ rfl (hown3.alloc _) ⟨w3.heap.size,0,none⟩ 1 1 [.int .u64 0] rfl rfl (cell_one_new _ _ _) (by intro u hu;simp at hu;subst hu;rfl) (by unfold maxLen;omega) oq (by have:=hgrow3.size;simp;omega) ?_;intro v4 w4 hown4 hgrow4 hat4;obtain⟨g,cap,rfl,hgb,hcap,hrow⟩:=aNy (f:=wq (a*2^s)) hown4 oq (aHj HU.out);clear hown4 hat4;have hcapp:=hcap))
 have hr3:∀k,v3.ownBlock=some k→w1.heap.size≤k:=fun k hk=>(hown3.lt k hk).1;have hs3:=hgrow3.size;have hs4:=hgrow4.size;simp only [wy]at hs4;have h14:Below w1.heap.size w1 w4:=
  ((((Below.refl _ _).alloc (oy _) _).trans (hbel2.mono (by simp))).grown hgrow3 oq (fun k hk=>by simp [Value.ownBlock]at hk;omega)).alloc oq _ |>.grown hgrow4 (by simp;omega) hr3
 have hw4:Below w.heap.size w w4:=((cX (Below.refl _ _) d).trans hbel1).trans (h14.mono (by simpa using hw1));have hV4:RW w4 A1 (n+2) c1 (b*2^s):=by
  have:=RW.below HV.out h14
  rwa [HNM.out]at this
 have hA1:∀b' o,A1=some ⟨b',o,none⟩→b'≠g:=by
  intro b' o e;obtain⟨b5,o5,e5,hb5,_⟩:=HV.out.at_ (by rw [HNM.out];omega);rw [e5]at e;injection e with e;injection e with e;omega
 have hAq0:∀b' o,A1=some ⟨b',o,none⟩→b'<w1.heap.size:=by
  intro b' o e;obtain⟨b5,o5,e5,hb5,_⟩:=HV.out.at_ (by rw [HNM.out];omega);rw [e5]at e;injection e with e;injection e with e;omega
 have hm0:0<b*2^s:=(cJ _).pos aG (by rw [HNM.out];omega);have hql:a*2^s/(b*2^s)<B64^(L-(n+1)):=by
  rw [qj hm0];refine qy HU.out ?_;have h3:=(cJ (b*2^s)).le (by rw [HNM.out];omega);rw [HNM.out]at h3;have h4:=qn (B64^(L-(n+1))) h3
  rwa [←jt,show L-(n+1)+(n+2-1)=L by omega]at h4
 have hgw:g<w4.heap.size:=hrow.lt;have hgw0:w.heap.size≤g:=by have:=hbel1.size;simp at this;omega
 have HQL:=ou hql;have HSm:s≤17179869184:=oq
 have HLs:Hid (∀wf:World,Below w.heap.size w wf→LV wf (.slice A1 (n+2) c1) (b*2^s)→True):=fun _ _ _=>trivial;obtain⟨qq,hqq⟩:∃qq,qq=w4.heap.size:=⟨_,rfl⟩;have hw5:Below w.heap.size w (w4.alloc (.cells (dN 0 (L-(n+1))) 94)):=hw4.alloc hw4.size _;have hblk5:Blk (w4.alloc (.cells (dN 0 (L-(n+1))) 94)) qq 94 (dN 0 (L-(n+1))):=by rw [hqq];exact Blk.new _ _ _
 have hrow5:RowF (w4.alloc (.cells (dN 0 (L-(n+1))) 94)) g 94 (wq (a*2^s)) (L+1):=(hrow.alloc _).less oq;have hV5:RW (w4.alloc (.cells (dN 0 (L-(n+1))) 94)) A1 (n+2) c1 (b*2^s):=hV4.below ((Below.refl _ _).alloc (oy _) _);have hqg:qq≠g:=oq
 have hAq:∀b' o,A1=some ⟨b',o,none⟩→b'≠(⟨qq,0,none⟩:Addr).block:=fun b' o e=>by have h1:=hAq0 b' o e;have h2:=h14.size;show b'≠qq;omega
 have hqw:w.heap.size≤qq:=by have:=hw4.size;omega
 rw [←hqq];generalize w4.alloc (.cells (dN 0 (L-(n+1))) 94)=w5 at *
 clear hAq0;clear hV4 hmk hw4 h14 hrow hr3 hs3 hs4 hgrow3 hgrow4 hown3 hat3 HOwn0 HO2 HC2 hbel2 hbel1 HV HI HZ0 HZ1 HZ2 hcap hw1 hw2 hb3 hb2 hx hgw hqq hgb HC;generalize hA':a*2^s=a' at *
 generalize hM:b*2^s=m at *
 have HA':=ou hA';have HM:=ou hM;clear hA' hM
 go_loopw [13] (fun i wr=>∃k:Nat,k≤L-(n+1)∧i=.int .i64 ((k:Int)-1)∧RowF wr g 94 (wq (ukq a' m k)) (L+1)∧Blk wr qq 94 (gT (a' / m) k (L-(n+1)))∧RW wr A1 (n+2) c1 m∧Below w.heap.size w wr) (fun i _=>(intOf i+1).toNat)
 case atStart=>exact⟨L-(n+1),oy _,rfl,by rw [aVt HQL.out];exact hrow5,by rw [mI];exact hblk5,hV5,hw5⟩
 case round=>
  obtain⟨k,hk,rfl,hrow,hblk,hV,hbel⟩:=hrel;clear hrow5 hblk5 hV5 hw5;rcases ju k with h0|h0
  ·subst h0;rw [aQy]at hrow;rw [qP]at hblk;have hrq:=RW.ofBlk hblk (oy _) HQL.out;have hmod:a' % m<B64^(L+1):=by
    refine qy (qg _ hm0) (qr (yp hV.lt) (qb aG oq))
   have hru:=RW.ofRowAt (j:=0) (n:=L+1) (c:=cap) hrow oq oq (by rw [ke,yw];exact hmod);rw [ke,yw]at hru
   go_wp2_with fail
   refine (fX _ _ _ _ _ hrq oq).mono ?_;rintro e w' ⟨rfl,rfl⟩
   go_wp2_with fail
   refine (fX _ _ _ _ _ hru oq).mono ?_;rintro e w' ⟨rfl,rfl⟩
   go_wp2_with fail
   have hnm:=aY hmod;refine (aKc _ _ _ s _ hru.toLR oq oq).mono ?_;rintro e w6 ⟨⟨v,rfl,A6,c6,rfl,h6⟩,hbel6⟩;have hq6:=hrq.toLR.below hbel6;have hfin:a' / m=a/b∧a' % m/2^s=a % b:=by
    have hP:0<2^s:=oc oq;rw [←HA'.out,←HM.out,Nat.mul_div_mul_right _ _ hP,Nat.mul_mod_mul_right,Nat.mul_div_cancel _ hP];exact⟨rfl,rfl⟩
   rw [hfin.1]at hq6 ⊢;rw [hfin.2]at h6 ⊢;have HQ6:=ou hq6;have H6:=ou h6;clear hq6 h6 hfin hru hrq hmod hrow hblk hV
   go_wp2_with fail
   go_ret2
   exact⟨⟨_,_,rfl,HQ6.out.lv,H6.out.lv⟩,hbel.trans (hbel6.mono hbel.size)⟩
  ·obtain⟨k,rfl⟩:∃j,k=j+1:=⟨k-1,oq⟩;obtain⟨u1,u2,u3⟩:=aKx a' m k hm0;have ek:((k+1:Nat):Int)-1=(k:Int):=oq
   rw [ek];have HD:=ou (aHg A1 c1 m n g k (cap-k) (ukq a' m (k+1)) (L+1) wr hV hrow oq oq oq hm0 u3 hA1);have U1:=ou u1;have U2:=ou u2;have HB:=ou hblk;have HRo:=ou hrow;clear u1 u2 u3 hblk hrow
   go_wp2_with fail
   rw [show k+(n+2)+1-k=n+3 by omega];refine HD.out.mono ?_;clear HD;rintro e w' ⟨rfl,hrow',ho⟩;rw [U1.out]at hrow' ⊢;rw [U2.out]at hrow';have hb':=HB.out.grown ho (by simp;omega);have hbel':Below w.heap.size w w':=hbel.grown ho hbel.size (fun j hj=>by cases hj;exact hgw0);have hV':=hV.grown ho hA1;have hout:w'.cell? ⟨qq,k,none⟩=some (.int .u64 0):=by rw [hb'.cell,qQ _ oq oq]
   have hfr:w'.frozen? ⟨qq,k,none⟩=false:=hb'.frozen k;have HB':=ou hb';have HR':=ou hrow';have HV':=ou hV';clear hb' hrow' hV' hV HB HRo
   go_wp2_with fail
   go_roundw
   case rel=>exact⟨k,oq,rfl,HR'.out.far (p:=⟨qq,k,none⟩) (fun e=>hqg e.symm) _,by have:=HB'.out.set_ k (.int .u64 (wq (a' / m) k));rw [qR]at this;exact this,HV'.out.setFar hAq _,hbel'.setCell hqw _⟩
   case measure=>simp [intOf]
theorem sV (A A':Option Addr) (c c' a b:Nat) (w:World) (h:LR w A c a) (h':LR w A' c' b) (hb0:0<b) (hb:nw a≤8589934592) (hb':nw b≤8589934592) :
 Calls Tryz.prog 79 #[.slice A (nw a) c,.slice A' (nw b) c'] w (aZl a b w):=by
 have hcmp:=rT A A' c c' a b w h h' oq oq;have hnb:nw b≠0:=fun e=>by have:=bS.1 e;omega
 by_cases hlt:a<b
 ·have hc:gE a b=-1:=by rw [gE,og hlt]
  rw [hc]at hcmp;have HC:=ou hcmp;have HV:Hid (LV w (.slice A (nw a) c) (a % b)):=by unfold Hid;rw [oi hlt];exact h.lv
  have HQ:Hid (a/b=0):=qa hlt;clear hcmp hc h h';generalize nw a=na at *
  generalize nw b=nb at *
  go_enter Tryz.func79,Tryz.ntmps79
  go_wp2_with fail
  refine HC.out.mono ?_;rintro e w' ⟨rfl,d,rfl⟩
  go_wp2_with fail
  go_ret2
  exact⟨⟨_,_,rfl,by rw [HQ.out];exact LV.nil,HV.out.below (cX (Below.refl _ _) _)⟩,cX (Below.refl _ _) _⟩
 ·have hc:0≤gE a b:=by
   unfold gE
   by_cases e:a=b
   ·rw [oh oq,og e];decide
   ·rw [oh oq,oh e];decide
  by_cases h1:nw b=1
  ·have hlen:=cJ b;rw [h1]at hlen hcmp;have hv:=hlen.val1;have hb64:b<18446744073709551616:=by have:=hlen.lt;rwa [yx]at this
   obtain⟨b2,o2,rfl,hb2,hc2⟩:=h'.at_ oq;have hx:w.cell? ⟨b2,o2,none⟩=some (.int .u64 (b:Nat)):=by
    have:=hc2 0 oq
    rwa [jh,show wq b 0=b from hv]at this
   have HC:=ou hcmp;have HBW:=ou (fun d=>zK A c a (nw a) b (w.drewN d) (h.drewN d) oq hb0 hb64);have HML:a % b<18446744073709551616:=yh (qg _ hb0) hb64;rw [h1];clear hcmp h h' hc2 hlen hv h1 hnb;generalize nw a=na at *
   go_enter Tryz.func79,Tryz.ntmps79
   go_wp2_with fail
   refine HC.out.mono ?_;rintro e w' ⟨rfl,d,rfl⟩
   go_wp2_with fail
   refine (HBW.out d).mono ?_;rintro e w1 ⟨⟨v,rfl,hv⟩,hbel⟩;have HR:=ou HML;have HV:=ou hv;clear HML hv;generalize hr:a % b=r at *
   have HRr:=ou hr;clear hr
   go_wp2_with fail
   refine (uN r w1 (by rw [←HRr.out];exact yh (qg _ hb0) hb64)).mono ?_;rintro e w2 ⟨⟨v2,rfl,hv2⟩,hbel2⟩;have HV2:=ou hv2;clear hv2
   go_wp2_with fail
   go_ret2
   exact⟨⟨_,_,rfl,HV.out.below hbel2,by rw [HRr.out];exact HV2.out⟩,(cX (Below.refl _ _) d).trans (hbel.trans (hbel2.mono hbel.size))⟩
  ·obtain⟨n,hn⟩:∃n,nw b=n+2:=⟨nw b-2,oq⟩;have ht:=bN b (n+1);have:=aZw ht;rw [hn];exact zW A A' c c' a b n (64-bl (wq b (n+1))) w h h' hn oq hb oq
