/- Several texts in one. (Printed by prep.py.) -/
import Derived.Test.YtifcjpacobpdmaaGreatTtG
namespace Go.Proofs.YtifcjpacobpdmaaGreat
open Go.RowKit Num
open Sy (Up Sees CallsG Seg)
structure Q4 where
 (a b c d:Rat)
theorem Q4.ext' {x y:Q4}(h1:x.a=y.a) (h2:x.b=y.b) (h3:x.c=y.c) (h4:x.d=y.d):x=y:=by cases x;cases y;simp_all
def mkQ (x0 x1 x2 x3:Int) (m:Nat):Q4:=⟨mkRat x0 m,mkRat x1 m,mkRat x2 m,mkRat x3 m⟩
def gcd5 (m a b c d:Nat):Nat:=Nat.gcd (Nat.gcd (Nat.gcd (Nat.gcd m a) b) c) d
def mk9 (c0 c1 c2 c3:Array Value) (s:Value):Array Value:=(c0.toList++(c1.toList++(c2.toList++(c3.toList++(s :: []))))).toArray
def SurdV (k:World) (cs:Array Value) (v:Q4) (K:Nat):Prop:=
 ∃(c0 c1 c2 c3:Array Value) (D:Option Addr) (d e:Nat) (y0 y1 y2 y3:Int) (m:Nat),cs=mk9 c0 c1 c2 c3 (.slice D d e)∧0<m∧gcd5 m y0.natAbs y1.natAbs y2.natAbs y3.natAbs=1∧v=mkQ y0 y1 y2 y3 m∧
  IntV k c0 y0 K∧IntV k c1 y1 K∧IntV k c2 y2 K∧IntV k c3 y3 K∧LimR k D d e (if m=1 then 0 else m)∧d≤K
theorem SurdV.up {k k':World}{cs:Array Value}{v:Q4}{K:Nat}(h:SurdV k cs v K) (u:Up k k'):SurdV k' cs v K:=by
 obtain⟨c0,c1,c2,c3,D,d,e,y0,y1,y2,y3,m,h1,h2,h3,h4,i0,i1,i2,i3,l,hd⟩:=h;exact⟨c0,c1,c2,c3,D,d,e,y0,y1,y2,y3,m,h1,h2,h3,h4,i0.up u,i1.up u,i2.up u,i3.up u,l.up u,hd⟩
theorem SurdV.mono {k:World}{cs:Array Value}{v:Q4}{K L:Nat}(h:SurdV k cs v K) (u:K≤L):SurdV k cs v L:=by
 obtain⟨c0,c1,c2,c3,D,d,e,y0,y1,y2,y3,m,h1,h2,h3,h4,i0,i1,i2,i3,l,hd⟩:=h;exact⟨c0,c1,c2,c3,D,d,e,y0,y1,y2,y3,m,h1,h2,h3,h4,i0.mono u,i1.mono u,i2.mono u,i3.mono u,l,oq⟩
theorem SurdV.seg {k:World}{cs:Array Value}{v:Q4}{K:Nat}(h:SurdV k cs v K):Seg 9 cs:=by
 obtain⟨c0,c1,c2,c3,D,d,e,y0,y1,y2,y3,m,rfl,h2,h3,h4,⟨_,_,_,_,rfl,_⟩,⟨_,_,_,_,rfl,_⟩,⟨_,_,_,_,rfl,_⟩,⟨_,_,_,_,rfl,_⟩,l,hd⟩:=h;exact⟨rfl,by simp [mk9,Value.scalar,Value.noWord]⟩
theorem LimR.len_le {k k':World}{A A':Option Addr}{n n' c c' a b:Nat}(h:LimR k A n c a) (h':LimR k' A' n' c' b) (hab:a≤b):n≤n':=by
 rw [h.len,h'.len];exact gX hab
theorem IntR.div {k:World}{b:Bool}{A B:Option Addr}{n c j d:Nat}{x:Int}{g:Nat}(h:IntR k b A n c x) (hl:LimR k B j d (x.natAbs/g)) (hg:(g:Int) ∣ x) (h0:0<g):IntR k b B j d (x/g):=by
 obtain⟨q,rfl⟩:=hg;have hg0:(g:Int)≠0:=oq
 have e:((g:Int)*q) / g=q:=Int.mul_ediv_cancel_left q hg0;have e2:((g:Int)*q).natAbs/g=q.natAbs:=by rw [xi,za,Nat.mul_div_cancel_left _ h0]
 rw [e];rw [e2]at hl;refine⟨?_,hl⟩;rw [h.neg];rw [decide_eq_decide];constructor
 ·intro hh;rcases Int.lt_or_le q 0 with h1|h1
  ·exact h1
  ·have:=Int.mul_nonneg (show (0:Int)≤g by omega) h1;omega
 ·intro hh;exact Int.mul_neg_of_pos_of_neg oq hh
theorem kL {x:Int}{m g:Nat}(hx:(g:Int) ∣ x) (hm:g ∣ m) (h0:0<g) (hm0:0<m):mkRat (x/g) (m/g)=mkRat x m:=by
 obtain⟨q,rfl⟩:=hx;obtain⟨p,rfl⟩:=hm;have hg0:(g:Int)≠0:=oq
 rw [Int.mul_ediv_cancel_left q hg0,Nat.mul_div_cancel_left _ h0];exact (Rat.mkRat_mul_left oq).symm
theorem xX (m a b c d:Nat):gcd5 m a b c d ∣ m∧gcd5 m a b c d ∣ a∧gcd5 m a b c d ∣ b∧gcd5 m a b c d ∣ c∧gcd5 m a b c d ∣ d:=by
 unfold gcd5;have h1:=wy (Nat.gcd (Nat.gcd (Nat.gcd m a) b) c) d;have h2:=wy (Nat.gcd (Nat.gcd m a) b) c;have h3:=wy (Nat.gcd m a) b;have t12:=yl h1 h2;have t13:=yl t12 h3;exact⟨yl t13 (wy _ _),yl t13 (ki _ _),yl t12 (ki _ _),yl h1 (ki _ _),ki _ _⟩
theorem aIw {m a b c d g:Nat}(hg:g=gcd5 m a b c d) (h0:0<g):gcd5 (m/g) (a/g) (b/g) (c/g) (d/g)=1:=by
 obtain⟨d1,d2,d3,d4,d5⟩:=xX m a b c d;rw [←hg]at d1 d2 d3 d4 d5;unfold gcd5 at hg ⊢;have e1:Nat.gcd (m/g) (a/g)=Nat.gcd m a/g:=Nat.gcd_div d1 d2;have k1:g ∣ Nat.gcd m a:=xl d1 d2;have e2:Nat.gcd (Nat.gcd m a/g) (b/g)=Nat.gcd (Nat.gcd m a) b/g:=Nat.gcd_div k1 d3;have k2:g ∣ Nat.gcd (Nat.gcd m a) b:=xl k1 d3;have e3:Nat.gcd (Nat.gcd (Nat.gcd m a) b/g) (c/g)=Nat.gcd (Nat.gcd (Nat.gcd m a) b) c/g:=Nat.gcd_div k2 d4;have k3:g ∣ Nat.gcd (Nat.gcd (Nat.gcd m a) b) c:=xl k2 d4;rw [e1,e2,e3,Nat.gcd_div k3 d5,←hg,Nat.div_self h0]
theorem gW {x:Int}{g:Nat}(h:g ∣ x.natAbs) (_h0:0<g):(x/g).natAbs=x.natAbs/g:=by
 rw [Int.natAbs_ediv_of_dvd (by rw [ze];exact h),za]
theorem aPm {x0 x1 x2 x3:Int}{m g:Nat}(h0:0<g) (hm0:0<m) (dm:g ∣ m) (d0:g ∣ x0.natAbs) (d1:g ∣ x1.natAbs) (d2:g ∣ x2.natAbs) (d3:g ∣ x3.natAbs):mkQ (x0/g) (x1/g) (x2/g) (x3/g) (m/g)=mkQ x0 x1 x2 x3 m:=by
 unfold mkQ;rw [kL (ze.2 d0) dm h0 hm0,kL (ze.2 d1) dm h0 hm0,kL (ze.2 d2) dm h0 hm0,kL (ze.2 d3) dm h0 hm0]
section
variable {k:World}{R:World→Value→Prop}{K:Nat}
theorem aLw {c0 c1 c2 c3:Array Value}{x0 x1 x2 x3:Int}{A:Option Addr}{n c m:Nat}(h0:IntV k c0 x0 K) (h1:IntV k c1 x1 K) (h2:IntV k c2 x2 K) (h3:IntV k c3 x3 K) (hm:LimR k A n c m) (hm0:0<m) (hn:n≤K) (hK:K≤1073741824)
 (C:∀k' ds,Up k k'→SurdV k' ds (mkQ x0 x1 x2 x3 m) K→R k' (.agg ds)) :
 Cl k 107 #[.agg (c0.toList++(c1.toList++(c2.toList++(c3.toList++([]))))).toArray,.slice A n c] R:=by
 intro k0 u0;replace C:=fun k' ds (u:Up k0 k')=>C k' ds (u0.trans u);replace hm:=hm.up u0;obtain⟨b0,A0,n0,e0,rfl,i0,l0⟩:=h0.up u0;obtain⟨b1,A1,n1,e1,rfl,i1,l1⟩:=h1.up u0;obtain⟨b2,A2,n2,e2,rfl,i2,l2⟩:=h2.up u0;obtain⟨b3,A3,n3,e3,rfl,i3,l3⟩:=h3.up u0;clear h0 h1 h2 h3 u0;obtain⟨d0,d1,d2,d3,d4⟩:=xX m x0.natAbs x1.natAbs x2.natAbs x3.natAbs;have hg0:0<gcd5 m x0.natAbs x1.natAbs x2.natAbs x3.natAbs:=Nat.pos_of_dvd_of_pos d0 hm0;refine aQp ?_;refine aDh hm i0.lim oq oq ?_;intro k1 B1 j1 f1 u1 g1 _;refine⟨B1,j1,f1,rfl,?_⟩;have q1:j1≤n:=g1.len_le hm (Nat.gcd_le_left _ hm0);have p1:0<Nat.gcd m x0.natAbs:=wv _ hm0;refine aDh g1 (i1.up u1).lim oq oq ?_;intro k2 B2 j2 f2 u2 g2 _;refine⟨B2,j2,f2,rfl,?_⟩;have q2:j2≤j1:=g2.len_le g1 (Nat.gcd_le_left _ p1);have p2:0<Nat.gcd (Nat.gcd m x0.natAbs) x1.natAbs:=wv _ p1;have u2:=u1.trans u2;refine aDh g2 (i2.up u2).lim oq oq ?_;intro k3 B3 j3 f3 u3 g3 _;refine⟨B3,j3,f3,rfl,?_⟩;have q3:j3≤j2:=g3.len_le g2 (Nat.gcd_le_left _ p2);have p3:0<Nat.gcd (Nat.gcd (Nat.gcd m x0.natAbs) x1.natAbs) x2.natAbs:=wv _ p2;have u3:=u2.trans u3;refine aDh g3 (i3.up u3).lim oq oq ?_;intro k4 B4 j4 f4 u4 g4 _;refine⟨B4,j4,f4,rfl,?_⟩;have q4:j4≤j3:=g4.len_le g3 (Nat.gcd_le_left _ p3);have u4:=u3.trans u4;have hgdef:gcd5 m x0.natAbs x1.natAbs x2.natAbs x3.natAbs=Nat.gcd (Nat.gcd (Nat.gcd (Nat.gcd m x0.natAbs) x1.natAbs) x2.natAbs) x3.natAbs:=rfl;rw [←hgdef]at g4;have hdiv:=aIw (m:=m) (a:=x0.natAbs) (b:=x1.natAbs) (c:=x2.natAbs) (d:=x3.natAbs) rfl hg0;have hmq:=aPm hg0 hm0 d0 d1 d2 d3 d4;have n0':=gW d1 hg0;have n1':=gW d2 hg0;have n2':=gW d3 hg0;have n3':=gW d4 hg0;obtain⟨G,hG⟩:∃G,gcd5 m x0.natAbs x1.natAbs x2.natAbs x3.natAbs=G:=⟨_,rfl⟩;have hone:=hgdef;rw [hG]at g4 hdiv hmq d0 d1 d2 d3 d4 hg0 n0' n1' n2' n3';clear g1 g2 g3 hone hgdef;refine vK g4 oq ?_;intro k5 u5;refine⟨_,rfl,?_⟩;have u5':=u4.trans u5;refine⟨fun hb=>?_,fun hb=>?_⟩
 ·have hG1:G≠1:=by simpa using hb
  clear hb;refine jK (i0.up u5').lim (g4.up u5) hg0 oq oq ?_;intro k6 D0 m0 o0 E0 s0 t0 u6 w0 _ y0 _;refine⟨D0,m0,o0,E0,s0,t0,rfl,?_⟩;have v6:=u5'.trans u6;refine jK (i1.up v6).lim ((g4.up u5).up u6) hg0 oq oq ?_;intro k7 D1 m1 o1 E1 s1 t1 u7 w1 _ y1 _;refine⟨D1,m1,o1,E1,s1,t1,rfl,?_⟩;have v7:=v6.trans u7;refine jK (i2.up v7).lim (((g4.up u5).up u6).up u7) hg0 oq oq ?_;intro k8 D2 m2 o2 E2 s2 t2 u8 w2 _ y2 _;refine⟨D2,m2,o2,E2,s2,t2,rfl,?_⟩;have v8:=v7.trans u8;refine jK (i3.up v8).lim ((((g4.up u5).up u6).up u7).up u8) hg0 oq oq ?_;intro k9 D3 m3 o3 E3 s3 t3 u9 w3 _ y3 _;refine⟨D3,m3,o3,E3,s3,t3,rfl,?_⟩;have v9:=v8.trans u9;refine jK (hm.up v9) (((((g4.up u5).up u6).up u7).up u8).up u9) hg0 oq oq ?_;intro k10 D4 m4 o4 E4 s4 t4 u10 w4 _ y4 _;refine⟨D4,m4,o4,E4,s4,t4,rfl,?_⟩;have v10:=v9.trans u10;replace w0:=(((w0.up u7).up u8).up u9).up u10;replace w1:=((w1.up u8).up u9).up u10;replace w2:=(w2.up u9).up u10;replace w3:=w3.up u10;refine vK w4 oq ?_;intro k11 u11;refine⟨_,rfl,?_⟩;have v11:=v10.trans u11;have z0:=(i0.up v11).div (w0.up u11) (ze.2 d1) hg0;have z1:=(i1.up v11).div (w1.up u11) (ze.2 d2) hg0;have z2:=(i2.up v11).div (w2.up u11) (ze.2 d3) hg0;have z3:=(i3.up v11).div (w3.up u11) (ze.2 d4) hg0;have hpos:0<m/G:=Nat.div_pos (Nat.le_of_dvd hm0 d0) hg0;refine⟨fun hb=>?_,fun hb=>?_⟩
  ·intro k12 u12;have hm1:m/G=1:=by simpa using hb
   exact C k12 _ (v11.trans u12) ⟨_,_,_,_,none,0,0,x0/G,x1/G,x2/G,x3/G,m/G,rfl,hpos,by rw [n0',n1',n2',n3'];exact hdiv,hmq.symm,
    ⟨_,_,_,_,rfl,z0.up u12,oq⟩,⟨_,_,_,_,rfl,z1.up u12,oq⟩,⟨_,_,_,_,rfl,z2.up u12,oq⟩,⟨_,_,_,_,rfl,z3.up u12,oq⟩,by rw [og hm1];exact LimR.nil,oq⟩
  ·intro k12 u12;have hm1:m/G≠1:=by simpa using hb
   exact C k12 _ (v11.trans u12) ⟨_,_,_,_,D4,m4,o4,x0/G,x1/G,x2/G,x3/G,m/G,rfl,hpos,by rw [n0',n1',n2',n3'];exact hdiv,hmq.symm,
    ⟨_,_,_,_,rfl,z0.up u12,oq⟩,⟨_,_,_,_,rfl,z1.up u12,oq⟩,⟨_,_,_,_,rfl,z2.up u12,oq⟩,⟨_,_,_,_,rfl,z3.up u12,oq⟩,by rw [oh hm1];exact (w4.up u11).up u12,oq⟩
 ·have hG1:G=1:=by simpa using hb
  clear hb;refine vK (hm.up u5') oq ?_;intro k6 u6;refine⟨_,rfl,?_⟩;have v6:=u5'.trans u6;refine⟨fun hb=>?_,fun hb=>?_⟩
  ·intro k7 u7;have v7:=v6.trans u7;have hm1:m=1:=by simpa using hb
   exact C k7 _ v7 ⟨_,_,_,_,none,0,0,x0,x1,x2,x3,m,rfl,hm0,by rw [hG,hG1],rfl,
    ⟨_,_,_,_,rfl,i0.up v7,oq⟩,⟨_,_,_,_,rfl,i1.up v7,oq⟩,⟨_,_,_,_,rfl,i2.up v7,oq⟩,⟨_,_,_,_,rfl,i3.up v7,oq⟩,by rw [og hm1];exact LimR.nil,oq⟩
  ·intro k7 u7;have v7:=v6.trans u7;have hm1:m≠1:=by simpa using hb
   exact C k7 _ v7 ⟨_,_,_,_,A,n,c,x0,x1,x2,x3,m,rfl,hm0,by rw [hG,hG1],rfl,
    ⟨_,_,_,_,rfl,i0.up v7,oq⟩,⟨_,_,_,_,rfl,i1.up v7,oq⟩,⟨_,_,_,_,rfl,i2.up v7,oq⟩,⟨_,_,_,_,rfl,i3.up v7,oq⟩,by rw [oh hm1];exact hm.up v7,oq⟩
end
open IntKind (wrap)
def Q4.add (x y:Q4):Q4:=⟨x.a+y.a,x.b+y.b,x.c+y.c,x.d+y.d⟩
def Q4.neg (x:Q4):Q4:=⟨-x.a,-x.b,-x.c,-x.d⟩
def Q4.mul (x y:Q4):Q4:=⟨x.a*y.a+2*(x.b*y.b)+3*(x.c*y.c)+6*(x.d*y.d),x.a*y.b+x.b*y.a+3*(x.c*y.d+x.d*y.c),x.a*y.c+x.c*y.a+2*(x.b*y.d+x.d*y.b),x.a*y.d+x.d*y.a+x.b*y.c+x.c*y.b⟩
def Q4.sub (x y:Q4):Q4:=x.add y.neg
def Q4.zero:Q4:=⟨0,0,0,0⟩
def Q4.real (x:Rat):Q4:=⟨x,0,0,0⟩
theorem jT (x:Int) {m:Nat}(_h:0<m):mkRat x m=(x:Rat) / (m:Rat):=by
 rw [wj]
theorem rS (x y:Int) {m n:Nat}(hm:0<m) (hn:0<n):mkRat (x*n+y*m) (m*n)=mkRat x m+mkRat y n:=by
 rw [Rat.mkRat_add_mkRat _ _ oq oq]
theorem rT (x:Int) (m:Nat):mkRat (-x) m=- mkRat x m:=by rw [Rat.neg_mkRat]
theorem aAu (x y:Int) (m n:Nat):mkRat (x*y) (m*n)=mkRat x m*mkRat y n:=by rw [Rat.mkRat_mul_mkRat]
theorem aFr (x y:Int) {m:Nat}(hm:0<m):mkRat (x+y) m=mkRat x m+mkRat y m:=by
 rw [jT _ hm,jT _ hm,jT _ hm,Rat.intCast_add,Rat.div_def,Rat.div_def,Rat.div_def,Rat.add_mul]
theorem oV (x:Int) (c:Nat) {m:Nat}(hm:0<m):mkRat (x*c) m=(c:Rat)*mkRat x m:=by
 rw [jT _ hm,jT _ hm,Rat.intCast_mul,Rat.div_def,Rat.div_def,←Rat.mul_assoc,Rat.mul_comm (c:Rat)];rfl
section
variable {k:World}{R:World→Value→Prop}{K:Nat}{cs cs':Array Value}{v v':Q4}
theorem SurdV.cells {k:World}{cs:Array Value}{v:Q4}{K:Nat}(h:SurdV k cs v K):∃(c0 c1 c2 c3:Array Value) (D:Option Addr) (d e:Nat),cs=mk9 c0 c1 c2 c3 (.slice D d e)∧Seg 2 c0∧Seg 2 c1∧Seg 2 c2∧Seg 2 c3:=by
 obtain⟨c0,c1,c2,c3,D,d,e,y0,y1,y2,y3,m,h1,h2,h3,h4,i0,i1,i2,i3,l,hd⟩:=h;exact⟨c0,c1,c2,c3,D,d,e,h1,i0.seg,i1.seg,i2.seg,i3.seg⟩
theorem jG (hx:SurdV k cs v K) (hy:SurdV k cs' v' K) (hK1:1≤K) (hK:K≤268435456) (C:∀k' ds,Up k k'→SurdV k' ds (v.add v') (2*K+1)→R k' (.agg ds)) :
 Cl k 36 #[.agg cs,.agg cs'] R:=by
 obtain⟨c0,c1,c2,c3,D,d,e,x0,x1,x2,x3,m,rfl,hm,hg,rfl,i0,i1,i2,i3,lx,hd⟩:=hx;obtain⟨c0',c1',c2',c3',D',d',e',y0,y1,y2,y3,n,rfl,hn,hg',rfl,j0,j1,j2,j3,ly,hd'⟩:=hy;intro k0 u0;replace i0:=i0.up u0;replace i1:=i1.up u0;replace i2:=i2.up u0;replace i3:=i3.up u0;replace lx:=lx.up u0;replace j0:=j0.up u0;replace j1:=j1.up u0;replace j2:=j2.up u0;replace j3:=j3.up u0;replace ly:=ly.up u0;replace C:=fun k' ds u=>C k' ds (u0.trans u);refine aNm i0.seg i1.seg i2.seg i3.seg j0.seg j1.seg j2.seg j3.seg ?_;refine hC lx hm (L:=K) hd hK1 oq ?_;intro k1 D1 d1 e1 u1 lx' hd1;refine⟨D1,d1,e1,rfl,?_⟩;replace i0:=i0.up u1;replace i1:=i1.up u1;replace i2:=i2.up u1;replace i3:=i3.up u1;replace j0:=j0.up u1;replace j1:=j1.up u1;replace j2:=j2.up u1;replace j3:=j3.up u1;replace ly:=ly.up u1;replace C:=fun k' ds u=>C k' ds (u1.trans u);refine hC ly hn (L:=K) hd' hK1 oq ?_;intro k2 D2 d2 e2 u2 ly' hd2;refine⟨D2,d2,e2,rfl,?_⟩;replace i0:=i0.up u2;replace i1:=i1.up u2;replace i2:=i2.up u2;replace i3:=i3.up u2;replace j0:=j0.up u2;replace j1:=j1.up u2;replace j2:=j2.up u2;replace j3:=j3.up u2;replace lx':=lx'.up u2;replace C:=fun k' ds u=>C k' ds (u2.trans u);refine fI i0 ly' oq hd2 oq ?_;intro k3 cA0 u3 a0;refine⟨cA0,a0.seg,rfl,?_⟩;replace i1:=i1.up u3;replace i2:=i2.up u3;replace i3:=i3.up u3;replace j0:=j0.up u3;replace j1:=j1.up u3;replace j2:=j2.up u3;replace j3:=j3.up u3;replace lx':=lx'.up u3;replace ly':=ly'.up u3;replace C:=fun k' ds u=>C k' ds (u3.trans u);refine fI j0 lx' oq hd1 oq ?_;intro k4 cB0 u4 b0;refine⟨cB0,b0.seg,rfl,?_⟩;replace i1:=i1.up u4;replace i2:=i2.up u4;replace i3:=i3.up u4;replace j1:=j1.up u4;replace j2:=j2.up u4;replace j3:=j3.up u4;replace lx':=lx'.up u4;replace ly':=ly'.up u4;replace a0:=a0.up u4;replace C:=fun k' ds u=>C k' ds (u4.trans u);refine cL a0 b0 (M:=2*K) oq oq oq ?_;intro k5 cC0 u5 z0;refine⟨cC0,z0.seg,rfl,?_⟩;replace i1:=i1.up u5;replace i2:=i2.up u5;replace i3:=i3.up u5;replace j1:=j1.up u5;replace j2:=j2.up u5;replace j3:=j3.up u5;replace lx':=lx'.up u5;replace ly':=ly'.up u5;replace C:=fun k' ds u=>C k' ds (u5.trans u);refine fI i1 ly' oq hd2 oq ?_;intro k6 cA1 u6 a1;refine⟨cA1,a1.seg,rfl,?_⟩;replace i2:=i2.up u6;replace i3:=i3.up u6;replace j1:=j1.up u6;replace j2:=j2.up u6;replace j3:=j3.up u6;replace lx':=lx'.up u6;replace ly':=ly'.up u6;replace z0:=z0.up u6;replace C:=fun k' ds u=>C k' ds (u6.trans u);refine fI j1 lx' oq hd1 oq ?_;intro k7 cB1 u7 b1;refine⟨cB1,b1.seg,rfl,?_⟩;replace i2:=i2.up u7;replace i3:=i3.up u7;replace j2:=j2.up u7;replace j3:=j3.up u7;replace lx':=lx'.up u7;replace ly':=ly'.up u7;replace z0:=z0.up u7;replace a1:=a1.up u7;replace C:=fun k' ds u=>C k' ds (u7.trans u);refine cL a1 b1 (M:=2*K) oq oq oq ?_;intro k8 cC1 u8 z1;refine⟨cC1,z1.seg,rfl,?_⟩;replace i2:=i2.up u8;replace i3:=i3.up u8;replace j2:=j2.up u8;replace j3:=j3.up u8;replace lx':=lx'.up u8
 replace ly':=ly'.up u8;replace z0:=z0.up u8;replace C:=fun k' ds u=>C k' ds (u8.trans u);refine fI i2 ly' oq hd2 oq ?_;intro k9 cA2 u9 a2;refine⟨cA2,a2.seg,rfl,?_⟩;replace i3:=i3.up u9;replace j2:=j2.up u9;replace j3:=j3.up u9;replace lx':=lx'.up u9;replace ly':=ly'.up u9;replace z0:=z0.up u9;replace z1:=z1.up u9;replace C:=fun k' ds u=>C k' ds (u9.trans u);refine fI j2 lx' oq hd1 oq ?_;intro k10 cB2 u10 b2;refine⟨cB2,b2.seg,rfl,?_⟩;replace i3:=i3.up u10;replace j3:=j3.up u10;replace lx':=lx'.up u10;replace ly':=ly'.up u10;replace z0:=z0.up u10;replace z1:=z1.up u10;replace a2:=a2.up u10;replace C:=fun k' ds u=>C k' ds (u10.trans u);refine cL a2 b2 (M:=2*K) oq oq oq ?_;intro k11 cC2 u11 z2;refine⟨cC2,z2.seg,rfl,?_⟩;replace i3:=i3.up u11;replace j3:=j3.up u11;replace lx':=lx'.up u11;replace ly':=ly'.up u11;replace z0:=z0.up u11;replace z1:=z1.up u11;replace C:=fun k' ds u=>C k' ds (u11.trans u);refine fI i3 ly' oq hd2 oq ?_;intro k12 cA3 u12 a3;refine⟨cA3,a3.seg,rfl,?_⟩;replace j3:=j3.up u12;replace lx':=lx'.up u12;replace ly':=ly'.up u12;replace z0:=z0.up u12;replace z1:=z1.up u12;replace z2:=z2.up u12;replace C:=fun k' ds u=>C k' ds (u12.trans u);refine fI j3 lx' oq hd1 oq ?_;intro k13 cB3 u13 b3;refine⟨cB3,b3.seg,rfl,?_⟩;replace lx':=lx'.up u13;replace ly':=ly'.up u13;replace z0:=z0.up u13;replace z1:=z1.up u13;replace z2:=z2.up u13;replace a3:=a3.up u13;replace C:=fun k' ds u=>C k' ds (u13.trans u);refine cL a3 b3 (M:=2*K) oq oq oq ?_;intro k14 cC3 u14 z3;refine⟨cC3,z3.seg,rfl,?_⟩;replace lx':=lx'.up u14;replace ly':=ly'.up u14;replace z0:=z0.up u14;replace z1:=z1.up u14;replace z2:=z2.up u14;replace C:=fun k' ds u=>C k' ds (u14.trans u);refine aEe lx' ly' oq oq ?_;intro k15 D3 d3 e3 u15 lm hd3;refine⟨D3,d3,e3,rfl,?_⟩;replace z0:=z0.up u15;replace z1:=z1.up u15;replace z2:=z2.up u15;replace z3:=z3.up u15;replace C:=fun k' ds u=>C k' ds (u15.trans u);refine aLw z0 z1 z2 z3 lm (xk hm hn) oq oq ?_;intro k17 ds u17 hs;obtain⟨c0,c1,c2,c3,D,d,e,hcs,h9⟩:=hs.cells;refine⟨c0,h9.1,c1,h9.2.1,c2,h9.2.2.1,c3,h9.2.2.2,D,d,e,by rw [hcs];rfl,?_⟩;intro k18 u18;have hv:mkQ (x0*n+y0*m) (x1*n+y1*m) (x2*n+y2*m) (x3*n+y3*m) (m*n)=(mkQ x0 x1 x2 x3 m).add (mkQ y0 y1 y2 y3 n):=by
  unfold mkQ Q4.add;simp only [rS _ _ hm hn]
 have:=C k18 ds (u17.trans u18) (by rw [←hv];exact hs.up u18);rw [hcs]at this;exact this
theorem dZ (hx:SurdV k cs v K) (hK:K≤268435456) (C:∀k' ds,Up k k'→SurdV k' ds v.neg K→R k' (.agg ds)) :
 Cl k 41 #[.agg cs] R:=by
 obtain⟨c0,c1,c2,c3,D,d,e,x0,x1,x2,x3,m,rfl,hm,hg,rfl,i0,i1,i2,i3,lx,hd⟩:=hx;intro k0 u0;replace i0:=i0.up u0;replace i1:=i1.up u0;replace i2:=i2.up u0;replace i3:=i3.up u0;replace lx:=lx.up u0;replace C:=fun k' ds u=>C k' ds (u0.trans u);refine aNo i0.seg i1.seg i2.seg i3.seg ?_;refine mN i0 oq ?_;intro k1 cA0 u1 a0;refine⟨cA0,a0.seg,rfl,?_⟩;replace i1:=i1.up u1;replace i2:=i2.up u1;replace i3:=i3.up u1;replace lx:=lx.up u1;replace C:=fun k' ds u=>C k' ds (u1.trans u);refine mN i1 oq ?_;intro k2 cA1 u2 a1;refine⟨cA1,a1.seg,rfl,?_⟩;replace i2:=i2.up u2;replace i3:=i3.up u2;replace lx:=lx.up u2;replace a0:=a0.up u2;replace C:=fun k' ds u=>C k' ds (u2.trans u);refine mN i2 oq ?_;intro k3 cA2 u3 a2;refine⟨cA2,a2.seg,rfl,?_⟩;replace i3:=i3.up u3;replace lx:=lx.up u3;replace a0:=a0.up u3;replace a1:=a1.up u3;replace C:=fun k' ds u=>C k' ds (u3.trans u);refine mN i3 oq ?_;intro k4 cA3 u4 a3;refine⟨cA3,a3.seg,rfl,?_⟩;replace lx:=lx.up u4;replace a0:=a0.up u4;replace a1:=a1.up u4;replace a2:=a2.up u4;replace C:=fun k' ds u=>C k' ds (u4.trans u);intro k5 u5;replace lx:=lx.up u5;replace a0:=a0.up u5;replace a1:=a1.up u5;replace a2:=a2.up u5;replace a3:=a3.up u5;refine C _ _ u5 ⟨cA0,cA1,cA2,cA3,D,d,e,-x0,-x1,-x2,-x3,m,rfl,hm,by simp only [Int.natAbs_neg];exact hg,?_,a0,a1,a2,a3,lx,hd⟩;unfold mkQ Q4.neg;simp only [rT]
theorem qL (hx:SurdV k cs v K) (hy:SurdV k cs' v' K) (hK1:1≤K) (hK:K≤268435456) (C:∀k' ds,Up k k'→SurdV k' ds (v.sub v') (2*K+1)→R k' (.agg ds)) :
 Cl k 102 #[.agg cs,.agg cs'] R:=by
 intro k0 u0;replace hx:=hx.up u0;replace hy:=hy.up u0;replace C:=fun k' ds u=>C k' ds (u0.trans u);refine aNq hx.seg hy.seg ?_;refine dZ hy oq ?_;intro k1 cA u1 a;refine⟨cA,a.seg,rfl,?_⟩;replace hx:=hx.up u1;replace C:=fun k' ds u=>C k' ds (u1.trans u);refine jG hx a hK1 oq ?_;intro k2 cB u2 b;refine⟨cB,b.seg,rfl,?_⟩;replace C:=fun k' ds u=>C k' ds (u2.trans u);intro k3 u3;replace b:=b.up u3;exact C _ _ u3 b
theorem eJ {x:Int}{m:Nat}(h:0<m):mkRat x m=0↔x=0:=by
 rw [Rat.mkRat_eq_zero oq]
theorem lX {x:Int}(h0:0≤x) (h1:x<9223372036854775808):wrap .i64 x=x:=by rw [jv];omega
theorem aNs (hx:SurdV k cs v K) (hK:K≤268435456) (C:∀k',Up k k'→∀b,(b=true↔v=Q4.zero)→R k' (.bool b)) :
 Cl k 111 #[.agg cs] R:=by
 intro k0 u0;obtain⟨c0,c1,c2,c3,D,d,e,x0,x1,x2,x3,m,rfl,hm,hg,rfl,⟨b0,A0,n0,e0,rfl,i0,l0⟩,⟨b1,A1,n1,e1,rfl,i1,l1⟩,⟨b2,A2,n2,e2,rfl,i2,l2⟩,⟨b3,A3,n3,e3,rfl,i3,l3⟩,lx,hd⟩:=hx;have hcs:mk9 #[.bool b0,.slice A0 n0 e0] #[.bool b1,.slice A1 n1 e1] #[.bool b2,.slice A2 n2 e2] #[.bool b3,.slice A3 n3 e3] (.slice D d e)=#[.bool b0,.slice A0 n0 e0,.bool b1,.slice A1 n1 e1,.bool b2,.slice A2 n2 e2,.bool b3,.slice A3 n3 e3,.slice D d e]:=rfl;rw [hcs];refine aHx ⟨rfl,rfl,rfl,rfl,?_⟩;intro k1 u1;refine C _ (u0.trans u1) _ ?_;have q0:=i0.lim.zero_iff;have q1:=i1.lim.zero_iff;have q2:=i2.lim.zero_iff;have q3:=i3.lim.zero_iff;have e:wrap .i64 (wrap .i64 (wrap .i64 ((n0:Nat)+(n1:Nat))+(n2:Nat))+(n3:Nat))=((n0+n1+n2+n3:Nat):Int):=by
  rw [lX (x:=(n0:Nat)+(n1:Nat)) oq oq,lX (x:=(n0:Nat)+(n1:Nat)+(n2:Nat)) oq oq,lX (x:=(n0:Nat)+(n1:Nat)+(n2:Nat)+(n3:Nat)) oq oq];omega
 clear C hcs;rw [e,beq_iff_eq];unfold mkQ Q4.zero;rw [Q4.mk.injEq,eJ hm,eJ hm,eJ hm,eJ hm];omega
theorem aNp (hx:SurdV k cs v K) (hy:SurdV k cs' v' K) (hK1:1≤K) (hK:K≤134217727) (C:∀k',Up k k'→∀b,(b=true↔v.sub v'=Q4.zero)→R k' (.bool b)) :
 Cl k 40 #[.agg cs,.agg cs'] R:=by
 intro k0 u0;replace hx:=hx.up u0;replace hy:=hy.up u0;replace C:=fun k'  u=>C k'  (u0.trans u);refine aHv hx.seg hy.seg ?_;refine qL hx hy hK1 oq ?_;intro k1 cA u1 a;refine⟨cA,a.seg,rfl,?_⟩;replace C:=fun k'  u=>C k'  (u1.trans u);refine aNs a oq ?_;intro k2  u2 b hb;refine⟨b,rfl,?_⟩;replace C:=fun k'  u=>C k'  (u2.trans u);intro k3 u3;exact C _ u3 _ hb
end
open Value (agg slice int bool tuple)
open Sy (Up Sees CallsG Seg execFn_use)
set_option maxRecDepth 100000
variable {k:World}{R:World→Value→Prop}{cs0 cs1 cs2 cs3 cs5 cs6 cs7 cs8:Array Value}{p4 p9:Nat}
theorem aNw (hcs0:Seg 2 cs0) (hcs1:Seg 2 cs1) (hcs2:Seg 2 cs2) (hcs3:Seg 2 cs3) (hcs5:Seg 2 cs5) (hcs6:Seg 2 cs6) (hcs7:Seg 2 cs7) (hcs8:Seg 2 cs8) (hB4:Sy.Blk k p4 33 (cs0.toList++(cs1.toList++(cs2.toList++(cs3.toList++([]))))).toArray) (hB9:Sy.Blk k p9 33 (cs5.toList++(cs6.toList++(cs7.toList++(cs8.toList++([]))))).toArray)
 (h:Cl k 200 #[agg cs0,agg cs5] fun k1 r0=>Gt 2 r0 fun cs10=>
 Rt R k1 (agg cs10)) :
  CallsG Tryz.prog 199 #[int .i64 0,int .i64 0,Value.pointer (some ⟨p4,0,none⟩),Value.pointer (some ⟨p9,0,none⟩)] k R:=
  Sy.execFn_use_heap (cfg:={ opq:=[32] }) (args:=[.one (.lit (.int .i64 (0))),.one (.lit (.int .i64 (0))),.one (.ptr 0 0),.one (.ptr 1 0)]) (vals:=[agg cs0,agg cs1,agg cs2,agg cs3,(Value.pointer (some ⟨p4,0,none⟩)),agg cs5,agg cs6,agg cs7,agg cs8,(Value.pointer (some ⟨p9,0,none⟩))]) (kinds:=[.seg 2,.seg 2,.seg 2,.seg 2,.any,.seg 2,.seg 2,.seg 2,.seg 2,.any]) (blks:=[p4,p9]) (heap:=[{ ty:=33,cells:=[.seg 0 2,.seg 1 2,.seg 2 2,.seg 3 2],pub:=true,pv:=4 },{ ty:=33,cells:=[.seg 5 2,.seg 6 2,.seg 7 2,.seg 8 2],pub:=true,pv:=9 }]) ox ⟨⟨cs0,rfl,hcs0⟩,⟨cs1,rfl,hcs1⟩,⟨cs2,rfl,hcs2⟩,⟨cs3,rfl,hcs3⟩,⟨rfl,rfl⟩,⟨cs5,rfl,hcs5⟩,⟨cs6,rfl,hcs6⟩,⟨cs7,rfl,hcs7⟩,⟨cs8,rfl,hcs8⟩,⟨rfl,rfl⟩,trivial⟩ ox ⟨⟨rfl,⟨cs0.toList++(cs1.toList++(cs2.toList++(cs3.toList++([])))),by kernel_rfl,hB4⟩,by kernel_rfl⟩,⟨rfl,⟨cs5.toList++(cs6.toList++(cs7.toList++(cs8.toList++([])))),by kernel_rfl,hB9⟩,by kernel_rfl⟩,trivial⟩ ox h
theorem aNx (hcs0:Seg 2 cs0) (hcs1:Seg 2 cs1) (hcs2:Seg 2 cs2) (hcs3:Seg 2 cs3) (hcs5:Seg 2 cs5) (hcs6:Seg 2 cs6) (hcs7:Seg 2 cs7) (hcs8:Seg 2 cs8) (hB4:Sy.Blk k p4 33 (cs0.toList++(cs1.toList++(cs2.toList++(cs3.toList++([]))))).toArray) (hB9:Sy.Blk k p9 33 (cs5.toList++(cs6.toList++(cs7.toList++(cs8.toList++([]))))).toArray)
 (h:Cl k 200 #[agg cs0,agg cs6] fun k1 r0=>Gt 2 r0 fun cs10=>
 Rt R k1 (agg cs10)) :
  CallsG Tryz.prog 199 #[int .i64 0,int .i64 1,Value.pointer (some ⟨p4,0,none⟩),Value.pointer (some ⟨p9,0,none⟩)] k R:=
  Sy.execFn_use_heap (cfg:={ opq:=[32] }) (args:=[.one (.lit (.int .i64 (0))),.one (.lit (.int .i64 (1))),.one (.ptr 0 0),.one (.ptr 1 0)]) (vals:=[agg cs0,agg cs1,agg cs2,agg cs3,(Value.pointer (some ⟨p4,0,none⟩)),agg cs5,agg cs6,agg cs7,agg cs8,(Value.pointer (some ⟨p9,0,none⟩))]) (kinds:=[.seg 2,.seg 2,.seg 2,.seg 2,.any,.seg 2,.seg 2,.seg 2,.seg 2,.any]) (blks:=[p4,p9]) (heap:=[{ ty:=33,cells:=[.seg 0 2,.seg 1 2,.seg 2 2,.seg 3 2],pub:=true,pv:=4 },{ ty:=33,cells:=[.seg 5 2,.seg 6 2,.seg 7 2,.seg 8 2],pub:=true,pv:=9 }]) ox ⟨⟨cs0,rfl,hcs0⟩,⟨cs1,rfl,hcs1⟩,⟨cs2,rfl,hcs2⟩,⟨cs3,rfl,hcs3⟩,⟨rfl,rfl⟩,⟨cs5,rfl,hcs5⟩,⟨cs6,rfl,hcs6⟩,⟨cs7,rfl,hcs7⟩,⟨cs8,rfl,hcs8⟩,⟨rfl,rfl⟩,trivial⟩ ox ⟨⟨rfl,⟨cs0.toList++(cs1.toList++(cs2.toList++(cs3.toList++([])))),by kernel_rfl,hB4⟩,by kernel_rfl⟩,⟨rfl,⟨cs5.toList++(cs6.toList++(cs7.toList++(cs8.toList++([])))),by kernel_rfl,hB9⟩,by kernel_rfl⟩,trivial⟩ ox h
theorem aNy (hcs0:Seg 2 cs0) (hcs1:Seg 2 cs1) (hcs2:Seg 2 cs2) (hcs3:Seg 2 cs3) (hcs5:Seg 2 cs5) (hcs6:Seg 2 cs6) (hcs7:Seg 2 cs7) (hcs8:Seg 2 cs8) (hB4:Sy.Blk k p4 33 (cs0.toList++(cs1.toList++(cs2.toList++(cs3.toList++([]))))).toArray) (hB9:Sy.Blk k p9 33 (cs5.toList++(cs6.toList++(cs7.toList++(cs8.toList++([]))))).toArray)
 (h:Cl k 200 #[agg cs0,agg cs7] fun k1 r0=>Gt 2 r0 fun cs10=>
 Rt R k1 (agg cs10)) :
  CallsG Tryz.prog 199 #[int .i64 0,int .i64 2,Value.pointer (some ⟨p4,0,none⟩),Value.pointer (some ⟨p9,0,none⟩)] k R:=
  Sy.execFn_use_heap (cfg:={ opq:=[32] }) (args:=[.one (.lit (.int .i64 (0))),.one (.lit (.int .i64 (2))),.one (.ptr 0 0),.one (.ptr 1 0)]) (vals:=[agg cs0,agg cs1,agg cs2,agg cs3,(Value.pointer (some ⟨p4,0,none⟩)),agg cs5,agg cs6,agg cs7,agg cs8,(Value.pointer (some ⟨p9,0,none⟩))]) (kinds:=[.seg 2,.seg 2,.seg 2,.seg 2,.any,.seg 2,.seg 2,.seg 2,.seg 2,.any]) (blks:=[p4,p9]) (heap:=[{ ty:=33,cells:=[.seg 0 2,.seg 1 2,.seg 2 2,.seg 3 2],pub:=true,pv:=4 },{ ty:=33,cells:=[.seg 5 2,.seg 6 2,.seg 7 2,.seg 8 2],pub:=true,pv:=9 }]) ox ⟨⟨cs0,rfl,hcs0⟩,⟨cs1,rfl,hcs1⟩,⟨cs2,rfl,hcs2⟩,⟨cs3,rfl,hcs3⟩,⟨rfl,rfl⟩,⟨cs5,rfl,hcs5⟩,⟨cs6,rfl,hcs6⟩,⟨cs7,rfl,hcs7⟩,⟨cs8,rfl,hcs8⟩,⟨rfl,rfl⟩,trivial⟩ ox ⟨⟨rfl,⟨cs0.toList++(cs1.toList++(cs2.toList++(cs3.toList++([])))),by kernel_rfl,hB4⟩,by kernel_rfl⟩,⟨rfl,⟨cs5.toList++(cs6.toList++(cs7.toList++(cs8.toList++([])))),by kernel_rfl,hB9⟩,by kernel_rfl⟩,trivial⟩ ox h
theorem aNz (hcs0:Seg 2 cs0) (hcs1:Seg 2 cs1) (hcs2:Seg 2 cs2) (hcs3:Seg 2 cs3) (hcs5:Seg 2 cs5) (hcs6:Seg 2 cs6) (hcs7:Seg 2 cs7) (hcs8:Seg 2 cs8) (hB4:Sy.Blk k p4 33 (cs0.toList++(cs1.toList++(cs2.toList++(cs3.toList++([]))))).toArray) (hB9:Sy.Blk k p9 33 (cs5.toList++(cs6.toList++(cs7.toList++(cs8.toList++([]))))).toArray)
 (h:Cl k 200 #[agg cs0,agg cs8] fun k1 r0=>Gt 2 r0 fun cs10=>
 Rt R k1 (agg cs10)) :
  CallsG Tryz.prog 199 #[int .i64 0,int .i64 3,Value.pointer (some ⟨p4,0,none⟩),Value.pointer (some ⟨p9,0,none⟩)] k R:=
  Sy.execFn_use_heap (cfg:={ opq:=[32] }) (args:=[.one (.lit (.int .i64 (0))),.one (.lit (.int .i64 (3))),.one (.ptr 0 0),.one (.ptr 1 0)]) (vals:=[agg cs0,agg cs1,agg cs2,agg cs3,(Value.pointer (some ⟨p4,0,none⟩)),agg cs5,agg cs6,agg cs7,agg cs8,(Value.pointer (some ⟨p9,0,none⟩))]) (kinds:=[.seg 2,.seg 2,.seg 2,.seg 2,.any,.seg 2,.seg 2,.seg 2,.seg 2,.any]) (blks:=[p4,p9]) (heap:=[{ ty:=33,cells:=[.seg 0 2,.seg 1 2,.seg 2 2,.seg 3 2],pub:=true,pv:=4 },{ ty:=33,cells:=[.seg 5 2,.seg 6 2,.seg 7 2,.seg 8 2],pub:=true,pv:=9 }]) ox ⟨⟨cs0,rfl,hcs0⟩,⟨cs1,rfl,hcs1⟩,⟨cs2,rfl,hcs2⟩,⟨cs3,rfl,hcs3⟩,⟨rfl,rfl⟩,⟨cs5,rfl,hcs5⟩,⟨cs6,rfl,hcs6⟩,⟨cs7,rfl,hcs7⟩,⟨cs8,rfl,hcs8⟩,⟨rfl,rfl⟩,trivial⟩ ox ⟨⟨rfl,⟨cs0.toList++(cs1.toList++(cs2.toList++(cs3.toList++([])))),by kernel_rfl,hB4⟩,by kernel_rfl⟩,⟨rfl,⟨cs5.toList++(cs6.toList++(cs7.toList++(cs8.toList++([])))),by kernel_rfl,hB9⟩,by kernel_rfl⟩,trivial⟩ ox h
theorem aOa (hcs0:Seg 2 cs0) (hcs1:Seg 2 cs1) (hcs2:Seg 2 cs2) (hcs3:Seg 2 cs3) (hcs5:Seg 2 cs5) (hcs6:Seg 2 cs6) (hcs7:Seg 2 cs7) (hcs8:Seg 2 cs8) (hB4:Sy.Blk k p4 33 (cs0.toList++(cs1.toList++(cs2.toList++(cs3.toList++([]))))).toArray) (hB9:Sy.Blk k p9 33 (cs5.toList++(cs6.toList++(cs7.toList++(cs8.toList++([]))))).toArray)
 (h:Cl k 200 #[agg cs1,agg cs5] fun k1 r0=>Gt 2 r0 fun cs10=>
 Rt R k1 (agg cs10)) :
  CallsG Tryz.prog 199 #[int .i64 1,int .i64 0,Value.pointer (some ⟨p4,0,none⟩),Value.pointer (some ⟨p9,0,none⟩)] k R:=
  Sy.execFn_use_heap (cfg:={ opq:=[32] }) (args:=[.one (.lit (.int .i64 (1))),.one (.lit (.int .i64 (0))),.one (.ptr 0 0),.one (.ptr 1 0)]) (vals:=[agg cs0,agg cs1,agg cs2,agg cs3,(Value.pointer (some ⟨p4,0,none⟩)),agg cs5,agg cs6,agg cs7,agg cs8,(Value.pointer (some ⟨p9,0,none⟩))]) (kinds:=[.seg 2,.seg 2,.seg 2,.seg 2,.any,.seg 2,.seg 2,.seg 2,.seg 2,.any]) (blks:=[p4,p9]) (heap:=[{ ty:=33,cells:=[.seg 0 2,.seg 1 2,.seg 2 2,.seg 3 2],pub:=true,pv:=4 },{ ty:=33,cells:=[.seg 5 2,.seg 6 2,.seg 7 2,.seg 8 2],pub:=true,pv:=9 }]) ox ⟨⟨cs0,rfl,hcs0⟩,⟨cs1,rfl,hcs1⟩,⟨cs2,rfl,hcs2⟩,⟨cs3,rfl,hcs3⟩,⟨rfl,rfl⟩,⟨cs5,rfl,hcs5⟩,⟨cs6,rfl,hcs6⟩,⟨cs7,rfl,hcs7⟩,⟨cs8,rfl,hcs8⟩,⟨rfl,rfl⟩,trivial⟩ ox ⟨⟨rfl,⟨cs0.toList++(cs1.toList++(cs2.toList++(cs3.toList++([])))),by kernel_rfl,hB4⟩,by kernel_rfl⟩,⟨rfl,⟨cs5.toList++(cs6.toList++(cs7.toList++(cs8.toList++([])))),by kernel_rfl,hB9⟩,by kernel_rfl⟩,trivial⟩ ox h
theorem aOb (hcs0:Seg 2 cs0) (hcs1:Seg 2 cs1) (hcs2:Seg 2 cs2) (hcs3:Seg 2 cs3) (hcs5:Seg 2 cs5) (hcs6:Seg 2 cs6) (hcs7:Seg 2 cs7) (hcs8:Seg 2 cs8) (hB4:Sy.Blk k p4 33 (cs0.toList++(cs1.toList++(cs2.toList++(cs3.toList++([]))))).toArray) (hB9:Sy.Blk k p9 33 (cs5.toList++(cs6.toList++(cs7.toList++(cs8.toList++([]))))).toArray)
 (h:Cl k 200 #[agg cs1,agg cs6] fun k1 r0=>Gt 2 r0 fun cs10=>
 Rt R k1 (agg cs10)) :
  CallsG Tryz.prog 199 #[int .i64 1,int .i64 1,Value.pointer (some ⟨p4,0,none⟩),Value.pointer (some ⟨p9,0,none⟩)] k R:=
  Sy.execFn_use_heap (cfg:={ opq:=[32] }) (args:=[.one (.lit (.int .i64 (1))),.one (.lit (.int .i64 (1))),.one (.ptr 0 0),.one (.ptr 1 0)]) (vals:=[agg cs0,agg cs1,agg cs2,agg cs3,(Value.pointer (some ⟨p4,0,none⟩)),agg cs5,agg cs6,agg cs7,agg cs8,(Value.pointer (some ⟨p9,0,none⟩))]) (kinds:=[.seg 2,.seg 2,.seg 2,.seg 2,.any,.seg 2,.seg 2,.seg 2,.seg 2,.any]) (blks:=[p4,p9]) (heap:=[{ ty:=33,cells:=[.seg 0 2,.seg 1 2,.seg 2 2,.seg 3 2],pub:=true,pv:=4 },{ ty:=33,cells:=[.seg 5 2,.seg 6 2,.seg 7 2,.seg 8 2],pub:=true,pv:=9 }]) ox ⟨⟨cs0,rfl,hcs0⟩,⟨cs1,rfl,hcs1⟩,⟨cs2,rfl,hcs2⟩,⟨cs3,rfl,hcs3⟩,⟨rfl,rfl⟩,⟨cs5,rfl,hcs5⟩,⟨cs6,rfl,hcs6⟩,⟨cs7,rfl,hcs7⟩,⟨cs8,rfl,hcs8⟩,⟨rfl,rfl⟩,trivial⟩ ox ⟨⟨rfl,⟨cs0.toList++(cs1.toList++(cs2.toList++(cs3.toList++([])))),by kernel_rfl,hB4⟩,by kernel_rfl⟩,⟨rfl,⟨cs5.toList++(cs6.toList++(cs7.toList++(cs8.toList++([])))),by kernel_rfl,hB9⟩,by kernel_rfl⟩,trivial⟩ ox h
theorem aOc (hcs0:Seg 2 cs0) (hcs1:Seg 2 cs1) (hcs2:Seg 2 cs2) (hcs3:Seg 2 cs3) (hcs5:Seg 2 cs5) (hcs6:Seg 2 cs6) (hcs7:Seg 2 cs7) (hcs8:Seg 2 cs8) (hB4:Sy.Blk k p4 33 (cs0.toList++(cs1.toList++(cs2.toList++(cs3.toList++([]))))).toArray) (hB9:Sy.Blk k p9 33 (cs5.toList++(cs6.toList++(cs7.toList++(cs8.toList++([]))))).toArray)
 (h:Cl k 200 #[agg cs1,agg cs7] fun k1 r0=>Gt 2 r0 fun cs10=>
 Rt R k1 (agg cs10)) :
  CallsG Tryz.prog 199 #[int .i64 1,int .i64 2,Value.pointer (some ⟨p4,0,none⟩),Value.pointer (some ⟨p9,0,none⟩)] k R:=
  Sy.execFn_use_heap (cfg:={ opq:=[32] }) (args:=[.one (.lit (.int .i64 (1))),.one (.lit (.int .i64 (2))),.one (.ptr 0 0),.one (.ptr 1 0)]) (vals:=[agg cs0,agg cs1,agg cs2,agg cs3,(Value.pointer (some ⟨p4,0,none⟩)),agg cs5,agg cs6,agg cs7,agg cs8,(Value.pointer (some ⟨p9,0,none⟩))]) (kinds:=[.seg 2,.seg 2,.seg 2,.seg 2,.any,.seg 2,.seg 2,.seg 2,.seg 2,.any]) (blks:=[p4,p9]) (heap:=[{ ty:=33,cells:=[.seg 0 2,.seg 1 2,.seg 2 2,.seg 3 2],pub:=true,pv:=4 },{ ty:=33,cells:=[.seg 5 2,.seg 6 2,.seg 7 2,.seg 8 2],pub:=true,pv:=9 }]) ox ⟨⟨cs0,rfl,hcs0⟩,⟨cs1,rfl,hcs1⟩,⟨cs2,rfl,hcs2⟩,⟨cs3,rfl,hcs3⟩,⟨rfl,rfl⟩,⟨cs5,rfl,hcs5⟩,⟨cs6,rfl,hcs6⟩,⟨cs7,rfl,hcs7⟩,⟨cs8,rfl,hcs8⟩,⟨rfl,rfl⟩,trivial⟩ ox ⟨⟨rfl,⟨cs0.toList++(cs1.toList++(cs2.toList++(cs3.toList++([])))),by kernel_rfl,hB4⟩,by kernel_rfl⟩,⟨rfl,⟨cs5.toList++(cs6.toList++(cs7.toList++(cs8.toList++([])))),by kernel_rfl,hB9⟩,by kernel_rfl⟩,trivial⟩ ox h
theorem aOd (hcs0:Seg 2 cs0) (hcs1:Seg 2 cs1) (hcs2:Seg 2 cs2) (hcs3:Seg 2 cs3) (hcs5:Seg 2 cs5) (hcs6:Seg 2 cs6) (hcs7:Seg 2 cs7) (hcs8:Seg 2 cs8) (hB4:Sy.Blk k p4 33 (cs0.toList++(cs1.toList++(cs2.toList++(cs3.toList++([]))))).toArray) (hB9:Sy.Blk k p9 33 (cs5.toList++(cs6.toList++(cs7.toList++(cs8.toList++([]))))).toArray)
 (h:Cl k 200 #[agg cs1,agg cs8] fun k1 r0=>Gt 2 r0 fun cs10=>
 Rt R k1 (agg cs10)) :
  CallsG Tryz.prog 199 #[int .i64 1,int .i64 3,Value.pointer (some ⟨p4,0,none⟩),Value.pointer (some ⟨p9,0,none⟩)] k R:=
  Sy.execFn_use_heap (cfg:={ opq:=[32] }) (args:=[.one (.lit (.int .i64 (1))),.one (.lit (.int .i64 (3))),.one (.ptr 0 0),.one (.ptr 1 0)]) (vals:=[agg cs0,agg cs1,agg cs2,agg cs3,(Value.pointer (some ⟨p4,0,none⟩)),agg cs5,agg cs6,agg cs7,agg cs8,(Value.pointer (some ⟨p9,0,none⟩))]) (kinds:=[.seg 2,.seg 2,.seg 2,.seg 2,.any,.seg 2,.seg 2,.seg 2,.seg 2,.any]) (blks:=[p4,p9]) (heap:=[{ ty:=33,cells:=[.seg 0 2,.seg 1 2,.seg 2 2,.seg 3 2],pub:=true,pv:=4 },{ ty:=33,cells:=[.seg 5 2,.seg 6 2,.seg 7 2,.seg 8 2],pub:=true,pv:=9 }]) ox ⟨⟨cs0,rfl,hcs0⟩,⟨cs1,rfl,hcs1⟩,⟨cs2,rfl,hcs2⟩,⟨cs3,rfl,hcs3⟩,⟨rfl,rfl⟩,⟨cs5,rfl,hcs5⟩,⟨cs6,rfl,hcs6⟩,⟨cs7,rfl,hcs7⟩,⟨cs8,rfl,hcs8⟩,⟨rfl,rfl⟩,trivial⟩ ox ⟨⟨rfl,⟨cs0.toList++(cs1.toList++(cs2.toList++(cs3.toList++([])))),by kernel_rfl,hB4⟩,by kernel_rfl⟩,⟨rfl,⟨cs5.toList++(cs6.toList++(cs7.toList++(cs8.toList++([])))),by kernel_rfl,hB9⟩,by kernel_rfl⟩,trivial⟩ ox h
theorem aOe (hcs0:Seg 2 cs0) (hcs1:Seg 2 cs1) (hcs2:Seg 2 cs2) (hcs3:Seg 2 cs3) (hcs5:Seg 2 cs5) (hcs6:Seg 2 cs6) (hcs7:Seg 2 cs7) (hcs8:Seg 2 cs8) (hB4:Sy.Blk k p4 33 (cs0.toList++(cs1.toList++(cs2.toList++(cs3.toList++([]))))).toArray) (hB9:Sy.Blk k p9 33 (cs5.toList++(cs6.toList++(cs7.toList++(cs8.toList++([]))))).toArray)
 (h:Cl k 200 #[agg cs2,agg cs5] fun k1 r0=>Gt 2 r0 fun cs10=>
 Rt R k1 (agg cs10)) :
  CallsG Tryz.prog 199 #[int .i64 2,int .i64 0,Value.pointer (some ⟨p4,0,none⟩),Value.pointer (some ⟨p9,0,none⟩)] k R:=
  Sy.execFn_use_heap (cfg:={ opq:=[32] }) (args:=[.one (.lit (.int .i64 (2))),.one (.lit (.int .i64 (0))),.one (.ptr 0 0),.one (.ptr 1 0)]) (vals:=[agg cs0,agg cs1,agg cs2,agg cs3,(Value.pointer (some ⟨p4,0,none⟩)),agg cs5,agg cs6,agg cs7,agg cs8,(Value.pointer (some ⟨p9,0,none⟩))]) (kinds:=[.seg 2,.seg 2,.seg 2,.seg 2,.any,.seg 2,.seg 2,.seg 2,.seg 2,.any]) (blks:=[p4,p9]) (heap:=[{ ty:=33,cells:=[.seg 0 2,.seg 1 2,.seg 2 2,.seg 3 2],pub:=true,pv:=4 },{ ty:=33,cells:=[.seg 5 2,.seg 6 2,.seg 7 2,.seg 8 2],pub:=true,pv:=9 }]) ox ⟨⟨cs0,rfl,hcs0⟩,⟨cs1,rfl,hcs1⟩,⟨cs2,rfl,hcs2⟩,⟨cs3,rfl,hcs3⟩,⟨rfl,rfl⟩,⟨cs5,rfl,hcs5⟩,⟨cs6,rfl,hcs6⟩,⟨cs7,rfl,hcs7⟩,⟨cs8,rfl,hcs8⟩,⟨rfl,rfl⟩,trivial⟩ ox ⟨⟨rfl,⟨cs0.toList++(cs1.toList++(cs2.toList++(cs3.toList++([])))),by kernel_rfl,hB4⟩,by kernel_rfl⟩,⟨rfl,⟨cs5.toList++(cs6.toList++(cs7.toList++(cs8.toList++([])))),by kernel_rfl,hB9⟩,by kernel_rfl⟩,trivial⟩ ox h
theorem aOf (hcs0:Seg 2 cs0) (hcs1:Seg 2 cs1) (hcs2:Seg 2 cs2) (hcs3:Seg 2 cs3) (hcs5:Seg 2 cs5) (hcs6:Seg 2 cs6) (hcs7:Seg 2 cs7) (hcs8:Seg 2 cs8) (hB4:Sy.Blk k p4 33 (cs0.toList++(cs1.toList++(cs2.toList++(cs3.toList++([]))))).toArray) (hB9:Sy.Blk k p9 33 (cs5.toList++(cs6.toList++(cs7.toList++(cs8.toList++([]))))).toArray)
 (h:Cl k 200 #[agg cs2,agg cs6] fun k1 r0=>Gt 2 r0 fun cs10=>
 Rt R k1 (agg cs10)) :
  CallsG Tryz.prog 199 #[int .i64 2,int .i64 1,Value.pointer (some ⟨p4,0,none⟩),Value.pointer (some ⟨p9,0,none⟩)] k R:=
  Sy.execFn_use_heap (cfg:={ opq:=[32] }) (args:=[.one (.lit (.int .i64 (2))),.one (.lit (.int .i64 (1))),.one (.ptr 0 0),.one (.ptr 1 0)]) (vals:=[agg cs0,agg cs1,agg cs2,agg cs3,(Value.pointer (some ⟨p4,0,none⟩)),agg cs5,agg cs6,agg cs7,agg cs8,(Value.pointer (some ⟨p9,0,none⟩))]) (kinds:=[.seg 2,.seg 2,.seg 2,.seg 2,.any,.seg 2,.seg 2,.seg 2,.seg 2,.any]) (blks:=[p4,p9]) (heap:=[{ ty:=33,cells:=[.seg 0 2,.seg 1 2,.seg 2 2,.seg 3 2],pub:=true,pv:=4 },{ ty:=33,cells:=[.seg 5 2,.seg 6 2,.seg 7 2,.seg 8 2],pub:=true,pv:=9 }]) ox ⟨⟨cs0,rfl,hcs0⟩,⟨cs1,rfl,hcs1⟩,⟨cs2,rfl,hcs2⟩,⟨cs3,rfl,hcs3⟩,⟨rfl,rfl⟩,⟨cs5,rfl,hcs5⟩,⟨cs6,rfl,hcs6⟩,⟨cs7,rfl,hcs7⟩,⟨cs8,rfl,hcs8⟩,⟨rfl,rfl⟩,trivial⟩ ox ⟨⟨rfl,⟨cs0.toList++(cs1.toList++(cs2.toList++(cs3.toList++([])))),by kernel_rfl,hB4⟩,by kernel_rfl⟩,⟨rfl,⟨cs5.toList++(cs6.toList++(cs7.toList++(cs8.toList++([])))),by kernel_rfl,hB9⟩,by kernel_rfl⟩,trivial⟩ ox h
theorem aOg (hcs0:Seg 2 cs0) (hcs1:Seg 2 cs1) (hcs2:Seg 2 cs2) (hcs3:Seg 2 cs3) (hcs5:Seg 2 cs5) (hcs6:Seg 2 cs6) (hcs7:Seg 2 cs7) (hcs8:Seg 2 cs8) (hB4:Sy.Blk k p4 33 (cs0.toList++(cs1.toList++(cs2.toList++(cs3.toList++([]))))).toArray) (hB9:Sy.Blk k p9 33 (cs5.toList++(cs6.toList++(cs7.toList++(cs8.toList++([]))))).toArray)
 (h:Cl k 200 #[agg cs2,agg cs7] fun k1 r0=>Gt 2 r0 fun cs10=>
 Rt R k1 (agg cs10)) :
  CallsG Tryz.prog 199 #[int .i64 2,int .i64 2,Value.pointer (some ⟨p4,0,none⟩),Value.pointer (some ⟨p9,0,none⟩)] k R:=
  Sy.execFn_use_heap (cfg:={ opq:=[32] }) (args:=[.one (.lit (.int .i64 (2))),.one (.lit (.int .i64 (2))),.one (.ptr 0 0),.one (.ptr 1 0)]) (vals:=[agg cs0,agg cs1,agg cs2,agg cs3,(Value.pointer (some ⟨p4,0,none⟩)),agg cs5,agg cs6,agg cs7,agg cs8,(Value.pointer (some ⟨p9,0,none⟩))]) (kinds:=[.seg 2,.seg 2,.seg 2,.seg 2,.any,.seg 2,.seg 2,.seg 2,.seg 2,.any]) (blks:=[p4,p9]) (heap:=[{ ty:=33,cells:=[.seg 0 2,.seg 1 2,.seg 2 2,.seg 3 2],pub:=true,pv:=4 },{ ty:=33,cells:=[.seg 5 2,.seg 6 2,.seg 7 2,.seg 8 2],pub:=true,pv:=9 }]) ox ⟨⟨cs0,rfl,hcs0⟩,⟨cs1,rfl,hcs1⟩,⟨cs2,rfl,hcs2⟩,⟨cs3,rfl,hcs3⟩,⟨rfl,rfl⟩,⟨cs5,rfl,hcs5⟩,⟨cs6,rfl,hcs6⟩,⟨cs7,rfl,hcs7⟩,⟨cs8,rfl,hcs8⟩,⟨rfl,rfl⟩,trivial⟩ ox ⟨⟨rfl,⟨cs0.toList++(cs1.toList++(cs2.toList++(cs3.toList++([])))),by kernel_rfl,hB4⟩,by kernel_rfl⟩,⟨rfl,⟨cs5.toList++(cs6.toList++(cs7.toList++(cs8.toList++([])))),by kernel_rfl,hB9⟩,by kernel_rfl⟩,trivial⟩ ox h
theorem aOh (hcs0:Seg 2 cs0) (hcs1:Seg 2 cs1) (hcs2:Seg 2 cs2) (hcs3:Seg 2 cs3) (hcs5:Seg 2 cs5) (hcs6:Seg 2 cs6) (hcs7:Seg 2 cs7) (hcs8:Seg 2 cs8) (hB4:Sy.Blk k p4 33 (cs0.toList++(cs1.toList++(cs2.toList++(cs3.toList++([]))))).toArray) (hB9:Sy.Blk k p9 33 (cs5.toList++(cs6.toList++(cs7.toList++(cs8.toList++([]))))).toArray)
 (h:Cl k 200 #[agg cs2,agg cs8] fun k1 r0=>Gt 2 r0 fun cs10=>
 Rt R k1 (agg cs10)) :
  CallsG Tryz.prog 199 #[int .i64 2,int .i64 3,Value.pointer (some ⟨p4,0,none⟩),Value.pointer (some ⟨p9,0,none⟩)] k R:=
  Sy.execFn_use_heap (cfg:={ opq:=[32] }) (args:=[.one (.lit (.int .i64 (2))),.one (.lit (.int .i64 (3))),.one (.ptr 0 0),.one (.ptr 1 0)]) (vals:=[agg cs0,agg cs1,agg cs2,agg cs3,(Value.pointer (some ⟨p4,0,none⟩)),agg cs5,agg cs6,agg cs7,agg cs8,(Value.pointer (some ⟨p9,0,none⟩))]) (kinds:=[.seg 2,.seg 2,.seg 2,.seg 2,.any,.seg 2,.seg 2,.seg 2,.seg 2,.any]) (blks:=[p4,p9]) (heap:=[{ ty:=33,cells:=[.seg 0 2,.seg 1 2,.seg 2 2,.seg 3 2],pub:=true,pv:=4 },{ ty:=33,cells:=[.seg 5 2,.seg 6 2,.seg 7 2,.seg 8 2],pub:=true,pv:=9 }]) ox ⟨⟨cs0,rfl,hcs0⟩,⟨cs1,rfl,hcs1⟩,⟨cs2,rfl,hcs2⟩,⟨cs3,rfl,hcs3⟩,⟨rfl,rfl⟩,⟨cs5,rfl,hcs5⟩,⟨cs6,rfl,hcs6⟩,⟨cs7,rfl,hcs7⟩,⟨cs8,rfl,hcs8⟩,⟨rfl,rfl⟩,trivial⟩ ox ⟨⟨rfl,⟨cs0.toList++(cs1.toList++(cs2.toList++(cs3.toList++([])))),by kernel_rfl,hB4⟩,by kernel_rfl⟩,⟨rfl,⟨cs5.toList++(cs6.toList++(cs7.toList++(cs8.toList++([])))),by kernel_rfl,hB9⟩,by kernel_rfl⟩,trivial⟩ ox h
theorem aOi (hcs0:Seg 2 cs0) (hcs1:Seg 2 cs1) (hcs2:Seg 2 cs2) (hcs3:Seg 2 cs3) (hcs5:Seg 2 cs5) (hcs6:Seg 2 cs6) (hcs7:Seg 2 cs7) (hcs8:Seg 2 cs8) (hB4:Sy.Blk k p4 33 (cs0.toList++(cs1.toList++(cs2.toList++(cs3.toList++([]))))).toArray) (hB9:Sy.Blk k p9 33 (cs5.toList++(cs6.toList++(cs7.toList++(cs8.toList++([]))))).toArray)
 (h:Cl k 200 #[agg cs3,agg cs5] fun k1 r0=>Gt 2 r0 fun cs10=>
 Rt R k1 (agg cs10)) :
  CallsG Tryz.prog 199 #[int .i64 3,int .i64 0,Value.pointer (some ⟨p4,0,none⟩),Value.pointer (some ⟨p9,0,none⟩)] k R:=
  Sy.execFn_use_heap (cfg:={ opq:=[32] }) (args:=[.one (.lit (.int .i64 (3))),.one (.lit (.int .i64 (0))),.one (.ptr 0 0),.one (.ptr 1 0)]) (vals:=[agg cs0,agg cs1,agg cs2,agg cs3,(Value.pointer (some ⟨p4,0,none⟩)),agg cs5,agg cs6,agg cs7,agg cs8,(Value.pointer (some ⟨p9,0,none⟩))]) (kinds:=[.seg 2,.seg 2,.seg 2,.seg 2,.any,.seg 2,.seg 2,.seg 2,.seg 2,.any]) (blks:=[p4,p9]) (heap:=[{ ty:=33,cells:=[.seg 0 2,.seg 1 2,.seg 2 2,.seg 3 2],pub:=true,pv:=4 },{ ty:=33,cells:=[.seg 5 2,.seg 6 2,.seg 7 2,.seg 8 2],pub:=true,pv:=9 }]) ox ⟨⟨cs0,rfl,hcs0⟩,⟨cs1,rfl,hcs1⟩,⟨cs2,rfl,hcs2⟩,⟨cs3,rfl,hcs3⟩,⟨rfl,rfl⟩,⟨cs5,rfl,hcs5⟩,⟨cs6,rfl,hcs6⟩,⟨cs7,rfl,hcs7⟩,⟨cs8,rfl,hcs8⟩,⟨rfl,rfl⟩,trivial⟩ ox ⟨⟨rfl,⟨cs0.toList++(cs1.toList++(cs2.toList++(cs3.toList++([])))),by kernel_rfl,hB4⟩,by kernel_rfl⟩,⟨rfl,⟨cs5.toList++(cs6.toList++(cs7.toList++(cs8.toList++([])))),by kernel_rfl,hB9⟩,by kernel_rfl⟩,trivial⟩ ox h
theorem aOj (hcs0:Seg 2 cs0) (hcs1:Seg 2 cs1) (hcs2:Seg 2 cs2) (hcs3:Seg 2 cs3) (hcs5:Seg 2 cs5) (hcs6:Seg 2 cs6) (hcs7:Seg 2 cs7) (hcs8:Seg 2 cs8) (hB4:Sy.Blk k p4 33 (cs0.toList++(cs1.toList++(cs2.toList++(cs3.toList++([]))))).toArray) (hB9:Sy.Blk k p9 33 (cs5.toList++(cs6.toList++(cs7.toList++(cs8.toList++([]))))).toArray)
 (h:Cl k 200 #[agg cs3,agg cs6] fun k1 r0=>Gt 2 r0 fun cs10=>
 Rt R k1 (agg cs10)) :
  CallsG Tryz.prog 199 #[int .i64 3,int .i64 1,Value.pointer (some ⟨p4,0,none⟩),Value.pointer (some ⟨p9,0,none⟩)] k R:=
  Sy.execFn_use_heap (cfg:={ opq:=[32] }) (args:=[.one (.lit (.int .i64 (3))),.one (.lit (.int .i64 (1))),.one (.ptr 0 0),.one (.ptr 1 0)]) (vals:=[agg cs0,agg cs1,agg cs2,agg cs3,(Value.pointer (some ⟨p4,0,none⟩)),agg cs5,agg cs6,agg cs7,agg cs8,(Value.pointer (some ⟨p9,0,none⟩))]) (kinds:=[.seg 2,.seg 2,.seg 2,.seg 2,.any,.seg 2,.seg 2,.seg 2,.seg 2,.any]) (blks:=[p4,p9]) (heap:=[{ ty:=33,cells:=[.seg 0 2,.seg 1 2,.seg 2 2,.seg 3 2],pub:=true,pv:=4 },{ ty:=33,cells:=[.seg 5 2,.seg 6 2,.seg 7 2,.seg 8 2],pub:=true,pv:=9 }]) ox ⟨⟨cs0,rfl,hcs0⟩,⟨cs1,rfl,hcs1⟩,⟨cs2,rfl,hcs2⟩,⟨cs3,rfl,hcs3⟩,⟨rfl,rfl⟩,⟨cs5,rfl,hcs5⟩,⟨cs6,rfl,hcs6⟩,⟨cs7,rfl,hcs7⟩,⟨cs8,rfl,hcs8⟩,⟨rfl,rfl⟩,trivial⟩ ox ⟨⟨rfl,⟨cs0.toList++(cs1.toList++(cs2.toList++(cs3.toList++([])))),by kernel_rfl,hB4⟩,by kernel_rfl⟩,⟨rfl,⟨cs5.toList++(cs6.toList++(cs7.toList++(cs8.toList++([])))),by kernel_rfl,hB9⟩,by kernel_rfl⟩,trivial⟩ ox h
theorem aOk (hcs0:Seg 2 cs0) (hcs1:Seg 2 cs1) (hcs2:Seg 2 cs2) (hcs3:Seg 2 cs3) (hcs5:Seg 2 cs5) (hcs6:Seg 2 cs6) (hcs7:Seg 2 cs7) (hcs8:Seg 2 cs8) (hB4:Sy.Blk k p4 33 (cs0.toList++(cs1.toList++(cs2.toList++(cs3.toList++([]))))).toArray) (hB9:Sy.Blk k p9 33 (cs5.toList++(cs6.toList++(cs7.toList++(cs8.toList++([]))))).toArray)
 (h:Cl k 200 #[agg cs3,agg cs7] fun k1 r0=>Gt 2 r0 fun cs10=>
 Rt R k1 (agg cs10)) :
  CallsG Tryz.prog 199 #[int .i64 3,int .i64 2,Value.pointer (some ⟨p4,0,none⟩),Value.pointer (some ⟨p9,0,none⟩)] k R:=
  Sy.execFn_use_heap (cfg:={ opq:=[32] }) (args:=[.one (.lit (.int .i64 (3))),.one (.lit (.int .i64 (2))),.one (.ptr 0 0),.one (.ptr 1 0)]) (vals:=[agg cs0,agg cs1,agg cs2,agg cs3,(Value.pointer (some ⟨p4,0,none⟩)),agg cs5,agg cs6,agg cs7,agg cs8,(Value.pointer (some ⟨p9,0,none⟩))]) (kinds:=[.seg 2,.seg 2,.seg 2,.seg 2,.any,.seg 2,.seg 2,.seg 2,.seg 2,.any]) (blks:=[p4,p9]) (heap:=[{ ty:=33,cells:=[.seg 0 2,.seg 1 2,.seg 2 2,.seg 3 2],pub:=true,pv:=4 },{ ty:=33,cells:=[.seg 5 2,.seg 6 2,.seg 7 2,.seg 8 2],pub:=true,pv:=9 }]) ox ⟨⟨cs0,rfl,hcs0⟩,⟨cs1,rfl,hcs1⟩,⟨cs2,rfl,hcs2⟩,⟨cs3,rfl,hcs3⟩,⟨rfl,rfl⟩,⟨cs5,rfl,hcs5⟩,⟨cs6,rfl,hcs6⟩,⟨cs7,rfl,hcs7⟩,⟨cs8,rfl,hcs8⟩,⟨rfl,rfl⟩,trivial⟩ ox ⟨⟨rfl,⟨cs0.toList++(cs1.toList++(cs2.toList++(cs3.toList++([])))),by kernel_rfl,hB4⟩,by kernel_rfl⟩,⟨rfl,⟨cs5.toList++(cs6.toList++(cs7.toList++(cs8.toList++([])))),by kernel_rfl,hB9⟩,by kernel_rfl⟩,trivial⟩ ox h
theorem aOl (hcs0:Seg 2 cs0) (hcs1:Seg 2 cs1) (hcs2:Seg 2 cs2) (hcs3:Seg 2 cs3) (hcs5:Seg 2 cs5) (hcs6:Seg 2 cs6) (hcs7:Seg 2 cs7) (hcs8:Seg 2 cs8) (hB4:Sy.Blk k p4 33 (cs0.toList++(cs1.toList++(cs2.toList++(cs3.toList++([]))))).toArray) (hB9:Sy.Blk k p9 33 (cs5.toList++(cs6.toList++(cs7.toList++(cs8.toList++([]))))).toArray)
 (h:Cl k 200 #[agg cs3,agg cs8] fun k1 r0=>Gt 2 r0 fun cs10=>
 Rt R k1 (agg cs10)) :
  CallsG Tryz.prog 199 #[int .i64 3,int .i64 3,Value.pointer (some ⟨p4,0,none⟩),Value.pointer (some ⟨p9,0,none⟩)] k R:=
  Sy.execFn_use_heap (cfg:={ opq:=[32] }) (args:=[.one (.lit (.int .i64 (3))),.one (.lit (.int .i64 (3))),.one (.ptr 0 0),.one (.ptr 1 0)]) (vals:=[agg cs0,agg cs1,agg cs2,agg cs3,(Value.pointer (some ⟨p4,0,none⟩)),agg cs5,agg cs6,agg cs7,agg cs8,(Value.pointer (some ⟨p9,0,none⟩))]) (kinds:=[.seg 2,.seg 2,.seg 2,.seg 2,.any,.seg 2,.seg 2,.seg 2,.seg 2,.any]) (blks:=[p4,p9]) (heap:=[{ ty:=33,cells:=[.seg 0 2,.seg 1 2,.seg 2 2,.seg 3 2],pub:=true,pv:=4 },{ ty:=33,cells:=[.seg 5 2,.seg 6 2,.seg 7 2,.seg 8 2],pub:=true,pv:=9 }]) ox ⟨⟨cs0,rfl,hcs0⟩,⟨cs1,rfl,hcs1⟩,⟨cs2,rfl,hcs2⟩,⟨cs3,rfl,hcs3⟩,⟨rfl,rfl⟩,⟨cs5,rfl,hcs5⟩,⟨cs6,rfl,hcs6⟩,⟨cs7,rfl,hcs7⟩,⟨cs8,rfl,hcs8⟩,⟨rfl,rfl⟩,trivial⟩ ox ⟨⟨rfl,⟨cs0.toList++(cs1.toList++(cs2.toList++(cs3.toList++([])))),by kernel_rfl,hB4⟩,by kernel_rfl⟩,⟨rfl,⟨cs5.toList++(cs6.toList++(cs7.toList++(cs8.toList++([])))),by kernel_rfl,hB9⟩,by kernel_rfl⟩,trivial⟩ ox h
end Go.Proofs.YtifcjpacobpdmaaGreat

namespace Go.Proofs.YtifcjpacobpdmaaGreat
open Go.RowKit Num
open Sy (Up Sees CallsG Seg)
section
variable {k:World}{R:World→Value→Prop}{K L:Nat}{cs cs':Array Value}{v v':Q4}
theorem Up.blk {k k':World}(u:Up k k') {p t:Nat}{cs:Array Value}(h:Sy.Blk k p t cs):Sy.Blk k' p t cs:=u.live p _ h (by intro e;unfold Sy.dead at e;injection e with e1 e2 e3;cases e3)
def Box4 (k:World) (p:Nat) (x0 x1 x2 x3:Int) (K:Nat):Prop:=
 ∃c0 c1 c2 c3:Array Value,Sy.Blk k p 33 (c0.toList++(c1.toList++(c2.toList++(c3.toList++([]))))).toArray∧IntV k c0 x0 K∧IntV k c1 x1 K∧IntV k c2 x2 K∧IntV k c3 x3 K
theorem Box4.up {k k':World}{p:Nat}{x0 x1 x2 x3:Int}(h:Box4 k p x0 x1 x2 x3 K) (u:Up k k'):Box4 k' p x0 x1 x2 x3 K:=by
 obtain⟨c0,c1,c2,c3,hb,h0,h1,h2,h3⟩:=h;exact⟨c0,c1,c2,c3,Up.blk u hb,h0.up u,h1.up u,h2.up u,h3.up u⟩
theorem aSb {p p':Nat}{x0 x1 x2 x3 y0 y1 y2 y3:Int}(hx:Box4 k p x0 x1 x2 x3 K) (hy:Box4 k p' y0 y1 y2 y3 K) (hK:K≤268435456) (C:∀k' ds,Up k k'→IntV k' ds (x0*y0) (2*K)→R k' (.agg ds)) :
 Cl k 199 #[.int .i64 0,.int .i64 0,.pointer (some ⟨p,0,none⟩),.pointer (some ⟨p',0,none⟩)] R:=by
 have e2:2*K=K+K:=oq
 rw [e2]at C;intro k0 u0;replace hx:=hx.up u0;replace hy:=hy.up u0;replace C:=fun k' ds u=>C k' ds (u0.trans u);obtain⟨c0,c1,c2,c3,hb,h0,h1,h2,h3⟩:=hx;obtain⟨d0,d1,d2,d3,hb',g0,g1,g2,g3⟩:=hy;refine aNw h0.seg h1.seg h2.seg h3.seg g0.seg g1.seg g2.seg g3.seg hb hb' ?_;refine bR h0 g0 oq oq ?_;intro k1 cA u1 a;refine⟨cA,a.seg,rfl,?_⟩;replace C:=fun k' ds u=>C k' ds (u1.trans u);intro k2 u2;replace a:=a.up u2;exact C _ _ u2 a
theorem aSc {p p':Nat}{x0 x1 x2 x3 y0 y1 y2 y3:Int}(hx:Box4 k p x0 x1 x2 x3 K) (hy:Box4 k p' y0 y1 y2 y3 K) (hK:K≤268435456) (C:∀k' ds,Up k k'→IntV k' ds (x0*y1) (2*K)→R k' (.agg ds)) :
 Cl k 199 #[.int .i64 0,.int .i64 1,.pointer (some ⟨p,0,none⟩),.pointer (some ⟨p',0,none⟩)] R:=by
 have e2:2*K=K+K:=oq
 rw [e2]at C;intro k0 u0;replace hx:=hx.up u0;replace hy:=hy.up u0;replace C:=fun k' ds u=>C k' ds (u0.trans u);obtain⟨c0,c1,c2,c3,hb,h0,h1,h2,h3⟩:=hx;obtain⟨d0,d1,d2,d3,hb',g0,g1,g2,g3⟩:=hy;refine aNx h0.seg h1.seg h2.seg h3.seg g0.seg g1.seg g2.seg g3.seg hb hb' ?_;refine bR h0 g1 oq oq ?_;intro k1 cA u1 a;refine⟨cA,a.seg,rfl,?_⟩;replace C:=fun k' ds u=>C k' ds (u1.trans u);intro k2 u2;replace a:=a.up u2;exact C _ _ u2 a
theorem aSd {p p':Nat}{x0 x1 x2 x3 y0 y1 y2 y3:Int}(hx:Box4 k p x0 x1 x2 x3 K) (hy:Box4 k p' y0 y1 y2 y3 K) (hK:K≤268435456) (C:∀k' ds,Up k k'→IntV k' ds (x0*y2) (2*K)→R k' (.agg ds)) :
 Cl k 199 #[.int .i64 0,.int .i64 2,.pointer (some ⟨p,0,none⟩),.pointer (some ⟨p',0,none⟩)] R:=by
 have e2:2*K=K+K:=oq
 rw [e2]at C;intro k0 u0;replace hx:=hx.up u0;replace hy:=hy.up u0;replace C:=fun k' ds u=>C k' ds (u0.trans u);obtain⟨c0,c1,c2,c3,hb,h0,h1,h2,h3⟩:=hx;obtain⟨d0,d1,d2,d3,hb',g0,g1,g2,g3⟩:=hy;refine aNy h0.seg h1.seg h2.seg h3.seg g0.seg g1.seg g2.seg g3.seg hb hb' ?_;refine bR h0 g2 oq oq ?_;intro k1 cA u1 a;refine⟨cA,a.seg,rfl,?_⟩;replace C:=fun k' ds u=>C k' ds (u1.trans u);intro k2 u2;replace a:=a.up u2;exact C _ _ u2 a
theorem aSe {p p':Nat}{x0 x1 x2 x3 y0 y1 y2 y3:Int}(hx:Box4 k p x0 x1 x2 x3 K) (hy:Box4 k p' y0 y1 y2 y3 K) (hK:K≤268435456) (C:∀k' ds,Up k k'→IntV k' ds (x0*y3) (2*K)→R k' (.agg ds)) :
 Cl k 199 #[.int .i64 0,.int .i64 3,.pointer (some ⟨p,0,none⟩),.pointer (some ⟨p',0,none⟩)] R:=by
 have e2:2*K=K+K:=oq
 rw [e2]at C;intro k0 u0;replace hx:=hx.up u0;replace hy:=hy.up u0;replace C:=fun k' ds u=>C k' ds (u0.trans u);obtain⟨c0,c1,c2,c3,hb,h0,h1,h2,h3⟩:=hx;obtain⟨d0,d1,d2,d3,hb',g0,g1,g2,g3⟩:=hy;refine aNz h0.seg h1.seg h2.seg h3.seg g0.seg g1.seg g2.seg g3.seg hb hb' ?_;refine bR h0 g3 oq oq ?_;intro k1 cA u1 a;refine⟨cA,a.seg,rfl,?_⟩;replace C:=fun k' ds u=>C k' ds (u1.trans u);intro k2 u2;replace a:=a.up u2;exact C _ _ u2 a
theorem aSf {p p':Nat}{x0 x1 x2 x3 y0 y1 y2 y3:Int}(hx:Box4 k p x0 x1 x2 x3 K) (hy:Box4 k p' y0 y1 y2 y3 K) (hK:K≤268435456) (C:∀k' ds,Up k k'→IntV k' ds (x1*y0) (2*K)→R k' (.agg ds)) :
 Cl k 199 #[.int .i64 1,.int .i64 0,.pointer (some ⟨p,0,none⟩),.pointer (some ⟨p',0,none⟩)] R:=by
 have e2:2*K=K+K:=oq
 rw [e2]at C;intro k0 u0;replace hx:=hx.up u0;replace hy:=hy.up u0;replace C:=fun k' ds u=>C k' ds (u0.trans u);obtain⟨c0,c1,c2,c3,hb,h0,h1,h2,h3⟩:=hx;obtain⟨d0,d1,d2,d3,hb',g0,g1,g2,g3⟩:=hy;refine aOa h0.seg h1.seg h2.seg h3.seg g0.seg g1.seg g2.seg g3.seg hb hb' ?_;refine bR h1 g0 oq oq ?_;intro k1 cA u1 a;refine⟨cA,a.seg,rfl,?_⟩;replace C:=fun k' ds u=>C k' ds (u1.trans u);intro k2 u2;replace a:=a.up u2;exact C _ _ u2 a
theorem aSg {p p':Nat}{x0 x1 x2 x3 y0 y1 y2 y3:Int}(hx:Box4 k p x0 x1 x2 x3 K) (hy:Box4 k p' y0 y1 y2 y3 K) (hK:K≤268435456) (C:∀k' ds,Up k k'→IntV k' ds (x1*y1) (2*K)→R k' (.agg ds)) :
 Cl k 199 #[.int .i64 1,.int .i64 1,.pointer (some ⟨p,0,none⟩),.pointer (some ⟨p',0,none⟩)] R:=by
 have e2:2*K=K+K:=oq
 rw [e2]at C;intro k0 u0;replace hx:=hx.up u0;replace hy:=hy.up u0;replace C:=fun k' ds u=>C k' ds (u0.trans u);obtain⟨c0,c1,c2,c3,hb,h0,h1,h2,h3⟩:=hx;obtain⟨d0,d1,d2,d3,hb',g0,g1,g2,g3⟩:=hy;refine aOb h0.seg h1.seg h2.seg h3.seg g0.seg g1.seg g2.seg g3.seg hb hb' ?_;refine bR h1 g1 oq oq ?_;intro k1 cA u1 a;refine⟨cA,a.seg,rfl,?_⟩;replace C:=fun k' ds u=>C k' ds (u1.trans u);intro k2 u2;replace a:=a.up u2;exact C _ _ u2 a
theorem aSh {p p':Nat}{x0 x1 x2 x3 y0 y1 y2 y3:Int}(hx:Box4 k p x0 x1 x2 x3 K) (hy:Box4 k p' y0 y1 y2 y3 K) (hK:K≤268435456) (C:∀k' ds,Up k k'→IntV k' ds (x1*y2) (2*K)→R k' (.agg ds)) :
 Cl k 199 #[.int .i64 1,.int .i64 2,.pointer (some ⟨p,0,none⟩),.pointer (some ⟨p',0,none⟩)] R:=by
 have e2:2*K=K+K:=oq
 rw [e2]at C;intro k0 u0;replace hx:=hx.up u0;replace hy:=hy.up u0;replace C:=fun k' ds u=>C k' ds (u0.trans u);obtain⟨c0,c1,c2,c3,hb,h0,h1,h2,h3⟩:=hx;obtain⟨d0,d1,d2,d3,hb',g0,g1,g2,g3⟩:=hy;refine aOc h0.seg h1.seg h2.seg h3.seg g0.seg g1.seg g2.seg g3.seg hb hb' ?_;refine bR h1 g2 oq oq ?_;intro k1 cA u1 a;refine⟨cA,a.seg,rfl,?_⟩;replace C:=fun k' ds u=>C k' ds (u1.trans u);intro k2 u2;replace a:=a.up u2;exact C _ _ u2 a
theorem aSi {p p':Nat}{x0 x1 x2 x3 y0 y1 y2 y3:Int}(hx:Box4 k p x0 x1 x2 x3 K) (hy:Box4 k p' y0 y1 y2 y3 K) (hK:K≤268435456) (C:∀k' ds,Up k k'→IntV k' ds (x1*y3) (2*K)→R k' (.agg ds)) :
 Cl k 199 #[.int .i64 1,.int .i64 3,.pointer (some ⟨p,0,none⟩),.pointer (some ⟨p',0,none⟩)] R:=by
 have e2:2*K=K+K:=oq
 rw [e2]at C;intro k0 u0;replace hx:=hx.up u0;replace hy:=hy.up u0;replace C:=fun k' ds u=>C k' ds (u0.trans u);obtain⟨c0,c1,c2,c3,hb,h0,h1,h2,h3⟩:=hx;obtain⟨d0,d1,d2,d3,hb',g0,g1,g2,g3⟩:=hy;refine aOd h0.seg h1.seg h2.seg h3.seg g0.seg g1.seg g2.seg g3.seg hb hb' ?_;refine bR h1 g3 oq oq ?_;intro k1 cA u1 a;refine⟨cA,a.seg,rfl,?_⟩;replace C:=fun k' ds u=>C k' ds (u1.trans u);intro k2 u2;replace a:=a.up u2;exact C _ _ u2 a
theorem aSj {p p':Nat}{x0 x1 x2 x3 y0 y1 y2 y3:Int}(hx:Box4 k p x0 x1 x2 x3 K) (hy:Box4 k p' y0 y1 y2 y3 K) (hK:K≤268435456) (C:∀k' ds,Up k k'→IntV k' ds (x2*y0) (2*K)→R k' (.agg ds)) :
 Cl k 199 #[.int .i64 2,.int .i64 0,.pointer (some ⟨p,0,none⟩),.pointer (some ⟨p',0,none⟩)] R:=by
 have e2:2*K=K+K:=oq
 rw [e2]at C;intro k0 u0;replace hx:=hx.up u0;replace hy:=hy.up u0;replace C:=fun k' ds u=>C k' ds (u0.trans u);obtain⟨c0,c1,c2,c3,hb,h0,h1,h2,h3⟩:=hx;obtain⟨d0,d1,d2,d3,hb',g0,g1,g2,g3⟩:=hy;refine aOe h0.seg h1.seg h2.seg h3.seg g0.seg g1.seg g2.seg g3.seg hb hb' ?_;refine bR h2 g0 oq oq ?_;intro k1 cA u1 a;refine⟨cA,a.seg,rfl,?_⟩;replace C:=fun k' ds u=>C k' ds (u1.trans u);intro k2 u2;replace a:=a.up u2;exact C _ _ u2 a
theorem aSk {p p':Nat}{x0 x1 x2 x3 y0 y1 y2 y3:Int}(hx:Box4 k p x0 x1 x2 x3 K) (hy:Box4 k p' y0 y1 y2 y3 K) (hK:K≤268435456) (C:∀k' ds,Up k k'→IntV k' ds (x2*y1) (2*K)→R k' (.agg ds)) :
 Cl k 199 #[.int .i64 2,.int .i64 1,.pointer (some ⟨p,0,none⟩),.pointer (some ⟨p',0,none⟩)] R:=by
 have e2:2*K=K+K:=oq
 rw [e2]at C;intro k0 u0;replace hx:=hx.up u0;replace hy:=hy.up u0;replace C:=fun k' ds u=>C k' ds (u0.trans u);obtain⟨c0,c1,c2,c3,hb,h0,h1,h2,h3⟩:=hx;obtain⟨d0,d1,d2,d3,hb',g0,g1,g2,g3⟩:=hy;refine aOf h0.seg h1.seg h2.seg h3.seg g0.seg g1.seg g2.seg g3.seg hb hb' ?_;refine bR h2 g1 oq oq ?_;intro k1 cA u1 a;refine⟨cA,a.seg,rfl,?_⟩;replace C:=fun k' ds u=>C k' ds (u1.trans u);intro k2 u2;replace a:=a.up u2;exact C _ _ u2 a
theorem aSl {p p':Nat}{x0 x1 x2 x3 y0 y1 y2 y3:Int}(hx:Box4 k p x0 x1 x2 x3 K) (hy:Box4 k p' y0 y1 y2 y3 K) (hK:K≤268435456) (C:∀k' ds,Up k k'→IntV k' ds (x2*y2) (2*K)→R k' (.agg ds)) :
 Cl k 199 #[.int .i64 2,.int .i64 2,.pointer (some ⟨p,0,none⟩),.pointer (some ⟨p',0,none⟩)] R:=by
 have e2:2*K=K+K:=oq
 rw [e2]at C;intro k0 u0;replace hx:=hx.up u0;replace hy:=hy.up u0;replace C:=fun k' ds u=>C k' ds (u0.trans u);obtain⟨c0,c1,c2,c3,hb,h0,h1,h2,h3⟩:=hx;obtain⟨d0,d1,d2,d3,hb',g0,g1,g2,g3⟩:=hy;refine aOg h0.seg h1.seg h2.seg h3.seg g0.seg g1.seg g2.seg g3.seg hb hb' ?_;refine bR h2 g2 oq oq ?_;intro k1 cA u1 a;refine⟨cA,a.seg,rfl,?_⟩;replace C:=fun k' ds u=>C k' ds (u1.trans u);intro k2 u2;replace a:=a.up u2;exact C _ _ u2 a
theorem aSm {p p':Nat}{x0 x1 x2 x3 y0 y1 y2 y3:Int}(hx:Box4 k p x0 x1 x2 x3 K) (hy:Box4 k p' y0 y1 y2 y3 K) (hK:K≤268435456) (C:∀k' ds,Up k k'→IntV k' ds (x2*y3) (2*K)→R k' (.agg ds)) :
 Cl k 199 #[.int .i64 2,.int .i64 3,.pointer (some ⟨p,0,none⟩),.pointer (some ⟨p',0,none⟩)] R:=by
 have e2:2*K=K+K:=oq
 rw [e2]at C;intro k0 u0;replace hx:=hx.up u0;replace hy:=hy.up u0;replace C:=fun k' ds u=>C k' ds (u0.trans u);obtain⟨c0,c1,c2,c3,hb,h0,h1,h2,h3⟩:=hx;obtain⟨d0,d1,d2,d3,hb',g0,g1,g2,g3⟩:=hy;refine aOh h0.seg h1.seg h2.seg h3.seg g0.seg g1.seg g2.seg g3.seg hb hb' ?_;refine bR h2 g3 oq oq ?_;intro k1 cA u1 a;refine⟨cA,a.seg,rfl,?_⟩;replace C:=fun k' ds u=>C k' ds (u1.trans u);intro k2 u2;replace a:=a.up u2;exact C _ _ u2 a
theorem aSn {p p':Nat}{x0 x1 x2 x3 y0 y1 y2 y3:Int}(hx:Box4 k p x0 x1 x2 x3 K) (hy:Box4 k p' y0 y1 y2 y3 K) (hK:K≤268435456) (C:∀k' ds,Up k k'→IntV k' ds (x3*y0) (2*K)→R k' (.agg ds)) :
 Cl k 199 #[.int .i64 3,.int .i64 0,.pointer (some ⟨p,0,none⟩),.pointer (some ⟨p',0,none⟩)] R:=by
 have e2:2*K=K+K:=oq
 rw [e2]at C;intro k0 u0;replace hx:=hx.up u0;replace hy:=hy.up u0;replace C:=fun k' ds u=>C k' ds (u0.trans u);obtain⟨c0,c1,c2,c3,hb,h0,h1,h2,h3⟩:=hx;obtain⟨d0,d1,d2,d3,hb',g0,g1,g2,g3⟩:=hy;refine aOi h0.seg h1.seg h2.seg h3.seg g0.seg g1.seg g2.seg g3.seg hb hb' ?_;refine bR h3 g0 oq oq ?_;intro k1 cA u1 a;refine⟨cA,a.seg,rfl,?_⟩;replace C:=fun k' ds u=>C k' ds (u1.trans u);intro k2 u2;replace a:=a.up u2;exact C _ _ u2 a
theorem aSo {p p':Nat}{x0 x1 x2 x3 y0 y1 y2 y3:Int}(hx:Box4 k p x0 x1 x2 x3 K) (hy:Box4 k p' y0 y1 y2 y3 K) (hK:K≤268435456) (C:∀k' ds,Up k k'→IntV k' ds (x3*y1) (2*K)→R k' (.agg ds)) :
 Cl k 199 #[.int .i64 3,.int .i64 1,.pointer (some ⟨p,0,none⟩),.pointer (some ⟨p',0,none⟩)] R:=by
 have e2:2*K=K+K:=oq
 rw [e2]at C;intro k0 u0;replace hx:=hx.up u0;replace hy:=hy.up u0;replace C:=fun k' ds u=>C k' ds (u0.trans u);obtain⟨c0,c1,c2,c3,hb,h0,h1,h2,h3⟩:=hx;obtain⟨d0,d1,d2,d3,hb',g0,g1,g2,g3⟩:=hy;refine aOj h0.seg h1.seg h2.seg h3.seg g0.seg g1.seg g2.seg g3.seg hb hb' ?_;refine bR h3 g1 oq oq ?_;intro k1 cA u1 a;refine⟨cA,a.seg,rfl,?_⟩;replace C:=fun k' ds u=>C k' ds (u1.trans u);intro k2 u2;replace a:=a.up u2;exact C _ _ u2 a
theorem aSp {p p':Nat}{x0 x1 x2 x3 y0 y1 y2 y3:Int}(hx:Box4 k p x0 x1 x2 x3 K) (hy:Box4 k p' y0 y1 y2 y3 K) (hK:K≤268435456) (C:∀k' ds,Up k k'→IntV k' ds (x3*y2) (2*K)→R k' (.agg ds)) :
 Cl k 199 #[.int .i64 3,.int .i64 2,.pointer (some ⟨p,0,none⟩),.pointer (some ⟨p',0,none⟩)] R:=by
 have e2:2*K=K+K:=oq
 rw [e2]at C;intro k0 u0;replace hx:=hx.up u0;replace hy:=hy.up u0;replace C:=fun k' ds u=>C k' ds (u0.trans u);obtain⟨c0,c1,c2,c3,hb,h0,h1,h2,h3⟩:=hx;obtain⟨d0,d1,d2,d3,hb',g0,g1,g2,g3⟩:=hy;refine aOk h0.seg h1.seg h2.seg h3.seg g0.seg g1.seg g2.seg g3.seg hb hb' ?_;refine bR h3 g2 oq oq ?_;intro k1 cA u1 a;refine⟨cA,a.seg,rfl,?_⟩;replace C:=fun k' ds u=>C k' ds (u1.trans u);intro k2 u2;replace a:=a.up u2;exact C _ _ u2 a
theorem aSq {p p':Nat}{x0 x1 x2 x3 y0 y1 y2 y3:Int}(hx:Box4 k p x0 x1 x2 x3 K) (hy:Box4 k p' y0 y1 y2 y3 K) (hK:K≤268435456) (C:∀k' ds,Up k k'→IntV k' ds (x3*y3) (2*K)→R k' (.agg ds)) :
 Cl k 199 #[.int .i64 3,.int .i64 3,.pointer (some ⟨p,0,none⟩),.pointer (some ⟨p',0,none⟩)] R:=by
 have e2:2*K=K+K:=oq
 rw [e2]at C;intro k0 u0;replace hx:=hx.up u0;replace hy:=hy.up u0;replace C:=fun k' ds u=>C k' ds (u0.trans u);obtain⟨c0,c1,c2,c3,hb,h0,h1,h2,h3⟩:=hx;obtain⟨d0,d1,d2,d3,hb',g0,g1,g2,g3⟩:=hy;refine aOl h0.seg h1.seg h2.seg h3.seg g0.seg g1.seg g2.seg g3.seg hb hb' ?_;refine bR h3 g3 oq oq ?_;intro k1 cA u1 a;refine⟨cA,a.seg,rfl,?_⟩;replace C:=fun k' ds u=>C k' ds (u1.trans u);intro k2 u2;replace a:=a.up u2;exact C _ _ u2 a
theorem aGq {c0 c1 c2 c3 c0' c1' c2' c3':Array Value}{x0 x1 x2 x3 y0 y1 y2 y3:Int}(i0:IntV k c0 x0 K) (i1:IntV k c1 x1 K) (i2:IntV k c2 x2 K) (i3:IntV k c3 x3 K) (j0:IntV k c0' y0 K) (j1:IntV k c1' y1 K) (j2:IntV k c2' y2 K) (j3:IntV k c3' y3 K) (hK:K≤268435456)
 (C:∀k' d0 d1 d2 d3,Up k k'→IntV k' d0 (x0*y0+x1*y1*(2:Nat)+x2*y2*(3:Nat)+x3*y3*(6:Nat)) (2*K+4)→IntV k' d1 (x0*y1+x1*y0+(x2*y3+x3*y2)*(3:Nat)) (2*K+4)→IntV k' d2 (x0*y2+x2*y0+(x1*y3+x3*y1)*(2:Nat)) (2*K+4)→IntV k' d3 (x0*y3+x3*y0+x1*y2+x2*y1) (2*K+4)→R k' (.agg (d0.toList++(d1.toList++(d2.toList++(d3.toList++([]))))).toArray)) :
 Cl k 109 #[.agg (c0.toList++(c1.toList++(c2.toList++(c3.toList++([]))))).toArray,.agg (c0'.toList++(c1'.toList++(c2'.toList++(c3'.toList++([]))))).toArray] R:=by
 intro k0 u0;replace i0:=i0.up u0;replace i1:=i1.up u0;replace i2:=i2.up u0;replace i3:=i3.up u0;replace j0:=j0.up u0;replace j1:=j1.up u0;replace j2:=j2.up u0;replace j3:=j3.up u0;replace C:=fun k' d0 d1 d2 d3 u=>C k' d0 d1 d2 d3 (u0.trans u);refine aBj i0.seg i1.seg i2.seg i3.seg j0.seg j1.seg j2.seg j3.seg ?_;intro p kA uA hA;replace C:=fun k' d0 d1 d2 d3 u=>C k' d0 d1 d2 d3 (uA.trans u);have bx:Box4 kA p x0 x1 x2 x3 K:=⟨c0,c1,c2,c3,hA,i0.up uA,i1.up uA,i2.up uA,i3.up uA⟩;intro p' kB uB hB;replace C:=fun k' d0 d1 d2 d3 u=>C k' d0 d1 d2 d3 (uB.trans u);replace uA:=uA.trans uB;have bz:Box4 kB p' y0 y1 y2 y3 K:=⟨c0',c1',c2',c3',hB,j0.up uA,j1.up uA,j2.up uA,j3.up uA⟩;replace bx:=bx.up uB;clear hA hB i0 i1 i2 i3 j0 j1 j2 j3;refine aSb bx bz oq ?_;intro k1 ea1 u1 a1;refine⟨ea1,a1.seg,rfl,?_⟩;replace bx:=bx.up u1;replace bz:=bz.up u1;replace C:=fun k' d0 d1 d2 d3 u=>C k' d0 d1 d2 d3 (u1.trans u);refine aSg bx bz oq ?_;intro k2 ea2 u2 a2;refine⟨ea2,a2.seg,rfl,?_⟩;replace bx:=bx.up u2;replace bz:=bz.up u2;replace a1:=a1.up u2;replace C:=fun k' d0 d1 d2 d3 u=>C k' d0 d1 d2 d3 (u2.trans u);refine rG (m:=2) a2 oq oq ?_;intro k3 ea3 u3 a3;refine⟨ea3,a3.seg,rfl,?_⟩;replace bx:=bx.up u3;replace bz:=bz.up u3;replace a1:=a1.up u3;replace C:=fun k' d0 d1 d2 d3 u=>C k' d0 d1 d2 d3 (u3.trans u);refine cL a1 a3 (M:=2*K+1) oq oq oq ?_;intro k4 ea4 u4 a4;refine⟨ea4,a4.seg,rfl,?_⟩;replace bx:=bx.up u4;replace bz:=bz.up u4;replace C:=fun k' d0 d1 d2 d3 u=>C k' d0 d1 d2 d3 (u4.trans u);refine aSl bx bz oq ?_;intro k5 ea5 u5 a5;refine⟨ea5,a5.seg,rfl,?_⟩;replace bx:=bx.up u5;replace bz:=bz.up u5;replace a4:=a4.up u5;replace C:=fun k' d0 d1 d2 d3 u=>C k' d0 d1 d2 d3 (u5.trans u);refine rG (m:=3) a5 oq oq ?_;intro k6 ea6 u6 a6;refine⟨ea6,a6.seg,rfl,?_⟩;replace bx:=bx.up u6;replace bz:=bz.up u6;replace a4:=a4.up u6;replace C:=fun k' d0 d1 d2 d3 u=>C k' d0 d1 d2 d3 (u6.trans u);refine cL a4 a6 (M:=2*K+2) oq oq oq ?_;intro k7 ea7 u7 a7;refine⟨ea7,a7.seg,rfl,?_⟩;replace bx:=bx.up u7;replace bz:=bz.up u7;replace C:=fun k' d0 d1 d2 d3 u=>C k' d0 d1 d2 d3 (u7.trans u);refine aSq bx bz oq ?_;intro k8 ea8 u8 a8;refine⟨ea8,a8.seg,rfl,?_⟩;replace bx:=bx.up u8;replace bz:=bz.up u8;replace a7:=a7.up u8;replace C:=fun k' d0 d1 d2 d3 u=>C k' d0 d1 d2 d3 (u8.trans u);refine rG (m:=6) a8 oq oq ?_;intro k9 ea9 u9 a9;refine⟨ea9,a9.seg,rfl,?_⟩;replace bx:=bx.up u9;replace bz:=bz.up u9;replace a7:=a7.up u9;replace C:=fun k' d0 d1 d2 d3 u=>C k' d0 d1 d2 d3 (u9.trans u);refine cL a7 a9 (M:=2*K+3) oq oq oq ?_;intro k10 ea10 u10 a10;refine⟨ea10,a10.seg,rfl,?_⟩;replace bx:=bx.up u10;replace bz:=bz.up u10;replace C:=fun k' d0 d1 d2 d3 u=>C k' d0 d1 d2 d3 (u10.trans u);refine aSc bx bz oq ?_;intro k11 ea11 u11 a11;refine⟨ea11,a11.seg,rfl,?_⟩;replace bx:=bx.up u11;replace bz:=bz.up u11;replace a10:=a10.up u11
 replace C:=fun k' d0 d1 d2 d3 u=>C k' d0 d1 d2 d3 (u11.trans u);refine aSf bx bz oq ?_;intro k12 ea12 u12 a12;refine⟨ea12,a12.seg,rfl,?_⟩;replace bx:=bx.up u12;replace bz:=bz.up u12;replace a10:=a10.up u12;replace a11:=a11.up u12;replace C:=fun k' d0 d1 d2 d3 u=>C k' d0 d1 d2 d3 (u12.trans u);refine cL a11 a12 (M:=2*K+0) oq oq oq ?_;intro k13 ea13 u13 a13;refine⟨ea13,a13.seg,rfl,?_⟩;replace bx:=bx.up u13;replace bz:=bz.up u13;replace a10:=a10.up u13;replace C:=fun k' d0 d1 d2 d3 u=>C k' d0 d1 d2 d3 (u13.trans u);refine aSm bx bz oq ?_;intro k14 ea14 u14 a14;refine⟨ea14,a14.seg,rfl,?_⟩;replace bx:=bx.up u14;replace bz:=bz.up u14;replace a10:=a10.up u14;replace a13:=a13.up u14;replace C:=fun k' d0 d1 d2 d3 u=>C k' d0 d1 d2 d3 (u14.trans u);refine aSp bx bz oq ?_;intro k15 ea15 u15 a15;refine⟨ea15,a15.seg,rfl,?_⟩;replace bx:=bx.up u15;replace bz:=bz.up u15;replace a10:=a10.up u15;replace a13:=a13.up u15;replace a14:=a14.up u15;replace C:=fun k' d0 d1 d2 d3 u=>C k' d0 d1 d2 d3 (u15.trans u);refine cL a14 a15 (M:=2*K+0) oq oq oq ?_;intro k16 ea16 u16 a16;refine⟨ea16,a16.seg,rfl,?_⟩;replace bx:=bx.up u16;replace bz:=bz.up u16;replace a10:=a10.up u16;replace a13:=a13.up u16;replace C:=fun k' d0 d1 d2 d3 u=>C k' d0 d1 d2 d3 (u16.trans u);refine rG (m:=3) a16 oq oq ?_;intro k17 ea17 u17 a17;refine⟨ea17,a17.seg,rfl,?_⟩;replace bx:=bx.up u17;replace bz:=bz.up u17;replace a10:=a10.up u17;replace a13:=a13.up u17;replace C:=fun k' d0 d1 d2 d3 u=>C k' d0 d1 d2 d3 (u17.trans u);refine cL a13 a17 (M:=2*K+2) oq oq oq ?_;intro k18 ea18 u18 a18;refine⟨ea18,a18.seg,rfl,?_⟩;replace bx:=bx.up u18;replace bz:=bz.up u18;replace a10:=a10.up u18;replace C:=fun k' d0 d1 d2 d3 u=>C k' d0 d1 d2 d3 (u18.trans u);refine aSd bx bz oq ?_;intro k19 ea19 u19 a19;refine⟨ea19,a19.seg,rfl,?_⟩;replace bx:=bx.up u19;replace bz:=bz.up u19;replace a10:=a10.up u19;replace a18:=a18.up u19;replace C:=fun k' d0 d1 d2 d3 u=>C k' d0 d1 d2 d3 (u19.trans u);refine aSj bx bz oq ?_;intro k20 ea20 u20 a20;refine⟨ea20,a20.seg,rfl,?_⟩;replace bx:=bx.up u20;replace bz:=bz.up u20;replace a10:=a10.up u20;replace a18:=a18.up u20;replace a19:=a19.up u20;replace C:=fun k' d0 d1 d2 d3 u=>C k' d0 d1 d2 d3 (u20.trans u);refine cL a19 a20 (M:=2*K+0) oq oq oq ?_;intro k21 ea21 u21 a21;refine⟨ea21,a21.seg,rfl,?_⟩;replace bx:=bx.up u21;replace bz:=bz.up u21;replace a10:=a10.up u21;replace a18:=a18.up u21;replace C:=fun k' d0 d1 d2 d3 u=>C k' d0 d1 d2 d3 (u21.trans u);refine aSi bx bz oq ?_;intro k22 ea22 u22 a22;refine⟨ea22,a22.seg,rfl,?_⟩;replace bx:=bx.up u22;replace bz:=bz.up u22;replace a10:=a10.up u22;replace a18:=a18.up u22;replace a21:=a21.up u22;replace C:=fun k' d0 d1 d2 d3 u=>C k' d0 d1 d2 d3 (u22.trans u);refine aSo bx bz oq ?_;intro k23 ea23 u23 a23;refine⟨ea23,a23.seg,rfl,?_⟩;replace bx:=bx.up u23
 replace bz:=bz.up u23;replace a10:=a10.up u23;replace a18:=a18.up u23;replace a21:=a21.up u23;replace a22:=a22.up u23;replace C:=fun k' d0 d1 d2 d3 u=>C k' d0 d1 d2 d3 (u23.trans u);refine cL a22 a23 (M:=2*K+0) oq oq oq ?_;intro k24 ea24 u24 a24;refine⟨ea24,a24.seg,rfl,?_⟩;replace bx:=bx.up u24;replace bz:=bz.up u24;replace a10:=a10.up u24;replace a18:=a18.up u24;replace a21:=a21.up u24;replace C:=fun k' d0 d1 d2 d3 u=>C k' d0 d1 d2 d3 (u24.trans u);refine rG (m:=2) a24 oq oq ?_;intro k25 ea25 u25 a25;refine⟨ea25,a25.seg,rfl,?_⟩;replace bx:=bx.up u25;replace bz:=bz.up u25;replace a10:=a10.up u25;replace a18:=a18.up u25;replace a21:=a21.up u25;replace C:=fun k' d0 d1 d2 d3 u=>C k' d0 d1 d2 d3 (u25.trans u);refine cL a21 a25 (M:=2*K+2) oq oq oq ?_;intro k26 ea26 u26 a26;refine⟨ea26,a26.seg,rfl,?_⟩;replace bx:=bx.up u26;replace bz:=bz.up u26;replace a10:=a10.up u26;replace a18:=a18.up u26;replace C:=fun k' d0 d1 d2 d3 u=>C k' d0 d1 d2 d3 (u26.trans u);refine aSe bx bz oq ?_;intro k27 ea27 u27 a27;refine⟨ea27,a27.seg,rfl,?_⟩;replace bx:=bx.up u27;replace bz:=bz.up u27;replace a10:=a10.up u27;replace a18:=a18.up u27;replace a26:=a26.up u27;replace C:=fun k' d0 d1 d2 d3 u=>C k' d0 d1 d2 d3 (u27.trans u);refine aSn bx bz oq ?_;intro k28 ea28 u28 a28;refine⟨ea28,a28.seg,rfl,?_⟩;replace bx:=bx.up u28;replace bz:=bz.up u28;replace a10:=a10.up u28;replace a18:=a18.up u28;replace a26:=a26.up u28;replace a27:=a27.up u28;replace C:=fun k' d0 d1 d2 d3 u=>C k' d0 d1 d2 d3 (u28.trans u);refine cL a27 a28 (M:=2*K+0) oq oq oq ?_;intro k29 ea29 u29 a29;refine⟨ea29,a29.seg,rfl,?_⟩;replace bx:=bx.up u29;replace bz:=bz.up u29;replace a10:=a10.up u29;replace a18:=a18.up u29;replace a26:=a26.up u29;replace C:=fun k' d0 d1 d2 d3 u=>C k' d0 d1 d2 d3 (u29.trans u);refine aSh bx bz oq ?_;intro k30 ea30 u30 a30;refine⟨ea30,a30.seg,rfl,?_⟩;replace bx:=bx.up u30;replace bz:=bz.up u30;replace a10:=a10.up u30;replace a18:=a18.up u30;replace a26:=a26.up u30;replace a29:=a29.up u30;replace C:=fun k' d0 d1 d2 d3 u=>C k' d0 d1 d2 d3 (u30.trans u);refine cL a29 a30 (M:=2*K+1) oq oq oq ?_;intro k31 ea31 u31 a31;refine⟨ea31,a31.seg,rfl,?_⟩;replace bx:=bx.up u31;replace bz:=bz.up u31;replace a10:=a10.up u31;replace a18:=a18.up u31;replace a26:=a26.up u31;replace C:=fun k' d0 d1 d2 d3 u=>C k' d0 d1 d2 d3 (u31.trans u);refine aSk bx bz oq ?_;intro k32 ea32 u32 a32;refine⟨ea32,a32.seg,rfl,?_⟩;replace a10:=a10.up u32;replace a18:=a18.up u32;replace a26:=a26.up u32;replace a31:=a31.up u32;replace C:=fun k' d0 d1 d2 d3 u=>C k' d0 d1 d2 d3 (u32.trans u);refine cL a31 a32 (M:=2*K+2) oq oq oq ?_;intro k33 ea33 u33 a33;refine⟨ea33,a33.seg,rfl,?_⟩;replace a10:=a10.up u33;replace a18:=a18.up u33;replace a26:=a26.up u33;replace C:=fun k' d0 d1 d2 d3 u=>C k' d0 d1 d2 d3 (u33.trans u);intro k34 u34
 replace a10:=a10.up u34;replace a18:=a18.up u34;replace a26:=a26.up u34;replace a33:=a33.up u34;exact C _ _ _ _ _ u34 (a10.mono oq) (a18.mono oq) (a26.mono oq) (a33.mono oq)
theorem aDr (x0 x1 x2 x3 y0 y1 y2 y3:Int) {m n:Nat}(hm:0<m) (hn:0<n):mkQ (x0*y0+x1*y1*(2:Nat)+x2*y2*(3:Nat)+x3*y3*(6:Nat)) (x0*y1+x1*y0+(x2*y3+x3*y2)*(3:Nat)) (x0*y2+x2*y0+(x1*y3+x3*y1)*(2:Nat)) (x0*y3+x3*y0+x1*y2+x2*y1) (m*n)=(mkQ x0 x1 x2 x3 m).mul (mkQ y0 y1 y2 y3 n):=by
 have h:=xk hm hn;unfold mkQ Q4.mul;simp only [aFr _ _ h,oV _ _ h,aAu];rfl
theorem lF (hx:SurdV k cs v K) (hy:SurdV k cs' v' K) (hK1:1≤K) (hK:K≤268435456) (C:∀k' ds,Up k k'→SurdV k' ds (v.mul v') (2*K+4)→R k' (.agg ds)) :
 Cl k 37 #[.agg cs,.agg cs'] R:=by
 obtain⟨c0,c1,c2,c3,D,d,e,x0,x1,x2,x3,m,rfl,hm,hg,rfl,i0,i1,i2,i3,lx,hd⟩:=hx;obtain⟨c0',c1',c2',c3',D',d',e',y0,y1,y2,y3,n,rfl,hn,hg',rfl,j0,j1,j2,j3,ly,hd'⟩:=hy;intro k0 u0;replace i0:=i0.up u0;replace i1:=i1.up u0;replace i2:=i2.up u0;replace i3:=i3.up u0;replace lx:=lx.up u0;replace j0:=j0.up u0;replace j1:=j1.up u0;replace j2:=j2.up u0;replace j3:=j3.up u0;replace ly:=ly.up u0;replace C:=fun k' ds u=>C k' ds (u0.trans u);refine aNn i0.seg i1.seg i2.seg i3.seg j0.seg j1.seg j2.seg j3.seg ?_;refine aGq i0 i1 i2 i3 j0 j1 j2 j3 oq ?_;intro k1 d0 d1 d2 d3 u1 z0 z1 z2 z3;refine⟨d0,z0.seg,d1,z1.seg,d2,z2.seg,d3,z3.seg,rfl,?_⟩;replace lx:=lx.up u1;replace ly:=ly.up u1;replace C:=fun k' ds u=>C k' ds (u1.trans u);refine hC lx hm (L:=K) hd hK1 oq ?_;intro k2 D1 q1 e1 u2 lx' hd1;refine⟨D1,q1,e1,rfl,?_⟩;replace ly:=ly.up u2;replace z0:=z0.up u2;replace z1:=z1.up u2;replace z2:=z2.up u2;replace z3:=z3.up u2;replace C:=fun k' ds u=>C k' ds (u2.trans u);refine hC ly hn (L:=K) hd' hK1 oq ?_;intro k3 D2 q2 e2 u3 ly' hd2;refine⟨D2,q2,e2,rfl,?_⟩;replace z0:=z0.up u3;replace z1:=z1.up u3;replace z2:=z2.up u3;replace z3:=z3.up u3;replace lx':=lx'.up u3;replace C:=fun k' ds u=>C k' ds (u3.trans u);refine aEe lx' ly' oq oq ?_;intro k4 D3 q3 e3 u4 lm hd3;refine⟨D3,q3,e3,rfl,?_⟩;replace z0:=z0.up u4;replace z1:=z1.up u4;replace z2:=z2.up u4;replace z3:=z3.up u4;replace C:=fun k' ds u=>C k' ds (u4.trans u);refine aLw z0 z1 z2 z3 lm (xk hm hn) oq oq ?_;intro k17 ds u17 hs;obtain⟨c0,c1,c2,c3,D,d,e,hcs,h9⟩:=hs.cells;refine⟨c0,h9.1,c1,h9.2.1,c2,h9.2.2.1,c3,h9.2.2.2,D,d,e,by rw [hcs];rfl,?_⟩;intro k18 u18;have:=C k18 ds (u17.trans u18) (by rw [←aDr x0 x1 x2 x3 y0 y1 y2 y3 hm hn];exact hs.up u18);rw [hcs]at this;exact this
theorem RatV.intV {q:Rat}(h:RatV k cs q K):∃c0 A n c,cs=(c0.toList++((.slice A n c) :: [])).toArray∧IntV k c0 q.num K∧LimR k A n c (if q.den=1 then 0 else q.den)∧n≤K:=by
 obtain⟨g,A,n,c,D,d,e,rfl,h,h1,h2⟩:=h;exact⟨#[.bool g,.slice A n c],D,d,e,rfl,⟨g,A,n,c,rfl,h.num,h1⟩,h.den,h2⟩
theorem aIx (q:Rat):gcd5 q.den q.num.natAbs 0 0 0=1:=by
 unfold gcd5;simp only [Nat.gcd_zero_right];rw [kn];exact q.reduced
theorem aJr (q:Rat):Q4.real q=mkQ q.num 0 0 0 q.den:=by
 unfold mkQ Q4.real;simp [Rat.mkRat_self]
theorem IntV.nil:IntV k #[.bool false,.slice none 0 0] 0 K:=⟨false,none,0,0,rfl,⟨rfl,LimR.nil⟩,jw _⟩
theorem qK {q:Rat}(hx:SurdV k cs v L) (hy:RatV k cs' q K) (C:∀k' ds,Up k k'→SurdV k' ds (Q4.real q) K→R k' (.agg ds)) :
 Cl k 38 #[.agg cs,.agg cs'] R:=by
 intro k0 u0;obtain⟨c0,c1,c2,c3,D,d,e,rfl,s0,s1,s2,s3⟩:=hx.cells;obtain⟨d0,A,n,c,rfl,iq,lq,hn⟩:=hy.intV;refine aRt s0 s1 s2 s3 iq.seg ?_;intro k1 u1;have u:=u0.trans u1;refine C k1 _ u ⟨d0,_,_,_,A,n,c,q.num,0,0,0,q.den,rfl,q.den_pos,aIx q,aJr q,iq.up u,IntV.nil,IntV.nil,IntV.nil,lq.up u,hn⟩
theorem aNk (hx:SurdV k cs v K) (hK1:1≤K) (hK:K≤268435456) (C:∀k' d0 d1 d2 d3,Up k k'→RatV k' d0 v.a K→RatV k' d1 v.b K→RatV k' d2 v.c K→RatV k' d3 v.d K→R k' (.agg (d0.toList++(d1.toList++(d2.toList++(d3.toList++([]))))).toArray)) :
 Cl k 165 #[.agg cs] R:=by
 obtain⟨c0,c1,c2,c3,D,d,e,x0,x1,x2,x3,m,rfl,hm,hg,rfl,i0,i1,i2,i3,lx,hd⟩:=hx;intro k0 u0;replace i0:=i0.up u0;replace i1:=i1.up u0;replace i2:=i2.up u0;replace i3:=i3.up u0;replace lx:=lx.up u0;replace C:=fun k' d0 d1 d2 d3 u=>C k' d0 d1 d2 d3 (u0.trans u);refine aHt i0.seg i1.seg i2.seg i3.seg ?_;refine hC lx hm (L:=K) hd hK1 oq ?_;intro k1 D0 q0 e0 u1 l0 w0;refine⟨D0,q0,e0,rfl,?_⟩;replace i0:=i0.up u1;replace i1:=i1.up u1;replace i2:=i2.up u1;replace i3:=i3.up u1;replace lx:=lx.up u1;replace C:=fun k' d0 d1 d2 d3 u=>C k' d0 d1 d2 d3 (u1.trans u);refine oA i0 l0 hm oq w0 ?_;intro k2 cA0 u2 r0;refine⟨cA0,r0.seg,rfl,?_⟩;replace i1:=i1.up u2;replace i2:=i2.up u2;replace i3:=i3.up u2;replace lx:=lx.up u2;replace C:=fun k' d0 d1 d2 d3 u=>C k' d0 d1 d2 d3 (u2.trans u);refine hC lx hm (L:=K) hd hK1 oq ?_;intro k3 D1 q1 e1 u3 l1 w1;refine⟨D1,q1,e1,rfl,?_⟩;replace i1:=i1.up u3;replace i2:=i2.up u3;replace i3:=i3.up u3;replace lx:=lx.up u3;replace r0:=r0.up u3;replace C:=fun k' d0 d1 d2 d3 u=>C k' d0 d1 d2 d3 (u3.trans u);refine oA i1 l1 hm oq w1 ?_;intro k4 cA1 u4 r1;refine⟨cA1,r1.seg,rfl,?_⟩;replace i2:=i2.up u4;replace i3:=i3.up u4;replace lx:=lx.up u4;replace r0:=r0.up u4;replace C:=fun k' d0 d1 d2 d3 u=>C k' d0 d1 d2 d3 (u4.trans u);refine hC lx hm (L:=K) hd hK1 oq ?_;intro k5 D2 q2 e2 u5 l2 w2;refine⟨D2,q2,e2,rfl,?_⟩;replace i2:=i2.up u5;replace i3:=i3.up u5;replace lx:=lx.up u5;replace r0:=r0.up u5;replace r1:=r1.up u5;replace C:=fun k' d0 d1 d2 d3 u=>C k' d0 d1 d2 d3 (u5.trans u);refine oA i2 l2 hm oq w2 ?_;intro k6 cA2 u6 r2;refine⟨cA2,r2.seg,rfl,?_⟩;replace i3:=i3.up u6;replace lx:=lx.up u6;replace r0:=r0.up u6;replace r1:=r1.up u6;replace C:=fun k' d0 d1 d2 d3 u=>C k' d0 d1 d2 d3 (u6.trans u);refine hC lx hm (L:=K) hd hK1 oq ?_;intro k7 D3 q3 e3 u7 l3 w3;refine⟨D3,q3,e3,rfl,?_⟩;replace i3:=i3.up u7;replace r0:=r0.up u7;replace r1:=r1.up u7;replace r2:=r2.up u7;replace C:=fun k' d0 d1 d2 d3 u=>C k' d0 d1 d2 d3 (u7.trans u);refine oA i3 l3 hm oq w3 ?_;intro k8 cA3 u8 r3;refine⟨cA3,r3.seg,rfl,?_⟩;replace r0:=r0.up u8;replace r1:=r1.up u8;replace r2:=r2.up u8;replace C:=fun k' d0 d1 d2 d3 u=>C k' d0 d1 d2 d3 (u8.trans u);intro k9 u9;replace r0:=r0.up u9;replace r1:=r1.up u9;replace r2:=r2.up u9;replace r3:=r3.up u9;exact C _ _ _ _ _ u9 r0 r1 r2 r3
end
end Go.Proofs.YtifcjpacobpdmaaGreat

namespace Go.Proofs.YtifcjpacobpdmaaGreat.Plain
def aMr (s t q:Int):Int:=if s=t then s else if t=0 then s else if s=0 then t else s*q
structure Q2 where
 re:Rat
 im:Rat
theorem Q2.ext' {x y:Q2}(h1:x.re=y.re) (h2:x.im=y.im):x=y:=by cases x;cases y;simp_all
instance:Add Q2:=⟨fun x y=>⟨x.re+y.re,x.im+y.im⟩⟩
instance:Mul Q2:=⟨fun x y=>⟨x.re*y.re+2*(x.im*y.im),x.re*y.im+x.im*y.re⟩⟩
instance:Neg Q2:=⟨fun x=>⟨-x.re,-x.im⟩⟩
instance:Sub Q2:=⟨fun x y=>⟨x.re-y.re,x.im-y.im⟩⟩
instance:OfNat Q2 0:=⟨⟨0,0⟩⟩
instance:OfNat Q2 1:=⟨⟨1,0⟩⟩
instance:OfNat Q2 2:=⟨⟨2,0⟩⟩
instance:OfNat Q2 3:=⟨⟨3,0⟩⟩
theorem Q2.three_re:(3:Q2).re=3:=rfl
theorem Q2.three_im:(3:Q2).im=0:=rfl
theorem Q2.add_re (x y:Q2):(x+y).re=x.re+y.re:=rfl
theorem Q2.add_im (x y:Q2):(x+y).im=x.im+y.im:=rfl
theorem Q2.neg_re (x:Q2):(-x).re=-x.re:=rfl
theorem Q2.neg_im (x:Q2):(-x).im=-x.im:=rfl
theorem Q2.sub_re (x y:Q2):(x-y).re=x.re-y.re:=rfl
theorem Q2.sub_im (x y:Q2):(x-y).im=x.im-y.im:=rfl
theorem Q2.mul_re (x y:Q2):(x*y).re=x.re*y.re+2*(x.im*y.im):=rfl
theorem Q2.mul_im (x y:Q2):(x*y).im=x.re*y.im+x.im*y.re:=rfl
structure Q23 where
 re:Q2
 im:Q2
theorem Q23.ext' {x y:Q23}(h1:x.re=y.re) (h2:x.im=y.im):x=y:=by cases x;cases y;simp_all
instance:Add Q23:=⟨fun x y=>⟨x.re+y.re,x.im+y.im⟩⟩
instance:Mul Q23:=⟨fun x y=>⟨x.re*y.re+3*(x.im*y.im),x.re*y.im+x.im*y.re⟩⟩
instance:Neg Q23:=⟨fun x=>⟨-x.re,-x.im⟩⟩
instance:Sub Q23:=⟨fun x y=>⟨x.re-y.re,x.im-y.im⟩⟩
instance:OfNat Q23 0:=⟨⟨0,0⟩⟩
instance:OfNat Q23 1:=⟨⟨1,0⟩⟩
theorem Q23.add_re (x y:Q23):(x+y).re=x.re+y.re:=rfl
theorem Q23.add_im (x y:Q23):(x+y).im=x.im+y.im:=rfl
theorem Q23.neg_re (x:Q23):(-x).re=-x.re:=rfl
theorem Q23.neg_im (x:Q23):(-x).im=-x.im:=rfl
theorem Q23.sub_re (x y:Q23):(x-y).re=x.re-y.re:=rfl
theorem Q23.sub_im (x y:Q23):(x-y).im=x.im-y.im:=rfl
theorem Q23.mul_re (x y:Q23):(x*y).re=x.re*y.re+3*(x.im*y.im):=rfl
theorem Q23.mul_im (x y:Q23):(x*y).im=x.re*y.im+x.im*y.re:=rfl
namespace A
def pos (x:Rat):Prop:=0<x
open Classical in
noncomputable def sg (x:Rat):Int:=if pos x then 1 else if pos (-x) then -1 else 0
end A
namespace B
def NN (x:Q2):Rat:=x.re*x.re-2*(x.im*x.im)
def pos (x:Q2):Prop:=(A.pos (NN x)∧A.pos x.re)∨(A.pos (-NN x)∧A.pos x.im)
open Classical in
noncomputable def sg (x:Q2):Int:=if pos x then 1 else if pos (-x) then -1 else 0
end B
namespace C
def NN (x:Q23):Q2:=x.re*x.re-3*(x.im*x.im)
def pos (x:Q23):Prop:=(B.pos (NN x)∧B.pos x.re)∨(B.pos (-NN x)∧B.pos x.im)
open Classical in
noncomputable def sg (x:Q23):Int:=if pos x then 1 else if pos (-x) then -1 else 0
end C
theorem aGr (a b c:Q23):a*b*c=a*(b*c):=by (refine Q23.ext' (Q2.ext' ?_ ?_) (Q2.ext' ?_ ?_) <;> (simp only [Q23.mul_re,Q23.mul_im,Q2.add_re,Q2.add_im,Q2.mul_re,Q2.mul_im,Q2.three_re,Q2.three_im];grind))
theorem aKu (a b:Q23):a*b=b*a:=by (refine Q23.ext' (Q2.ext' ?_ ?_) (Q2.ext' ?_ ?_) <;> (simp only [Q23.mul_re,Q23.mul_im,Q2.add_re,Q2.add_im,Q2.mul_re,Q2.mul_im,Q2.three_re,Q2.three_im];grind))
instance:Std.Associative (α:=Q23) (·*·):=⟨aGr⟩
instance:Std.Commutative (α:=Q23) (·*·):=⟨aKu⟩
def e4 (a b c d:Rat):Q23:=⟨⟨a,b⟩,⟨c,d⟩⟩
theorem aSx (a b c d a' b' c' d':Rat):e4 a b c d*e4 a' b' c' d'=e4 (a*a'+2*(b*b')+3*(c*c')+6*(d*d')) (a*b'+b*a'+3*(c*d'+d*c')) (a*c'+c*a'+2*(b*d'+d*b')) (a*d'+d*a'+b*c'+c*b'):=by
 refine Q23.ext' (Q2.ext' ?_ ?_) (Q2.ext' ?_ ?_)
 ·show a*a'+2*(b*b')+(3*(c*c'+2*(d*d'))+2*(0*(c*d'+d*c')))=_;show _=a*a'+2*(b*b')+3*(c*c')+6*(d*d')
  grind
 ·show a*b'+b*a'+(3*(c*d'+d*c')+0*(c*c'+2*(d*d')))=a*b'+b*a'+3*(c*d'+d*c')
  grind
 ·show a*c'+2*(b*d')+(c*a'+2*(d*b'))=a*c'+c*a'+2*(b*d'+d*b')
  grind
 ·show a*d'+b*c'+(c*b'+d*a')=a*d'+d*a'+b*c'+c*b'
  grind
theorem aSw {a b c d a' b' c' d':Rat}(h:e4 a b c d=e4 a' b' c' d'):a=a'∧b=b'∧c=c'∧d=d':=
 ⟨congrArg (·.re.re) h,congrArg (·.re.im) h,congrArg (·.im.re) h,congrArg (·.im.im) h⟩
end Go.Proofs.YtifcjpacobpdmaaGreat.Plain

namespace Go.Proofs.YtifcjpacobpdmaaGreat
open Go.RowKit Num Plain
open Sy (Up Sees CallsG Seg)
def Q4.toQ (v:Q4):Q23:=e4 v.a v.b v.c v.d
theorem fU (x y:Q4):(x.add y).toQ=x.toQ+y.toQ:=rfl
theorem aEf (x:Q4):x.neg.toQ=-x.toQ:=rfl
theorem fE (x y:Q4):(x.mul y).toQ=x.toQ*y.toQ:=(aSx _ _ _ _ _ _ _ _).symm
theorem qJ (x y:Q4):(x.sub y).toQ=x.toQ-y.toQ:=by
 have:(x.sub y).toQ=x.toQ+-y.toQ:=rfl;rw [this];generalize x.toQ=a;generalize y.toQ=b
 (refine Q23.ext' (Q2.ext' ?_ ?_) (Q2.ext' ?_ ?_) <;> (simp only [Q23.add_re,Q23.add_im,Q23.neg_re,Q23.neg_im,Q23.sub_re,Q23.sub_im,Q2.add_re,Q2.add_im,Q2.neg_re,Q2.neg_im,Q2.sub_re,Q2.sub_im];grind))
theorem eS {x y:Q4}(h:x.toQ=y.toQ):x=y:=by
 obtain⟨h1,h2,h3,h4⟩:=aSw h;exact Q4.ext' h1 h2 h3 h4
section
variable {k:World}{R:World→Value→Prop}{K L:Nat}{cs cs':Array Value}{v v':Q4}
def Box1 (k:World) (p:Nat) (x:Int) (K:Nat):Prop:=∃c:Array Value,Sy.Blk k p 32 (c.toList++([])).toArray∧IntV k c x K
end
open Value (agg slice int bool tuple)
open Sy (Up Sees CallsG Seg execFn_use)
set_option maxRecDepth 100000
variable {k:World}{R:World→Value→Prop}
end Go.Proofs.YtifcjpacobpdmaaGreat

namespace Go.Proofs.YtifcjpacobpdmaaGreat
open Go.RowKit Num Plain
open Sy (Up Sees CallsG Seg)
def em (r:Rat):Q23:=e4 r 0 0 0
section
variable {k:World}{R:World→Value→Prop}{K L:Nat}{cs cs':Array Value}{v v':Q4}
theorem SurdV.nil (hK:0≤K):SurdV k #[.bool false,.slice none 0 0,.bool false,.slice none 0 0,.bool false,.slice none 0 0,.bool false,.slice none 0 0,.slice none 0 0] Q4.zero K:=
 ⟨_,_,_,_,none,0,0,0,0,0,0,1,rfl,oq,oz,by unfold mkQ Q4.zero;simp,IntV.nil,IntV.nil,IntV.nil,IntV.nil,LimR.nil,hK⟩
end
