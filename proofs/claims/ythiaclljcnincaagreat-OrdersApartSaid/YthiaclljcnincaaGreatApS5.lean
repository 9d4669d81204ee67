/- Several texts in one. (Printed by prep.py.) -/
import Derived.Test.YthiaclljcnincaaGreatApG
namespace Go.Proofs.YthiaclljcnincaaGreat
open Go.RowKit Num
open Sy (Up Sees CallsG Seg)
structure Q4 where
 (a b c d:Rat)
theorem Q4.ext' {x y:Q4}(h1:x.a=y.a) (h2:x.b=y.b) (h3:x.c=y.c) (h4:x.d=y.d):x=y:=by cases x;cases y;simp_all
def mkQ (x0 x1 x2 x3:Int) (m:Nat):Q4:=⟨mkRat x0 m,mkRat x1 m,mkRat x2 m,mkRat x3 m⟩
def gcd5 (m a b c d:Nat):Nat:=Nat.gcd (Nat.gcd (Nat.gcd (Nat.gcd m a) b) c) d
def mk9 (c0 c1 c2 c3:Array Value) (s:Value):Array Value:=(c0.toList++(c1.toList++(c2.toList++(c3.toList++(s :: []))))).toArray
def SurdV (k:World) (cs:Array Value) (v:Q4) (K:Nat):Prop:=
 ∃(c0 c1 c2 c3:Array Value) (D:Option Addr) (d e:Nat) (y0 y1 y2 y3:Int) (m:Nat),cs=mk9 c0 c1 c2 c3 (.slice D d e)∧0<m∧gcd5 m y0.natAbs y1.natAbs y2.natAbs y3.natAbs=1∧v=mkQ y0 y1 y2 y3 m∧
  IntV k c0 y0 K∧IntV k c1 y1 K∧IntV k c2 y2 K∧IntV k c3 y3 K∧LimR k D d e (if m=1 then 0 else m)∧d≤K
theorem SurdV.up {k k':World}{cs:Array Value}{v:Q4}{K:Nat}(h:SurdV k cs v K) (u:Up k k'):SurdV k' cs v K:=by
 obtain⟨c0,c1,c2,c3,D,d,e,y0,y1,y2,y3,m,h1,h2,h3,h4,i0,i1,i2,i3,l,hd⟩:=h;exact⟨c0,c1,c2,c3,D,d,e,y0,y1,y2,y3,m,h1,h2,h3,h4,i0.up u,i1.up u,i2.up u,i3.up u,l.up u,hd⟩
theorem SurdV.mono {k:World}{cs:Array Value}{v:Q4}{K L:Nat}(h:SurdV k cs v K) (u:K≤L):SurdV k cs v L:=by
 obtain⟨c0,c1,c2,c3,D,d,e,y0,y1,y2,y3,m,h1,h2,h3,h4,i0,i1,i2,i3,l,hd⟩:=h;exact⟨c0,c1,c2,c3,D,d,e,y0,y1,y2,y3,m,h1,h2,h3,h4,i0.mono u,i1.mono u,i2.mono u,i3.mono u,l,oq⟩
theorem SurdV.seg {k:World}{cs:Array Value}{v:Q4}{K:Nat}(h:SurdV k cs v K):Seg 9 cs:=by
 obtain⟨c0,c1,c2,c3,D,d,e,y0,y1,y2,y3,m,rfl,h2,h3,h4,⟨_,_,_,_,rfl,_⟩,⟨_,_,_,_,rfl,_⟩,⟨_,_,_,_,rfl,_⟩,⟨_,_,_,_,rfl,_⟩,l,hd⟩:=h;exact⟨rfl,by simp [mk9,Value.scalar,Value.noWord]⟩
theorem LimR.len_le {k k':World}{A A':Option Addr}{n n' c c' a b:Nat}(h:LimR k A n c a) (h':LimR k' A' n' c' b) (hab:a≤b):n≤n':=by
 rw [h.len,h'.len];exact bJ hab
theorem IntR.div {k:World}{b:Bool}{A B:Option Addr}{n c j d:Nat}{x:Int}{g:Nat}(h:IntR k b A n c x) (hl:LimR k B j d (x.natAbs/g)) (hg:(g:Int) ∣ x) (h0:0<g):IntR k b B j d (x/g):=by
 obtain⟨q,rfl⟩:=hg;have hg0:(g:Int)≠0:=oq
 have e:((g:Int)*q) / g=q:=Int.mul_ediv_cancel_left q hg0;have e2:((g:Int)*q).natAbs/g=q.natAbs:=by rw [ww,zi,Nat.mul_div_cancel_left _ h0]
 rw [e];rw [e2]at hl;refine⟨?_,hl⟩;rw [h.neg];rw [decide_eq_decide];constructor
 ·intro hh;rcases Int.lt_or_le q 0 with h1|h1
  ·exact h1
  ·have:=Int.mul_nonneg (show (0:Int)≤g by omega) h1;omega
 ·intro hh;exact Int.mul_neg_of_pos_of_neg oq hh
theorem lO {x:Int}{m g:Nat}(hx:(g:Int) ∣ x) (hm:g ∣ m) (h0:0<g) (hm0:0<m):mkRat (x/g) (m/g)=mkRat x m:=by
 obtain⟨q,rfl⟩:=hx;obtain⟨p,rfl⟩:=hm;have hg0:(g:Int)≠0:=oq
 rw [Int.mul_ediv_cancel_left q hg0,Nat.mul_div_cancel_left _ h0];exact (Rat.mkRat_mul_left oq).symm
theorem aAe (m a b c d:Nat):gcd5 m a b c d ∣ m∧gcd5 m a b c d ∣ a∧gcd5 m a b c d ∣ b∧gcd5 m a b c d ∣ c∧gcd5 m a b c d ∣ d:=by
 unfold gcd5;have h1:=xe (Nat.gcd (Nat.gcd (Nat.gcd m a) b) c) d;have h2:=xe (Nat.gcd (Nat.gcd m a) b) c;have h3:=xe (Nat.gcd m a) b;have t12:=yf h1 h2;have t13:=yf t12 h3;exact⟨yf t13 (xe _ _),yf t13 (ki _ _),yf t12 (ki _ _),yf h1 (ki _ _),ki _ _⟩
theorem aMk {m a b c d g:Nat}(hg:g=gcd5 m a b c d) (h0:0<g):gcd5 (m/g) (a/g) (b/g) (c/g) (d/g)=1:=by
 obtain⟨d1,d2,d3,d4,d5⟩:=aAe m a b c d;rw [←hg]at d1 d2 d3 d4 d5;unfold gcd5 at hg ⊢;have e1:Nat.gcd (m/g) (a/g)=Nat.gcd m a/g:=Nat.gcd_div d1 d2;have k1:g ∣ Nat.gcd m a:=xi d1 d2;have e2:Nat.gcd (Nat.gcd m a/g) (b/g)=Nat.gcd (Nat.gcd m a) b/g:=Nat.gcd_div k1 d3;have k2:g ∣ Nat.gcd (Nat.gcd m a) b:=xi k1 d3;have e3:Nat.gcd (Nat.gcd (Nat.gcd m a) b/g) (c/g)=Nat.gcd (Nat.gcd (Nat.gcd m a) b) c/g:=Nat.gcd_div k2 d4;have k3:g ∣ Nat.gcd (Nat.gcd (Nat.gcd m a) b) c:=xi k2 d4;rw [e1,e2,e3,Nat.gcd_div k3 d5,←hg,Nat.div_self h0]
theorem iT {x:Int}{g:Nat}(h:g ∣ x.natAbs) (_h0:0<g):(x/g).natAbs=x.natAbs/g:=by
 rw [Int.natAbs_ediv_of_dvd (by rw [zo];exact h),zi]
theorem aTx {x0 x1 x2 x3:Int}{m g:Nat}(h0:0<g) (hm0:0<m) (dm:g ∣ m) (d0:g ∣ x0.natAbs) (d1:g ∣ x1.natAbs) (d2:g ∣ x2.natAbs) (d3:g ∣ x3.natAbs):mkQ (x0/g) (x1/g) (x2/g) (x3/g) (m/g)=mkQ x0 x1 x2 x3 m:=by
 unfold mkQ;rw [lO (zo.2 d0) dm h0 hm0,lO (zo.2 d1) dm h0 hm0,lO (zo.2 d2) dm h0 hm0,lO (zo.2 d3) dm h0 hm0]
section
variable {k:World}{R:World→Value→Prop}{K:Nat}
theorem aEl {c0 c1 c2 c3:Array Value}{x0 x1 x2 x3:Int}{A:Option Addr}{n c m:Nat}(h0:IntV k c0 x0 K) (h1:IntV k c1 x1 K) (h2:IntV k c2 x2 K) (h3:IntV k c3 x3 K) (hm:LimR k A n c m) (hm0:0<m) (hn:n≤K) (hK:K≤1073741824)
 (C:∀k' ds,Up k k'→SurdV k' ds (mkQ x0 x1 x2 x3 m) K→R k' (.agg ds)) :
 Cl k 51 #[.agg (c0.toList++(c1.toList++(c2.toList++(c3.toList++([]))))).toArray,.slice A n c] R:=by
 intro k0 u0;replace C:=fun k' ds (u:Up k0 k')=>C k' ds (u0.trans u);replace hm:=hm.up u0;obtain⟨b0,A0,n0,e0,rfl,i0,l0⟩:=h0.up u0;obtain⟨b1,A1,n1,e1,rfl,i1,l1⟩:=h1.up u0;obtain⟨b2,A2,n2,e2,rfl,i2,l2⟩:=h2.up u0;obtain⟨b3,A3,n3,e3,rfl,i3,l3⟩:=h3.up u0;clear h0 h1 h2 h3 u0;obtain⟨d0,d1,d2,d3,d4⟩:=aAe m x0.natAbs x1.natAbs x2.natAbs x3.natAbs;have hg0:0<gcd5 m x0.natAbs x1.natAbs x2.natAbs x3.natAbs:=Nat.pos_of_dvd_of_pos d0 hm0;refine aVn ?_;refine aFd hm i0.lim oq oq ?_;intro k1 B1 j1 f1 u1 g1 _;refine⟨B1,j1,f1,rfl,?_⟩;have q1:j1≤n:=g1.len_le hm (Nat.gcd_le_left _ hm0);have p1:0<Nat.gcd m x0.natAbs:=xm _ hm0;refine aFd g1 (i1.up u1).lim oq oq ?_;intro k2 B2 j2 f2 u2 g2 _;refine⟨B2,j2,f2,rfl,?_⟩;have q2:j2≤j1:=g2.len_le g1 (Nat.gcd_le_left _ p1);have p2:0<Nat.gcd (Nat.gcd m x0.natAbs) x1.natAbs:=xm _ p1;have u2:=u1.trans u2;refine aFd g2 (i2.up u2).lim oq oq ?_;intro k3 B3 j3 f3 u3 g3 _;refine⟨B3,j3,f3,rfl,?_⟩;have q3:j3≤j2:=g3.len_le g2 (Nat.gcd_le_left _ p2);have p3:0<Nat.gcd (Nat.gcd (Nat.gcd m x0.natAbs) x1.natAbs) x2.natAbs:=xm _ p2;have u3:=u2.trans u3;refine aFd g3 (i3.up u3).lim oq oq ?_;intro k4 B4 j4 f4 u4 g4 _;refine⟨B4,j4,f4,rfl,?_⟩;have q4:j4≤j3:=g4.len_le g3 (Nat.gcd_le_left _ p3);have u4:=u3.trans u4;have hgdef:gcd5 m x0.natAbs x1.natAbs x2.natAbs x3.natAbs=Nat.gcd (Nat.gcd (Nat.gcd (Nat.gcd m x0.natAbs) x1.natAbs) x2.natAbs) x3.natAbs:=rfl;rw [←hgdef]at g4;have hdiv:=aMk (m:=m) (a:=x0.natAbs) (b:=x1.natAbs) (c:=x2.natAbs) (d:=x3.natAbs) rfl hg0;have hmq:=aTx hg0 hm0 d0 d1 d2 d3 d4;have n0':=iT d1 hg0;have n1':=iT d2 hg0;have n2':=iT d3 hg0;have n3':=iT d4 hg0;obtain⟨G,hG⟩:∃G,gcd5 m x0.natAbs x1.natAbs x2.natAbs x3.natAbs=G:=⟨_,rfl⟩;have hone:=hgdef;rw [hG]at g4 hdiv hmq d0 d1 d2 d3 d4 hg0 n0' n1' n2' n3';clear g1 g2 g3 hone hgdef;refine xG g4 oq ?_;intro k5 u5;refine⟨_,rfl,?_⟩;have u5':=u4.trans u5;refine⟨fun hb=>?_,fun hb=>?_⟩
 ·have hG1:G≠1:=by simpa using hb
  clear hb;refine kP (i0.up u5').lim (g4.up u5) hg0 oq oq ?_;intro k6 D0 m0 o0 E0 s0 t0 u6 w0 _ y0 _;refine⟨D0,m0,o0,E0,s0,t0,rfl,?_⟩;have v6:=u5'.trans u6;refine kP (i1.up v6).lim ((g4.up u5).up u6) hg0 oq oq ?_;intro k7 D1 m1 o1 E1 s1 t1 u7 w1 _ y1 _;refine⟨D1,m1,o1,E1,s1,t1,rfl,?_⟩;have v7:=v6.trans u7;refine kP (i2.up v7).lim (((g4.up u5).up u6).up u7) hg0 oq oq ?_;intro k8 D2 m2 o2 E2 s2 t2 u8 w2 _ y2 _;refine⟨D2,m2,o2,E2,s2,t2,rfl,?_⟩;have v8:=v7.trans u8;refine kP (i3.up v8).lim ((((g4.up u5).up u6).up u7).up u8) hg0 oq oq ?_;intro k9 D3 m3 o3 E3 s3 t3 u9 w3 _ y3 _;refine⟨D3,m3,o3,E3,s3,t3,rfl,?_⟩;have v9:=v8.trans u9;refine kP (hm.up v9) (((((g4.up u5).up u6).up u7).up u8).up u9) hg0 oq oq ?_;intro k10 D4 m4 o4 E4 s4 t4 u10 w4 _ y4 _;refine⟨D4,m4,o4,E4,s4,t4,rfl,?_⟩;have v10:=v9.trans u10;replace w0:=(((w0.up u7).up u8).up u9).up u10;replace w1:=((w1.up u8).up u9).up u10;replace w2:=(w2.up u9).up u10;replace w3:=w3.up u10;refine xG w4 oq ?_;intro k11 u11;refine⟨_,rfl,?_⟩;have v11:=v10.trans u11;have z0:=(i0.up v11).div (w0.up u11) (zo.2 d1) hg0;have z1:=(i1.up v11).div (w1.up u11) (zo.2 d2) hg0;have z2:=(i2.up v11).div (w2.up u11) (zo.2 d3) hg0;have z3:=(i3.up v11).div (w3.up u11) (zo.2 d4) hg0;have hpos:0<m/G:=Nat.div_pos (Nat.le_of_dvd hm0 d0) hg0;refine⟨fun hb=>?_,fun hb=>?_⟩
  ·intro k12 u12;have hm1:m/G=1:=by simpa using hb
   exact C k12 _ (v11.trans u12) ⟨_,_,_,_,none,0,0,x0/G,x1/G,x2/G,x3/G,m/G,rfl,hpos,by rw [n0',n1',n2',n3'];exact hdiv,hmq.symm,
    ⟨_,_,_,_,rfl,z0.up u12,oq⟩,⟨_,_,_,_,rfl,z1.up u12,oq⟩,⟨_,_,_,_,rfl,z2.up u12,oq⟩,⟨_,_,_,_,rfl,z3.up u12,oq⟩,by rw [og hm1];exact LimR.nil,oq⟩
  ·intro k12 u12;have hm1:m/G≠1:=by simpa using hb
   exact C k12 _ (v11.trans u12) ⟨_,_,_,_,D4,m4,o4,x0/G,x1/G,x2/G,x3/G,m/G,rfl,hpos,by rw [n0',n1',n2',n3'];exact hdiv,hmq.symm,
    ⟨_,_,_,_,rfl,z0.up u12,oq⟩,⟨_,_,_,_,rfl,z1.up u12,oq⟩,⟨_,_,_,_,rfl,z2.up u12,oq⟩,⟨_,_,_,_,rfl,z3.up u12,oq⟩,by rw [oh hm1];exact (w4.up u11).up u12,oq⟩
 ·have hG1:G=1:=by simpa using hb
  clear hb;refine xG (hm.up u5') oq ?_;intro k6 u6;refine⟨_,rfl,?_⟩;have v6:=u5'.trans u6;refine⟨fun hb=>?_,fun hb=>?_⟩
  ·intro k7 u7;have v7:=v6.trans u7;have hm1:m=1:=by simpa using hb
   exact C k7 _ v7 ⟨_,_,_,_,none,0,0,x0,x1,x2,x3,m,rfl,hm0,by rw [hG,hG1],rfl,
    ⟨_,_,_,_,rfl,i0.up v7,oq⟩,⟨_,_,_,_,rfl,i1.up v7,oq⟩,⟨_,_,_,_,rfl,i2.up v7,oq⟩,⟨_,_,_,_,rfl,i3.up v7,oq⟩,by rw [og hm1];exact LimR.nil,oq⟩
  ·intro k7 u7;have v7:=v6.trans u7;have hm1:m≠1:=by simpa using hb
   exact C k7 _ v7 ⟨_,_,_,_,A,n,c,x0,x1,x2,x3,m,rfl,hm0,by rw [hG,hG1],rfl,
    ⟨_,_,_,_,rfl,i0.up v7,oq⟩,⟨_,_,_,_,rfl,i1.up v7,oq⟩,⟨_,_,_,_,rfl,i2.up v7,oq⟩,⟨_,_,_,_,rfl,i3.up v7,oq⟩,by rw [oh hm1];exact hm.up v7,oq⟩
end
open IntKind (wrap)
def Q4.add (x y:Q4):Q4:=⟨x.a+y.a,x.b+y.b,x.c+y.c,x.d+y.d⟩
def Q4.neg (x:Q4):Q4:=⟨-x.a,-x.b,-x.c,-x.d⟩
def Q4.mul (x y:Q4):Q4:=⟨x.a*y.a+2*(x.b*y.b)+3*(x.c*y.c)+6*(x.d*y.d),x.a*y.b+x.b*y.a+3*(x.c*y.d+x.d*y.c),x.a*y.c+x.c*y.a+2*(x.b*y.d+x.d*y.b),x.a*y.d+x.d*y.a+x.b*y.c+x.c*y.b⟩
def Q4.sub (x y:Q4):Q4:=x.add y.neg
def Q4.zero:Q4:=⟨0,0,0,0⟩
def Q4.real (x:Rat):Q4:=⟨x,0,0,0⟩
theorem kW (x:Int) {m:Nat}(_h:0<m):mkRat x m=(x:Rat) / (m:Rat):=by
 rw [Rat.mkRat_eq_div]
theorem mW {m:Nat}(h:0<m):(m:Rat)≠0:=by
 intro e;have:((m:Nat):Rat)=((0:Nat):Rat):=by rw [e];rfl
 have:=Rat.natCast_inj.1 this;omega
theorem mU (x y:Int) {m n:Nat}(hm:0<m) (hn:0<n):mkRat (x*n+y*m) (m*n)=mkRat x m+mkRat y n:=by
 rw [Rat.mkRat_add_mkRat _ _ oq oq]
theorem mV (x:Int) (m:Nat):mkRat (-x) m=- mkRat x m:=by rw [Rat.neg_mkRat]
theorem aCy (x y:Int) (m n:Nat):mkRat (x*y) (m*n)=mkRat x m*mkRat y n:=by rw [Rat.mkRat_mul_mkRat]
theorem aIg (x y:Int) {m:Nat}(hm:0<m):mkRat (x+y) m=mkRat x m+mkRat y m:=by
 rw [kW _ hm,kW _ hm,kW _ hm,Rat.intCast_add,xd,xd,xd,Rat.add_mul]
theorem qI (x:Int) (c:Nat) {m:Nat}(hm:0<m):mkRat (x*c) m=(c:Rat)*mkRat x m:=by
 rw [kW _ hm,kW _ hm,yq,xd,xd,←Rat.mul_assoc,Rat.mul_comm (c:Rat)];rfl
section
variable {k:World}{R:World→Value→Prop}{K:Nat}{cs cs':Array Value}{v v':Q4}
theorem SurdV.cells {k:World}{cs:Array Value}{v:Q4}{K:Nat}(h:SurdV k cs v K):∃(c0 c1 c2 c3:Array Value) (D:Option Addr) (d e:Nat),cs=mk9 c0 c1 c2 c3 (.slice D d e)∧Seg 2 c0∧Seg 2 c1∧Seg 2 c2∧Seg 2 c3:=by
 obtain⟨c0,c1,c2,c3,D,d,e,y0,y1,y2,y3,m,h1,h2,h3,h4,i0,i1,i2,i3,l,hd⟩:=h;exact⟨c0,c1,c2,c3,D,d,e,h1,i0.seg,i1.seg,i2.seg,i3.seg⟩
theorem kK (hx:SurdV k cs v K) (hy:SurdV k cs' v' K) (hK1:1≤K) (hK:K≤268435456) (C:∀k' ds,Up k k'→SurdV k' ds (v.add v') (2*K+1)→R k' (.agg ds)) :
 Cl k 26 #[.agg cs,.agg cs'] R:=by
 obtain⟨c0,c1,c2,c3,D,d,e,x0,x1,x2,x3,m,rfl,hm,hg,rfl,i0,i1,i2,i3,lx,hd⟩:=hx;obtain⟨c0',c1',c2',c3',D',d',e',y0,y1,y2,y3,n,rfl,hn,hg',rfl,j0,j1,j2,j3,ly,hd'⟩:=hy;intro k0 u0;replace i0:=i0.up u0;replace i1:=i1.up u0;replace i2:=i2.up u0;replace i3:=i3.up u0;replace lx:=lx.up u0;replace j0:=j0.up u0;replace j1:=j1.up u0;replace j2:=j2.up u0;replace j3:=j3.up u0;replace ly:=ly.up u0;replace C:=fun k' ds u=>C k' ds (u0.trans u);refine aSe i0.seg i1.seg i2.seg i3.seg j0.seg j1.seg j2.seg j3.seg ?_;refine bR lx hm (L:=K) hd hK1 oq ?_;intro k1 D1 d1 e1 u1 lx' hd1;refine⟨D1,d1,e1,rfl,?_⟩;replace i0:=i0.up u1;replace i1:=i1.up u1;replace i2:=i2.up u1;replace i3:=i3.up u1;replace j0:=j0.up u1;replace j1:=j1.up u1;replace j2:=j2.up u1;replace j3:=j3.up u1;replace ly:=ly.up u1;replace C:=fun k' ds u=>C k' ds (u1.trans u);refine bR ly hn (L:=K) hd' hK1 oq ?_;intro k2 D2 d2 e2 u2 ly' hd2;refine⟨D2,d2,e2,rfl,?_⟩;replace i0:=i0.up u2;replace i1:=i1.up u2;replace i2:=i2.up u2;replace i3:=i3.up u2;replace j0:=j0.up u2;replace j1:=j1.up u2;replace j2:=j2.up u2;replace j3:=j3.up u2;replace lx':=lx'.up u2;replace C:=fun k' ds u=>C k' ds (u2.trans u);refine cT i0 ly' oq hd2 oq ?_;intro k3 cA0 u3 a0;refine⟨cA0,a0.seg,rfl,?_⟩;replace i1:=i1.up u3;replace i2:=i2.up u3;replace i3:=i3.up u3;replace j0:=j0.up u3;replace j1:=j1.up u3;replace j2:=j2.up u3;replace j3:=j3.up u3;replace lx':=lx'.up u3;replace ly':=ly'.up u3;replace C:=fun k' ds u=>C k' ds (u3.trans u);refine cT j0 lx' oq hd1 oq ?_;intro k4 cB0 u4 b0;refine⟨cB0,b0.seg,rfl,?_⟩;replace i1:=i1.up u4;replace i2:=i2.up u4;replace i3:=i3.up u4;replace j1:=j1.up u4;replace j2:=j2.up u4;replace j3:=j3.up u4;replace lx':=lx'.up u4;replace ly':=ly'.up u4;replace a0:=a0.up u4;replace C:=fun k' ds u=>C k' ds (u4.trans u);refine dC a0 b0 (M:=2*K) oq oq oq ?_;intro k5 cC0 u5 z0;refine⟨cC0,z0.seg,rfl,?_⟩;replace i1:=i1.up u5;replace i2:=i2.up u5;replace i3:=i3.up u5;replace j1:=j1.up u5;replace j2:=j2.up u5;replace j3:=j3.up u5;replace lx':=lx'.up u5;replace ly':=ly'.up u5;replace C:=fun k' ds u=>C k' ds (u5.trans u);refine cT i1 ly' oq hd2 oq ?_;intro k6 cA1 u6 a1;refine⟨cA1,a1.seg,rfl,?_⟩;replace i2:=i2.up u6;replace i3:=i3.up u6;replace j1:=j1.up u6;replace j2:=j2.up u6;replace j3:=j3.up u6;replace lx':=lx'.up u6;replace ly':=ly'.up u6;replace z0:=z0.up u6;replace C:=fun k' ds u=>C k' ds (u6.trans u);refine cT j1 lx' oq hd1 oq ?_;intro k7 cB1 u7 b1;refine⟨cB1,b1.seg,rfl,?_⟩;replace i2:=i2.up u7;replace i3:=i3.up u7;replace j2:=j2.up u7;replace j3:=j3.up u7;replace lx':=lx'.up u7;replace ly':=ly'.up u7;replace z0:=z0.up u7;replace a1:=a1.up u7;replace C:=fun k' ds u=>C k' ds (u7.trans u);refine dC a1 b1 (M:=2*K) oq oq oq ?_;intro k8 cC1 u8 z1;refine⟨cC1,z1.seg,rfl,?_⟩;replace i2:=i2.up u8;replace i3:=i3.up u8;replace j2:=j2.up u8;replace j3:=j3.up u8;replace lx':=lx'.up u8
 replace ly':=ly'.up u8;replace z0:=z0.up u8;replace C:=fun k' ds u=>C k' ds (u8.trans u);refine cT i2 ly' oq hd2 oq ?_;intro k9 cA2 u9 a2;refine⟨cA2,a2.seg,rfl,?_⟩;replace i3:=i3.up u9;replace j2:=j2.up u9;replace j3:=j3.up u9;replace lx':=lx'.up u9;replace ly':=ly'.up u9;replace z0:=z0.up u9;replace z1:=z1.up u9;replace C:=fun k' ds u=>C k' ds (u9.trans u);refine cT j2 lx' oq hd1 oq ?_;intro k10 cB2 u10 b2;refine⟨cB2,b2.seg,rfl,?_⟩;replace i3:=i3.up u10;replace j3:=j3.up u10;replace lx':=lx'.up u10;replace ly':=ly'.up u10;replace z0:=z0.up u10;replace z1:=z1.up u10;replace a2:=a2.up u10;replace C:=fun k' ds u=>C k' ds (u10.trans u);refine dC a2 b2 (M:=2*K) oq oq oq ?_;intro k11 cC2 u11 z2;refine⟨cC2,z2.seg,rfl,?_⟩;replace i3:=i3.up u11;replace j3:=j3.up u11;replace lx':=lx'.up u11;replace ly':=ly'.up u11;replace z0:=z0.up u11;replace z1:=z1.up u11;replace C:=fun k' ds u=>C k' ds (u11.trans u);refine cT i3 ly' oq hd2 oq ?_;intro k12 cA3 u12 a3;refine⟨cA3,a3.seg,rfl,?_⟩;replace j3:=j3.up u12;replace lx':=lx'.up u12;replace ly':=ly'.up u12;replace z0:=z0.up u12;replace z1:=z1.up u12;replace z2:=z2.up u12;replace C:=fun k' ds u=>C k' ds (u12.trans u);refine cT j3 lx' oq hd1 oq ?_;intro k13 cB3 u13 b3;refine⟨cB3,b3.seg,rfl,?_⟩;replace lx':=lx'.up u13;replace ly':=ly'.up u13;replace z0:=z0.up u13;replace z1:=z1.up u13;replace z2:=z2.up u13;replace a3:=a3.up u13;replace C:=fun k' ds u=>C k' ds (u13.trans u);refine dC a3 b3 (M:=2*K) oq oq oq ?_;intro k14 cC3 u14 z3;refine⟨cC3,z3.seg,rfl,?_⟩;replace lx':=lx'.up u14;replace ly':=ly'.up u14;replace z0:=z0.up u14;replace z1:=z1.up u14;replace z2:=z2.up u14;replace C:=fun k' ds u=>C k' ds (u14.trans u);refine sF lx' ly' oq oq ?_;intro k15 D3 d3 e3 u15 lm hd3;refine⟨D3,d3,e3,rfl,?_⟩;replace z0:=z0.up u15;replace z1:=z1.up u15;replace z2:=z2.up u15;replace z3:=z3.up u15;replace C:=fun k' ds u=>C k' ds (u15.trans u);refine aEl z0 z1 z2 z3 lm (zg hm hn) oq oq ?_;intro k17 ds u17 hs;obtain⟨c0,c1,c2,c3,D,d,e,hcs,h9⟩:=hs.cells;refine⟨c0,h9.1,c1,h9.2.1,c2,h9.2.2.1,c3,h9.2.2.2,D,d,e,by rw [hcs];rfl,?_⟩;intro k18 u18;have hv:mkQ (x0*n+y0*m) (x1*n+y1*m) (x2*n+y2*m) (x3*n+y3*m) (m*n)=(mkQ x0 x1 x2 x3 m).add (mkQ y0 y1 y2 y3 n):=by
  unfold mkQ Q4.add;simp only [mU _ _ hm hn]
 have:=C k18 ds (u17.trans u18) (by rw [←hv];exact hs.up u18);rw [hcs]at this;exact this
theorem eV (hx:SurdV k cs v K) (hK:K≤268435456) (C:∀k' ds,Up k k'→SurdV k' ds v.neg K→R k' (.agg ds)) :
 Cl k 57 #[.agg cs] R:=by
 obtain⟨c0,c1,c2,c3,D,d,e,x0,x1,x2,x3,m,rfl,hm,hg,rfl,i0,i1,i2,i3,lx,hd⟩:=hx;intro k0 u0;replace i0:=i0.up u0;replace i1:=i1.up u0;replace i2:=i2.up u0;replace i3:=i3.up u0;replace lx:=lx.up u0;replace C:=fun k' ds u=>C k' ds (u0.trans u);refine aSg i0.seg i1.seg i2.seg i3.seg ?_;refine dV i0 oq ?_;intro k1 cA0 u1 a0;refine⟨cA0,a0.seg,rfl,?_⟩;replace i1:=i1.up u1;replace i2:=i2.up u1;replace i3:=i3.up u1;replace lx:=lx.up u1;replace C:=fun k' ds u=>C k' ds (u1.trans u);refine dV i1 oq ?_;intro k2 cA1 u2 a1;refine⟨cA1,a1.seg,rfl,?_⟩;replace i2:=i2.up u2;replace i3:=i3.up u2;replace lx:=lx.up u2;replace a0:=a0.up u2;replace C:=fun k' ds u=>C k' ds (u2.trans u);refine dV i2 oq ?_;intro k3 cA2 u3 a2;refine⟨cA2,a2.seg,rfl,?_⟩;replace i3:=i3.up u3;replace lx:=lx.up u3;replace a0:=a0.up u3;replace a1:=a1.up u3;replace C:=fun k' ds u=>C k' ds (u3.trans u);refine dV i3 oq ?_;intro k4 cA3 u4 a3;refine⟨cA3,a3.seg,rfl,?_⟩;replace lx:=lx.up u4;replace a0:=a0.up u4;replace a1:=a1.up u4;replace a2:=a2.up u4;replace C:=fun k' ds u=>C k' ds (u4.trans u);intro k5 u5;replace lx:=lx.up u5;replace a0:=a0.up u5;replace a1:=a1.up u5;replace a2:=a2.up u5;replace a3:=a3.up u5;refine C _ _ u5 ⟨cA0,cA1,cA2,cA3,D,d,e,-x0,-x1,-x2,-x3,m,rfl,hm,by simp only [Int.natAbs_neg];exact hg,?_,a0,a1,a2,a3,lx,hd⟩;unfold mkQ Q4.neg;simp only [mV]
theorem pA (hx:SurdV k cs v K) (hy:SurdV k cs' v' K) (hK1:1≤K) (hK:K≤268435456) (C:∀k' ds,Up k k'→SurdV k' ds (v.sub v') (2*K+1)→R k' (.agg ds)) :
 Cl k 27 #[.agg cs,.agg cs'] R:=by
 intro k0 u0;replace hx:=hx.up u0;replace hy:=hy.up u0;replace C:=fun k' ds u=>C k' ds (u0.trans u);refine aSh hx.seg hy.seg ?_;refine eV hy oq ?_;intro k1 cA u1 a;refine⟨cA,a.seg,rfl,?_⟩;replace hx:=hx.up u1;replace C:=fun k' ds u=>C k' ds (u1.trans u);refine kK hx a hK1 oq ?_;intro k2 cB u2 b;refine⟨cB,b.seg,rfl,?_⟩;replace C:=fun k' ds u=>C k' ds (u2.trans u);intro k3 u3;replace b:=b.up u3;exact C _ _ u3 b
theorem fO {x:Int}{m:Nat}(h:0<m):mkRat x m=0↔x=0:=by
 rw [Rat.mkRat_eq_zero oq]
theorem nJ {x:Int}(h0:0≤x) (h1:x<9223372036854775808):wrap .i64 x=x:=by rw [xk];omega
theorem wP (hx:SurdV k cs v K) (hK:K≤268435456) (C:∀k',Up k k'→∀b,(b=true↔v=Q4.zero)→R k' (.bool b)) :
 Cl k 161 #[.agg cs] R:=by
 intro k0 u0;obtain⟨c0,c1,c2,c3,D,d,e,x0,x1,x2,x3,m,rfl,hm,hg,rfl,⟨b0,A0,n0,e0,rfl,i0,l0⟩,⟨b1,A1,n1,e1,rfl,i1,l1⟩,⟨b2,A2,n2,e2,rfl,i2,l2⟩,⟨b3,A3,n3,e3,rfl,i3,l3⟩,lx,hd⟩:=hx;have hcs:mk9 #[.bool b0,.slice A0 n0 e0] #[.bool b1,.slice A1 n1 e1] #[.bool b2,.slice A2 n2 e2] #[.bool b3,.slice A3 n3 e3] (.slice D d e)=#[.bool b0,.slice A0 n0 e0,.bool b1,.slice A1 n1 e1,.bool b2,.slice A2 n2 e2,.bool b3,.slice A3 n3 e3,.slice D d e]:=rfl;rw [hcs];refine aLi ⟨rfl,rfl,rfl,rfl,?_⟩;intro k1 u1;refine C _ (u0.trans u1) _ ?_;have q0:=i0.lim.zero_iff;have q1:=i1.lim.zero_iff;have q2:=i2.lim.zero_iff;have q3:=i3.lim.zero_iff;have e:wrap .i64 (wrap .i64 (wrap .i64 ((n0:Nat)+(n1:Nat))+(n2:Nat))+(n3:Nat))=((n0+n1+n2+n3:Nat):Int):=by
  rw [nJ (x:=(n0:Nat)+(n1:Nat)) oq oq,nJ (x:=(n0:Nat)+(n1:Nat)+(n2:Nat)) oq oq,nJ (x:=(n0:Nat)+(n1:Nat)+(n2:Nat)+(n3:Nat)) oq oq];omega
 clear C hcs;rw [e,beq_iff_eq];unfold mkQ Q4.zero;rw [Q4.mk.injEq,fO hm,fO hm,fO hm,fO hm];omega
end
open Value (agg slice int bool tuple)
open Sy (Up Sees CallsG Seg execFn_use)
set_option maxRecDepth 100000
variable {k:World}{R:World→Value→Prop}{cs0 cs1 cs2 cs3 cs5 cs6 cs7 cs8:Array Value}{p4 p9:Nat}
theorem aSj (hcs0:Seg 2 cs0) (hcs1:Seg 2 cs1) (hcs2:Seg 2 cs2) (hcs3:Seg 2 cs3) (hcs5:Seg 2 cs5) (hcs6:Seg 2 cs6) (hcs7:Seg 2 cs7) (hcs8:Seg 2 cs8) (hB4:Sy.Blk k p4 34 (cs0.toList++(cs1.toList++(cs2.toList++(cs3.toList++([]))))).toArray) (hB9:Sy.Blk k p9 34 (cs5.toList++(cs6.toList++(cs7.toList++(cs8.toList++([]))))).toArray)
 (h:Cl k 81 #[agg cs0,agg cs5] fun k1 r0=>Gt 2 r0 fun cs10=>
 Rt R k1 (agg cs10)) :
  CallsG Tryz.prog 80 #[int .i64 0,int .i64 0,Value.pointer (some ⟨p4,0,none⟩),Value.pointer (some ⟨p9,0,none⟩)] k R:=
  Sy.execFn_use_heap (cfg:={ opq:=[33] }) (args:=[.one (.lit (.int .i64 (0))),.one (.lit (.int .i64 (0))),.one (.ptr 0 0),.one (.ptr 1 0)]) (vals:=[agg cs0,agg cs1,agg cs2,agg cs3,(Value.pointer (some ⟨p4,0,none⟩)),agg cs5,agg cs6,agg cs7,agg cs8,(Value.pointer (some ⟨p9,0,none⟩))]) (kinds:=[.seg 2,.seg 2,.seg 2,.seg 2,.any,.seg 2,.seg 2,.seg 2,.seg 2,.any]) (blks:=[p4,p9]) (heap:=[{ ty:=34,cells:=[.seg 0 2,.seg 1 2,.seg 2 2,.seg 3 2],pub:=true,pv:=4 },{ ty:=34,cells:=[.seg 5 2,.seg 6 2,.seg 7 2,.seg 8 2],pub:=true,pv:=9 }]) ox ⟨⟨cs0,rfl,hcs0⟩,⟨cs1,rfl,hcs1⟩,⟨cs2,rfl,hcs2⟩,⟨cs3,rfl,hcs3⟩,⟨rfl,rfl⟩,⟨cs5,rfl,hcs5⟩,⟨cs6,rfl,hcs6⟩,⟨cs7,rfl,hcs7⟩,⟨cs8,rfl,hcs8⟩,⟨rfl,rfl⟩,trivial⟩ ox ⟨⟨rfl,⟨cs0.toList++(cs1.toList++(cs2.toList++(cs3.toList++([])))),by kernel_rfl,hB4⟩,by kernel_rfl⟩,⟨rfl,⟨cs5.toList++(cs6.toList++(cs7.toList++(cs8.toList++([])))),by kernel_rfl,hB9⟩,by kernel_rfl⟩,trivial⟩ ox h
theorem aSk (hcs0:Seg 2 cs0) (hcs1:Seg 2 cs1) (hcs2:Seg 2 cs2) (hcs3:Seg 2 cs3) (hcs5:Seg 2 cs5) (hcs6:Seg 2 cs6) (hcs7:Seg 2 cs7) (hcs8:Seg 2 cs8) (hB4:Sy.Blk k p4 34 (cs0.toList++(cs1.toList++(cs2.toList++(cs3.toList++([]))))).toArray) (hB9:Sy.Blk k p9 34 (cs5.toList++(cs6.toList++(cs7.toList++(cs8.toList++([]))))).toArray)
 (h:Cl k 81 #[agg cs0,agg cs6] fun k1 r0=>Gt 2 r0 fun cs10=>
 Rt R k1 (agg cs10)) :
  CallsG Tryz.prog 80 #[int .i64 0,int .i64 1,Value.pointer (some ⟨p4,0,none⟩),Value.pointer (some ⟨p9,0,none⟩)] k R:=
  Sy.execFn_use_heap (cfg:={ opq:=[33] }) (args:=[.one (.lit (.int .i64 (0))),.one (.lit (.int .i64 (1))),.one (.ptr 0 0),.one (.ptr 1 0)]) (vals:=[agg cs0,agg cs1,agg cs2,agg cs3,(Value.pointer (some ⟨p4,0,none⟩)),agg cs5,agg cs6,agg cs7,agg cs8,(Value.pointer (some ⟨p9,0,none⟩))]) (kinds:=[.seg 2,.seg 2,.seg 2,.seg 2,.any,.seg 2,.seg 2,.seg 2,.seg 2,.any]) (blks:=[p4,p9]) (heap:=[{ ty:=34,cells:=[.seg 0 2,.seg 1 2,.seg 2 2,.seg 3 2],pub:=true,pv:=4 },{ ty:=34,cells:=[.seg 5 2,.seg 6 2,.seg 7 2,.seg 8 2],pub:=true,pv:=9 }]) ox ⟨⟨cs0,rfl,hcs0⟩,⟨cs1,rfl,hcs1⟩,⟨cs2,rfl,hcs2⟩,⟨cs3,rfl,hcs3⟩,⟨rfl,rfl⟩,⟨cs5,rfl,hcs5⟩,⟨cs6,rfl,hcs6⟩,⟨cs7,rfl,hcs7⟩,⟨cs8,rfl,hcs8⟩,⟨rfl,rfl⟩,trivial⟩ ox ⟨⟨rfl,⟨cs0.toList++(cs1.toList++(cs2.toList++(cs3.toList++([])))),by kernel_rfl,hB4⟩,by kernel_rfl⟩,⟨rfl,⟨cs5.toList++(cs6.toList++(cs7.toList++(cs8.toList++([])))),by kernel_rfl,hB9⟩,by kernel_rfl⟩,trivial⟩ ox h
theorem aSl (hcs0:Seg 2 cs0) (hcs1:Seg 2 cs1) (hcs2:Seg 2 cs2) (hcs3:Seg 2 cs3) (hcs5:Seg 2 cs5) (hcs6:Seg 2 cs6) (hcs7:Seg 2 cs7) (hcs8:Seg 2 cs8) (hB4:Sy.Blk k p4 34 (cs0.toList++(cs1.toList++(cs2.toList++(cs3.toList++([]))))).toArray) (hB9:Sy.Blk k p9 34 (cs5.toList++(cs6.toList++(cs7.toList++(cs8.toList++([]))))).toArray)
 (h:Cl k 81 #[agg cs0,agg cs7] fun k1 r0=>Gt 2 r0 fun cs10=>
 Rt R k1 (agg cs10)) :
  CallsG Tryz.prog 80 #[int .i64 0,int .i64 2,Value.pointer (some ⟨p4,0,none⟩),Value.pointer (some ⟨p9,0,none⟩)] k R:=
  Sy.execFn_use_heap (cfg:={ opq:=[33] }) (args:=[.one (.lit (.int .i64 (0))),.one (.lit (.int .i64 (2))),.one (.ptr 0 0),.one (.ptr 1 0)]) (vals:=[agg cs0,agg cs1,agg cs2,agg cs3,(Value.pointer (some ⟨p4,0,none⟩)),agg cs5,agg cs6,agg cs7,agg cs8,(Value.pointer (some ⟨p9,0,none⟩))]) (kinds:=[.seg 2,.seg 2,.seg 2,.seg 2,.any,.seg 2,.seg 2,.seg 2,.seg 2,.any]) (blks:=[p4,p9]) (heap:=[{ ty:=34,cells:=[.seg 0 2,.seg 1 2,.seg 2 2,.seg 3 2],pub:=true,pv:=4 },{ ty:=34,cells:=[.seg 5 2,.seg 6 2,.seg 7 2,.seg 8 2],pub:=true,pv:=9 }]) ox ⟨⟨cs0,rfl,hcs0⟩,⟨cs1,rfl,hcs1⟩,⟨cs2,rfl,hcs2⟩,⟨cs3,rfl,hcs3⟩,⟨rfl,rfl⟩,⟨cs5,rfl,hcs5⟩,⟨cs6,rfl,hcs6⟩,⟨cs7,rfl,hcs7⟩,⟨cs8,rfl,hcs8⟩,⟨rfl,rfl⟩,trivial⟩ ox ⟨⟨rfl,⟨cs0.toList++(cs1.toList++(cs2.toList++(cs3.toList++([])))),by kernel_rfl,hB4⟩,by kernel_rfl⟩,⟨rfl,⟨cs5.toList++(cs6.toList++(cs7.toList++(cs8.toList++([])))),by kernel_rfl,hB9⟩,by kernel_rfl⟩,trivial⟩ ox h
theorem aSm (hcs0:Seg 2 cs0) (hcs1:Seg 2 cs1) (hcs2:Seg 2 cs2) (hcs3:Seg 2 cs3) (hcs5:Seg 2 cs5) (hcs6:Seg 2 cs6) (hcs7:Seg 2 cs7) (hcs8:Seg 2 cs8) (hB4:Sy.Blk k p4 34 (cs0.toList++(cs1.toList++(cs2.toList++(cs3.toList++([]))))).toArray) (hB9:Sy.Blk k p9 34 (cs5.toList++(cs6.toList++(cs7.toList++(cs8.toList++([]))))).toArray)
 (h:Cl k 81 #[agg cs0,agg cs8] fun k1 r0=>Gt 2 r0 fun cs10=>
 Rt R k1 (agg cs10)) :
  CallsG Tryz.prog 80 #[int .i64 0,int .i64 3,Value.pointer (some ⟨p4,0,none⟩),Value.pointer (some ⟨p9,0,none⟩)] k R:=
  Sy.execFn_use_heap (cfg:={ opq:=[33] }) (args:=[.one (.lit (.int .i64 (0))),.one (.lit (.int .i64 (3))),.one (.ptr 0 0),.one (.ptr 1 0)]) (vals:=[agg cs0,agg cs1,agg cs2,agg cs3,(Value.pointer (some ⟨p4,0,none⟩)),agg cs5,agg cs6,agg cs7,agg cs8,(Value.pointer (some ⟨p9,0,none⟩))]) (kinds:=[.seg 2,.seg 2,.seg 2,.seg 2,.any,.seg 2,.seg 2,.seg 2,.seg 2,.any]) (blks:=[p4,p9]) (heap:=[{ ty:=34,cells:=[.seg 0 2,.seg 1 2,.seg 2 2,.seg 3 2],pub:=true,pv:=4 },{ ty:=34,cells:=[.seg 5 2,.seg 6 2,.seg 7 2,.seg 8 2],pub:=true,pv:=9 }]) ox ⟨⟨cs0,rfl,hcs0⟩,⟨cs1,rfl,hcs1⟩,⟨cs2,rfl,hcs2⟩,⟨cs3,rfl,hcs3⟩,⟨rfl,rfl⟩,⟨cs5,rfl,hcs5⟩,⟨cs6,rfl,hcs6⟩,⟨cs7,rfl,hcs7⟩,⟨cs8,rfl,hcs8⟩,⟨rfl,rfl⟩,trivial⟩ ox ⟨⟨rfl,⟨cs0.toList++(cs1.toList++(cs2.toList++(cs3.toList++([])))),by kernel_rfl,hB4⟩,by kernel_rfl⟩,⟨rfl,⟨cs5.toList++(cs6.toList++(cs7.toList++(cs8.toList++([])))),by kernel_rfl,hB9⟩,by kernel_rfl⟩,trivial⟩ ox h
theorem aSn (hcs0:Seg 2 cs0) (hcs1:Seg 2 cs1) (hcs2:Seg 2 cs2) (hcs3:Seg 2 cs3) (hcs5:Seg 2 cs5) (hcs6:Seg 2 cs6) (hcs7:Seg 2 cs7) (hcs8:Seg 2 cs8) (hB4:Sy.Blk k p4 34 (cs0.toList++(cs1.toList++(cs2.toList++(cs3.toList++([]))))).toArray) (hB9:Sy.Blk k p9 34 (cs5.toList++(cs6.toList++(cs7.toList++(cs8.toList++([]))))).toArray)
 (h:Cl k 81 #[agg cs1,agg cs5] fun k1 r0=>Gt 2 r0 fun cs10=>
 Rt R k1 (agg cs10)) :
  CallsG Tryz.prog 80 #[int .i64 1,int .i64 0,Value.pointer (some ⟨p4,0,none⟩),Value.pointer (some ⟨p9,0,none⟩)] k R:=
  Sy.execFn_use_heap (cfg:={ opq:=[33] }) (args:=[.one (.lit (.int .i64 (1))),.one (.lit (.int .i64 (0))),.one (.ptr 0 0),.one (.ptr 1 0)]) (vals:=[agg cs0,agg cs1,agg cs2,agg cs3,(Value.pointer (some ⟨p4,0,none⟩)),agg cs5,agg cs6,agg cs7,agg cs8,(Value.pointer (some ⟨p9,0,none⟩))]) (kinds:=[.seg 2,.seg 2,.seg 2,.seg 2,.any,.seg 2,.seg 2,.seg 2,.seg 2,.any]) (blks:=[p4,p9]) (heap:=[{ ty:=34,cells:=[.seg 0 2,.seg 1 2,.seg 2 2,.seg 3 2],pub:=true,pv:=4 },{ ty:=34,cells:=[.seg 5 2,.seg 6 2,.seg 7 2,.seg 8 2],pub:=true,pv:=9 }]) ox ⟨⟨cs0,rfl,hcs0⟩,⟨cs1,rfl,hcs1⟩,⟨cs2,rfl,hcs2⟩,⟨cs3,rfl,hcs3⟩,⟨rfl,rfl⟩,⟨cs5,rfl,hcs5⟩,⟨cs6,rfl,hcs6⟩,⟨cs7,rfl,hcs7⟩,⟨cs8,rfl,hcs8⟩,⟨rfl,rfl⟩,trivial⟩ ox ⟨⟨rfl,⟨cs0.toList++(cs1.toList++(cs2.toList++(cs3.toList++([])))),by kernel_rfl,hB4⟩,by kernel_rfl⟩,⟨rfl,⟨cs5.toList++(cs6.toList++(cs7.toList++(cs8.toList++([])))),by kernel_rfl,hB9⟩,by kernel_rfl⟩,trivial⟩ ox h
theorem aSo (hcs0:Seg 2 cs0) (hcs1:Seg 2 cs1) (hcs2:Seg 2 cs2) (hcs3:Seg 2 cs3) (hcs5:Seg 2 cs5) (hcs6:Seg 2 cs6) (hcs7:Seg 2 cs7) (hcs8:Seg 2 cs8) (hB4:Sy.Blk k p4 34 (cs0.toList++(cs1.toList++(cs2.toList++(cs3.toList++([]))))).toArray) (hB9:Sy.Blk k p9 34 (cs5.toList++(cs6.toList++(cs7.toList++(cs8.toList++([]))))).toArray)
 (h:Cl k 81 #[agg cs1,agg cs6] fun k1 r0=>Gt 2 r0 fun cs10=>
 Rt R k1 (agg cs10)) :
  CallsG Tryz.prog 80 #[int .i64 1,int .i64 1,Value.pointer (some ⟨p4,0,none⟩),Value.pointer (some ⟨p9,0,none⟩)] k R:=
  Sy.execFn_use_heap (cfg:={ opq:=[33] }) (args:=[.one (.lit (.int .i64 (1))),.one (.lit (.int .i64 (1))),.one (.ptr 0 0),.one (.ptr 1 0)]) (vals:=[agg cs0,agg cs1,agg cs2,agg cs3,(Value.pointer (some ⟨p4,0,none⟩)),agg cs5,agg cs6,agg cs7,agg cs8,(Value.pointer (some ⟨p9,0,none⟩))]) (kinds:=[.seg 2,.seg 2,.seg 2,.seg 2,.any,.seg 2,.seg 2,.seg 2,.seg 2,.any]) (blks:=[p4,p9]) (heap:=[{ ty:=34,cells:=[.seg 0 2,.seg 1 2,.seg 2 2,.seg 3 2],pub:=true,pv:=4 },{ ty:=34,cells:=[.seg 5 2,.seg 6 2,.seg 7 2,.seg 8 2],pub:=true,pv:=9 }]) ox ⟨⟨cs0,rfl,hcs0⟩,⟨cs1,rfl,hcs1⟩,⟨cs2,rfl,hcs2⟩,⟨cs3,rfl,hcs3⟩,⟨rfl,rfl⟩,⟨cs5,rfl,hcs5⟩,⟨cs6,rfl,hcs6⟩,⟨cs7,rfl,hcs7⟩,⟨cs8,rfl,hcs8⟩,⟨rfl,rfl⟩,trivial⟩ ox ⟨⟨rfl,⟨cs0.toList++(cs1.toList++(cs2.toList++(cs3.toList++([])))),by kernel_rfl,hB4⟩,by kernel_rfl⟩,⟨rfl,⟨cs5.toList++(cs6.toList++(cs7.toList++(cs8.toList++([])))),by kernel_rfl,hB9⟩,by kernel_rfl⟩,trivial⟩ ox h
theorem aSp (hcs0:Seg 2 cs0) (hcs1:Seg 2 cs1) (hcs2:Seg 2 cs2) (hcs3:Seg 2 cs3) (hcs5:Seg 2 cs5) (hcs6:Seg 2 cs6) (hcs7:Seg 2 cs7) (hcs8:Seg 2 cs8) (hB4:Sy.Blk k p4 34 (cs0.toList++(cs1.toList++(cs2.toList++(cs3.toList++([]))))).toArray) (hB9:Sy.Blk k p9 34 (cs5.toList++(cs6.toList++(cs7.toList++(cs8.toList++([]))))).toArray)
 (h:Cl k 81 #[agg cs1,agg cs7] fun k1 r0=>Gt 2 r0 fun cs10=>
 Rt R k1 (agg cs10)) :
  CallsG Tryz.prog 80 #[int .i64 1,int .i64 2,Value.pointer (some ⟨p4,0,none⟩),Value.pointer (some ⟨p9,0,none⟩)] k R:=
  Sy.execFn_use_heap (cfg:={ opq:=[33] }) (args:=[.one (.lit (.int .i64 (1))),.one (.lit (.int .i64 (2))),.one (.ptr 0 0),.one (.ptr 1 0)]) (vals:=[agg cs0,agg cs1,agg cs2,agg cs3,(Value.pointer (some ⟨p4,0,none⟩)),agg cs5,agg cs6,agg cs7,agg cs8,(Value.pointer (some ⟨p9,0,none⟩))]) (kinds:=[.seg 2,.seg 2,.seg 2,.seg 2,.any,.seg 2,.seg 2,.seg 2,.seg 2,.any]) (blks:=[p4,p9]) (heap:=[{ ty:=34,cells:=[.seg 0 2,.seg 1 2,.seg 2 2,.seg 3 2],pub:=true,pv:=4 },{ ty:=34,cells:=[.seg 5 2,.seg 6 2,.seg 7 2,.seg 8 2],pub:=true,pv:=9 }]) ox ⟨⟨cs0,rfl,hcs0⟩,⟨cs1,rfl,hcs1⟩,⟨cs2,rfl,hcs2⟩,⟨cs3,rfl,hcs3⟩,⟨rfl,rfl⟩,⟨cs5,rfl,hcs5⟩,⟨cs6,rfl,hcs6⟩,⟨cs7,rfl,hcs7⟩,⟨cs8,rfl,hcs8⟩,⟨rfl,rfl⟩,trivial⟩ ox ⟨⟨rfl,⟨cs0.toList++(cs1.toList++(cs2.toList++(cs3.toList++([])))),by kernel_rfl,hB4⟩,by kernel_rfl⟩,⟨rfl,⟨cs5.toList++(cs6.toList++(cs7.toList++(cs8.toList++([])))),by kernel_rfl,hB9⟩,by kernel_rfl⟩,trivial⟩ ox h
theorem aSq (hcs0:Seg 2 cs0) (hcs1:Seg 2 cs1) (hcs2:Seg 2 cs2) (hcs3:Seg 2 cs3) (hcs5:Seg 2 cs5) (hcs6:Seg 2 cs6) (hcs7:Seg 2 cs7) (hcs8:Seg 2 cs8) (hB4:Sy.Blk k p4 34 (cs0.toList++(cs1.toList++(cs2.toList++(cs3.toList++([]))))).toArray) (hB9:Sy.Blk k p9 34 (cs5.toList++(cs6.toList++(cs7.toList++(cs8.toList++([]))))).toArray)
 (h:Cl k 81 #[agg cs1,agg cs8] fun k1 r0=>Gt 2 r0 fun cs10=>
 Rt R k1 (agg cs10)) :
  CallsG Tryz.prog 80 #[int .i64 1,int .i64 3,Value.pointer (some ⟨p4,0,none⟩),Value.pointer (some ⟨p9,0,none⟩)] k R:=
  Sy.execFn_use_heap (cfg:={ opq:=[33] }) (args:=[.one (.lit (.int .i64 (1))),.one (.lit (.int .i64 (3))),.one (.ptr 0 0),.one (.ptr 1 0)]) (vals:=[agg cs0,agg cs1,agg cs2,agg cs3,(Value.pointer (some ⟨p4,0,none⟩)),agg cs5,agg cs6,agg cs7,agg cs8,(Value.pointer (some ⟨p9,0,none⟩))]) (kinds:=[.seg 2,.seg 2,.seg 2,.seg 2,.any,.seg 2,.seg 2,.seg 2,.seg 2,.any]) (blks:=[p4,p9]) (heap:=[{ ty:=34,cells:=[.seg 0 2,.seg 1 2,.seg 2 2,.seg 3 2],pub:=true,pv:=4 },{ ty:=34,cells:=[.seg 5 2,.seg 6 2,.seg 7 2,.seg 8 2],pub:=true,pv:=9 }]) ox ⟨⟨cs0,rfl,hcs0⟩,⟨cs1,rfl,hcs1⟩,⟨cs2,rfl,hcs2⟩,⟨cs3,rfl,hcs3⟩,⟨rfl,rfl⟩,⟨cs5,rfl,hcs5⟩,⟨cs6,rfl,hcs6⟩,⟨cs7,rfl,hcs7⟩,⟨cs8,rfl,hcs8⟩,⟨rfl,rfl⟩,trivial⟩ ox ⟨⟨rfl,⟨cs0.toList++(cs1.toList++(cs2.toList++(cs3.toList++([])))),by kernel_rfl,hB4⟩,by kernel_rfl⟩,⟨rfl,⟨cs5.toList++(cs6.toList++(cs7.toList++(cs8.toList++([])))),by kernel_rfl,hB9⟩,by kernel_rfl⟩,trivial⟩ ox h
theorem aSr (hcs0:Seg 2 cs0) (hcs1:Seg 2 cs1) (hcs2:Seg 2 cs2) (hcs3:Seg 2 cs3) (hcs5:Seg 2 cs5) (hcs6:Seg 2 cs6) (hcs7:Seg 2 cs7) (hcs8:Seg 2 cs8) (hB4:Sy.Blk k p4 34 (cs0.toList++(cs1.toList++(cs2.toList++(cs3.toList++([]))))).toArray) (hB9:Sy.Blk k p9 34 (cs5.toList++(cs6.toList++(cs7.toList++(cs8.toList++([]))))).toArray)
 (h:Cl k 81 #[agg cs2,agg cs5] fun k1 r0=>Gt 2 r0 fun cs10=>
 Rt R k1 (agg cs10)) :
  CallsG Tryz.prog 80 #[int .i64 2,int .i64 0,Value.pointer (some ⟨p4,0,none⟩),Value.pointer (some ⟨p9,0,none⟩)] k R:=
  Sy.execFn_use_heap (cfg:={ opq:=[33] }) (args:=[.one (.lit (.int .i64 (2))),.one (.lit (.int .i64 (0))),.one (.ptr 0 0),.one (.ptr 1 0)]) (vals:=[agg cs0,agg cs1,agg cs2,agg cs3,(Value.pointer (some ⟨p4,0,none⟩)),agg cs5,agg cs6,agg cs7,agg cs8,(Value.pointer (some ⟨p9,0,none⟩))]) (kinds:=[.seg 2,.seg 2,.seg 2,.seg 2,.any,.seg 2,.seg 2,.seg 2,.seg 2,.any]) (blks:=[p4,p9]) (heap:=[{ ty:=34,cells:=[.seg 0 2,.seg 1 2,.seg 2 2,.seg 3 2],pub:=true,pv:=4 },{ ty:=34,cells:=[.seg 5 2,.seg 6 2,.seg 7 2,.seg 8 2],pub:=true,pv:=9 }]) ox ⟨⟨cs0,rfl,hcs0⟩,⟨cs1,rfl,hcs1⟩,⟨cs2,rfl,hcs2⟩,⟨cs3,rfl,hcs3⟩,⟨rfl,rfl⟩,⟨cs5,rfl,hcs5⟩,⟨cs6,rfl,hcs6⟩,⟨cs7,rfl,hcs7⟩,⟨cs8,rfl,hcs8⟩,⟨rfl,rfl⟩,trivial⟩ ox ⟨⟨rfl,⟨cs0.toList++(cs1.toList++(cs2.toList++(cs3.toList++([])))),by kernel_rfl,hB4⟩,by kernel_rfl⟩,⟨rfl,⟨cs5.toList++(cs6.toList++(cs7.toList++(cs8.toList++([])))),by kernel_rfl,hB9⟩,by kernel_rfl⟩,trivial⟩ ox h
theorem aSs (hcs0:Seg 2 cs0) (hcs1:Seg 2 cs1) (hcs2:Seg 2 cs2) (hcs3:Seg 2 cs3) (hcs5:Seg 2 cs5) (hcs6:Seg 2 cs6) (hcs7:Seg 2 cs7) (hcs8:Seg 2 cs8) (hB4:Sy.Blk k p4 34 (cs0.toList++(cs1.toList++(cs2.toList++(cs3.toList++([]))))).toArray) (hB9:Sy.Blk k p9 34 (cs5.toList++(cs6.toList++(cs7.toList++(cs8.toList++([]))))).toArray)
 (h:Cl k 81 #[agg cs2,agg cs6] fun k1 r0=>Gt 2 r0 fun cs10=>
 Rt R k1 (agg cs10)) :
  CallsG Tryz.prog 80 #[int .i64 2,int .i64 1,Value.pointer (some ⟨p4,0,none⟩),Value.pointer (some ⟨p9,0,none⟩)] k R:=
  Sy.execFn_use_heap (cfg:={ opq:=[33] }) (args:=[.one (.lit (.int .i64 (2))),.one (.lit (.int .i64 (1))),.one (.ptr 0 0),.one (.ptr 1 0)]) (vals:=[agg cs0,agg cs1,agg cs2,agg cs3,(Value.pointer (some ⟨p4,0,none⟩)),agg cs5,agg cs6,agg cs7,agg cs8,(Value.pointer (some ⟨p9,0,none⟩))]) (kinds:=[.seg 2,.seg 2,.seg 2,.seg 2,.any,.seg 2,.seg 2,.seg 2,.seg 2,.any]) (blks:=[p4,p9]) (heap:=[{ ty:=34,cells:=[.seg 0 2,.seg 1 2,.seg 2 2,.seg 3 2],pub:=true,pv:=4 },{ ty:=34,cells:=[.seg 5 2,.seg 6 2,.seg 7 2,.seg 8 2],pub:=true,pv:=9 }]) ox ⟨⟨cs0,rfl,hcs0⟩,⟨cs1,rfl,hcs1⟩,⟨cs2,rfl,hcs2⟩,⟨cs3,rfl,hcs3⟩,⟨rfl,rfl⟩,⟨cs5,rfl,hcs5⟩,⟨cs6,rfl,hcs6⟩,⟨cs7,rfl,hcs7⟩,⟨cs8,rfl,hcs8⟩,⟨rfl,rfl⟩,trivial⟩ ox ⟨⟨rfl,⟨cs0.toList++(cs1.toList++(cs2.toList++(cs3.toList++([])))),by kernel_rfl,hB4⟩,by kernel_rfl⟩,⟨rfl,⟨cs5.toList++(cs6.toList++(cs7.toList++(cs8.toList++([])))),by kernel_rfl,hB9⟩,by kernel_rfl⟩,trivial⟩ ox h
theorem aSt (hcs0:Seg 2 cs0) (hcs1:Seg 2 cs1) (hcs2:Seg 2 cs2) (hcs3:Seg 2 cs3) (hcs5:Seg 2 cs5) (hcs6:Seg 2 cs6) (hcs7:Seg 2 cs7) (hcs8:Seg 2 cs8) (hB4:Sy.Blk k p4 34 (cs0.toList++(cs1.toList++(cs2.toList++(cs3.toList++([]))))).toArray) (hB9:Sy.Blk k p9 34 (cs5.toList++(cs6.toList++(cs7.toList++(cs8.toList++([]))))).toArray)
 (h:Cl k 81 #[agg cs2,agg cs7] fun k1 r0=>Gt 2 r0 fun cs10=>
 Rt R k1 (agg cs10)) :
  CallsG Tryz.prog 80 #[int .i64 2,int .i64 2,Value.pointer (some ⟨p4,0,none⟩),Value.pointer (some ⟨p9,0,none⟩)] k R:=
  Sy.execFn_use_heap (cfg:={ opq:=[33] }) (args:=[.one (.lit (.int .i64 (2))),.one (.lit (.int .i64 (2))),.one (.ptr 0 0),.one (.ptr 1 0)]) (vals:=[agg cs0,agg cs1,agg cs2,agg cs3,(Value.pointer (some ⟨p4,0,none⟩)),agg cs5,agg cs6,agg cs7,agg cs8,(Value.pointer (some ⟨p9,0,none⟩))]) (kinds:=[.seg 2,.seg 2,.seg 2,.seg 2,.any,.seg 2,.seg 2,.seg 2,.seg 2,.any]) (blks:=[p4,p9]) (heap:=[{ ty:=34,cells:=[.seg 0 2,.seg 1 2,.seg 2 2,.seg 3 2],pub:=true,pv:=4 },{ ty:=34,cells:=[.seg 5 2,.seg 6 2,.seg 7 2,.seg 8 2],pub:=true,pv:=9 }]) ox ⟨⟨cs0,rfl,hcs0⟩,⟨cs1,rfl,hcs1⟩,⟨cs2,rfl,hcs2⟩,⟨cs3,rfl,hcs3⟩,⟨rfl,rfl⟩,⟨cs5,rfl,hcs5⟩,⟨cs6,rfl,hcs6⟩,⟨cs7,rfl,hcs7⟩,⟨cs8,rfl,hcs8⟩,⟨rfl,rfl⟩,trivial⟩ ox ⟨⟨rfl,⟨cs0.toList++(cs1.toList++(cs2.toList++(cs3.toList++([])))),by kernel_rfl,hB4⟩,by kernel_rfl⟩,⟨rfl,⟨cs5.toList++(cs6.toList++(cs7.toList++(cs8.toList++([])))),by kernel_rfl,hB9⟩,by kernel_rfl⟩,trivial⟩ ox h
theorem aSu (hcs0:Seg 2 cs0) (hcs1:Seg 2 cs1) (hcs2:Seg 2 cs2) (hcs3:Seg 2 cs3) (hcs5:Seg 2 cs5) (hcs6:Seg 2 cs6) (hcs7:Seg 2 cs7) (hcs8:Seg 2 cs8) (hB4:Sy.Blk k p4 34 (cs0.toList++(cs1.toList++(cs2.toList++(cs3.toList++([]))))).toArray) (hB9:Sy.Blk k p9 34 (cs5.toList++(cs6.toList++(cs7.toList++(cs8.toList++([]))))).toArray)
 (h:Cl k 81 #[agg cs2,agg cs8] fun k1 r0=>Gt 2 r0 fun cs10=>
 Rt R k1 (agg cs10)) :
  CallsG Tryz.prog 80 #[int .i64 2,int .i64 3,Value.pointer (some ⟨p4,0,none⟩),Value.pointer (some ⟨p9,0,none⟩)] k R:=
  Sy.execFn_use_heap (cfg:={ opq:=[33] }) (args:=[.one (.lit (.int .i64 (2))),.one (.lit (.int .i64 (3))),.one (.ptr 0 0),.one (.ptr 1 0)]) (vals:=[agg cs0,agg cs1,agg cs2,agg cs3,(Value.pointer (some ⟨p4,0,none⟩)),agg cs5,agg cs6,agg cs7,agg cs8,(Value.pointer (some ⟨p9,0,none⟩))]) (kinds:=[.seg 2,.seg 2,.seg 2,.seg 2,.any,.seg 2,.seg 2,.seg 2,.seg 2,.any]) (blks:=[p4,p9]) (heap:=[{ ty:=34,cells:=[.seg 0 2,.seg 1 2,.seg 2 2,.seg 3 2],pub:=true,pv:=4 },{ ty:=34,cells:=[.seg 5 2,.seg 6 2,.seg 7 2,.seg 8 2],pub:=true,pv:=9 }]) ox ⟨⟨cs0,rfl,hcs0⟩,⟨cs1,rfl,hcs1⟩,⟨cs2,rfl,hcs2⟩,⟨cs3,rfl,hcs3⟩,⟨rfl,rfl⟩,⟨cs5,rfl,hcs5⟩,⟨cs6,rfl,hcs6⟩,⟨cs7,rfl,hcs7⟩,⟨cs8,rfl,hcs8⟩,⟨rfl,rfl⟩,trivial⟩ ox ⟨⟨rfl,⟨cs0.toList++(cs1.toList++(cs2.toList++(cs3.toList++([])))),by kernel_rfl,hB4⟩,by kernel_rfl⟩,⟨rfl,⟨cs5.toList++(cs6.toList++(cs7.toList++(cs8.toList++([])))),by kernel_rfl,hB9⟩,by kernel_rfl⟩,trivial⟩ ox h
theorem aSv (hcs0:Seg 2 cs0) (hcs1:Seg 2 cs1) (hcs2:Seg 2 cs2) (hcs3:Seg 2 cs3) (hcs5:Seg 2 cs5) (hcs6:Seg 2 cs6) (hcs7:Seg 2 cs7) (hcs8:Seg 2 cs8) (hB4:Sy.Blk k p4 34 (cs0.toList++(cs1.toList++(cs2.toList++(cs3.toList++([]))))).toArray) (hB9:Sy.Blk k p9 34 (cs5.toList++(cs6.toList++(cs7.toList++(cs8.toList++([]))))).toArray)
 (h:Cl k 81 #[agg cs3,agg cs5] fun k1 r0=>Gt 2 r0 fun cs10=>
 Rt R k1 (agg cs10)) :
  CallsG Tryz.prog 80 #[int .i64 3,int .i64 0,Value.pointer (some ⟨p4,0,none⟩),Value.pointer (some ⟨p9,0,none⟩)] k R:=
  Sy.execFn_use_heap (cfg:={ opq:=[33] }) (args:=[.one (.lit (.int .i64 (3))),.one (.lit (.int .i64 (0))),.one (.ptr 0 0),.one (.ptr 1 0)]) (vals:=[agg cs0,agg cs1,agg cs2,agg cs3,(Value.pointer (some ⟨p4,0,none⟩)),agg cs5,agg cs6,agg cs7,agg cs8,(Value.pointer (some ⟨p9,0,none⟩))]) (kinds:=[.seg 2,.seg 2,.seg 2,.seg 2,.any,.seg 2,.seg 2,.seg 2,.seg 2,.any]) (blks:=[p4,p9]) (heap:=[{ ty:=34,cells:=[.seg 0 2,.seg 1 2,.seg 2 2,.seg 3 2],pub:=true,pv:=4 },{ ty:=34,cells:=[.seg 5 2,.seg 6 2,.seg 7 2,.seg 8 2],pub:=true,pv:=9 }]) ox ⟨⟨cs0,rfl,hcs0⟩,⟨cs1,rfl,hcs1⟩,⟨cs2,rfl,hcs2⟩,⟨cs3,rfl,hcs3⟩,⟨rfl,rfl⟩,⟨cs5,rfl,hcs5⟩,⟨cs6,rfl,hcs6⟩,⟨cs7,rfl,hcs7⟩,⟨cs8,rfl,hcs8⟩,⟨rfl,rfl⟩,trivial⟩ ox ⟨⟨rfl,⟨cs0.toList++(cs1.toList++(cs2.toList++(cs3.toList++([])))),by kernel_rfl,hB4⟩,by kernel_rfl⟩,⟨rfl,⟨cs5.toList++(cs6.toList++(cs7.toList++(cs8.toList++([])))),by kernel_rfl,hB9⟩,by kernel_rfl⟩,trivial⟩ ox h
theorem aSw (hcs0:Seg 2 cs0) (hcs1:Seg 2 cs1) (hcs2:Seg 2 cs2) (hcs3:Seg 2 cs3) (hcs5:Seg 2 cs5) (hcs6:Seg 2 cs6) (hcs7:Seg 2 cs7) (hcs8:Seg 2 cs8) (hB4:Sy.Blk k p4 34 (cs0.toList++(cs1.toList++(cs2.toList++(cs3.toList++([]))))).toArray) (hB9:Sy.Blk k p9 34 (cs5.toList++(cs6.toList++(cs7.toList++(cs8.toList++([]))))).toArray)
 (h:Cl k 81 #[agg cs3,agg cs6] fun k1 r0=>Gt 2 r0 fun cs10=>
 Rt R k1 (agg cs10)) :
  CallsG Tryz.prog 80 #[int .i64 3,int .i64 1,Value.pointer (some ⟨p4,0,none⟩),Value.pointer (some ⟨p9,0,none⟩)] k R:=
  Sy.execFn_use_heap (cfg:={ opq:=[33] }) (args:=[.one (.lit (.int .i64 (3))),.one (.lit (.int .i64 (1))),.one (.ptr 0 0),.one (.ptr 1 0)]) (vals:=[agg cs0,agg cs1,agg cs2,agg cs3,(Value.pointer (some ⟨p4,0,none⟩)),agg cs5,agg cs6,agg cs7,agg cs8,(Value.pointer (some ⟨p9,0,none⟩))]) (kinds:=[.seg 2,.seg 2,.seg 2,.seg 2,.any,.seg 2,.seg 2,.seg 2,.seg 2,.any]) (blks:=[p4,p9]) (heap:=[{ ty:=34,cells:=[.seg 0 2,.seg 1 2,.seg 2 2,.seg 3 2],pub:=true,pv:=4 },{ ty:=34,cells:=[.seg 5 2,.seg 6 2,.seg 7 2,.seg 8 2],pub:=true,pv:=9 }]) ox ⟨⟨cs0,rfl,hcs0⟩,⟨cs1,rfl,hcs1⟩,⟨cs2,rfl,hcs2⟩,⟨cs3,rfl,hcs3⟩,⟨rfl,rfl⟩,⟨cs5,rfl,hcs5⟩,⟨cs6,rfl,hcs6⟩,⟨cs7,rfl,hcs7⟩,⟨cs8,rfl,hcs8⟩,⟨rfl,rfl⟩,trivial⟩ ox ⟨⟨rfl,⟨cs0.toList++(cs1.toList++(cs2.toList++(cs3.toList++([])))),by kernel_rfl,hB4⟩,by kernel_rfl⟩,⟨rfl,⟨cs5.toList++(cs6.toList++(cs7.toList++(cs8.toList++([])))),by kernel_rfl,hB9⟩,by kernel_rfl⟩,trivial⟩ ox h
theorem aSx (hcs0:Seg 2 cs0) (hcs1:Seg 2 cs1) (hcs2:Seg 2 cs2) (hcs3:Seg 2 cs3) (hcs5:Seg 2 cs5) (hcs6:Seg 2 cs6) (hcs7:Seg 2 cs7) (hcs8:Seg 2 cs8) (hB4:Sy.Blk k p4 34 (cs0.toList++(cs1.toList++(cs2.toList++(cs3.toList++([]))))).toArray) (hB9:Sy.Blk k p9 34 (cs5.toList++(cs6.toList++(cs7.toList++(cs8.toList++([]))))).toArray)
 (h:Cl k 81 #[agg cs3,agg cs7] fun k1 r0=>Gt 2 r0 fun cs10=>
 Rt R k1 (agg cs10)) :
  CallsG Tryz.prog 80 #[int .i64 3,int .i64 2,Value.pointer (some ⟨p4,0,none⟩),Value.pointer (some ⟨p9,0,none⟩)] k R:=
  Sy.execFn_use_heap (cfg:={ opq:=[33] }) (args:=[.one (.lit (.int .i64 (3))),.one (.lit (.int .i64 (2))),.one (.ptr 0 0),.one (.ptr 1 0)]) (vals:=[agg cs0,agg cs1,agg cs2,agg cs3,(Value.pointer (some ⟨p4,0,none⟩)),agg cs5,agg cs6,agg cs7,agg cs8,(Value.pointer (some ⟨p9,0,none⟩))]) (kinds:=[.seg 2,.seg 2,.seg 2,.seg 2,.any,.seg 2,.seg 2,.seg 2,.seg 2,.any]) (blks:=[p4,p9]) (heap:=[{ ty:=34,cells:=[.seg 0 2,.seg 1 2,.seg 2 2,.seg 3 2],pub:=true,pv:=4 },{ ty:=34,cells:=[.seg 5 2,.seg 6 2,.seg 7 2,.seg 8 2],pub:=true,pv:=9 }]) ox ⟨⟨cs0,rfl,hcs0⟩,⟨cs1,rfl,hcs1⟩,⟨cs2,rfl,hcs2⟩,⟨cs3,rfl,hcs3⟩,⟨rfl,rfl⟩,⟨cs5,rfl,hcs5⟩,⟨cs6,rfl,hcs6⟩,⟨cs7,rfl,hcs7⟩,⟨cs8,rfl,hcs8⟩,⟨rfl,rfl⟩,trivial⟩ ox ⟨⟨rfl,⟨cs0.toList++(cs1.toList++(cs2.toList++(cs3.toList++([])))),by kernel_rfl,hB4⟩,by kernel_rfl⟩,⟨rfl,⟨cs5.toList++(cs6.toList++(cs7.toList++(cs8.toList++([])))),by kernel_rfl,hB9⟩,by kernel_rfl⟩,trivial⟩ ox h
theorem aSy (hcs0:Seg 2 cs0) (hcs1:Seg 2 cs1) (hcs2:Seg 2 cs2) (hcs3:Seg 2 cs3) (hcs5:Seg 2 cs5) (hcs6:Seg 2 cs6) (hcs7:Seg 2 cs7) (hcs8:Seg 2 cs8) (hB4:Sy.Blk k p4 34 (cs0.toList++(cs1.toList++(cs2.toList++(cs3.toList++([]))))).toArray) (hB9:Sy.Blk k p9 34 (cs5.toList++(cs6.toList++(cs7.toList++(cs8.toList++([]))))).toArray)
 (h:Cl k 81 #[agg cs3,agg cs8] fun k1 r0=>Gt 2 r0 fun cs10=>
 Rt R k1 (agg cs10)) :
  CallsG Tryz.prog 80 #[int .i64 3,int .i64 3,Value.pointer (some ⟨p4,0,none⟩),Value.pointer (some ⟨p9,0,none⟩)] k R:=
  Sy.execFn_use_heap (cfg:={ opq:=[33] }) (args:=[.one (.lit (.int .i64 (3))),.one (.lit (.int .i64 (3))),.one (.ptr 0 0),.one (.ptr 1 0)]) (vals:=[agg cs0,agg cs1,agg cs2,agg cs3,(Value.pointer (some ⟨p4,0,none⟩)),agg cs5,agg cs6,agg cs7,agg cs8,(Value.pointer (some ⟨p9,0,none⟩))]) (kinds:=[.seg 2,.seg 2,.seg 2,.seg 2,.any,.seg 2,.seg 2,.seg 2,.seg 2,.any]) (blks:=[p4,p9]) (heap:=[{ ty:=34,cells:=[.seg 0 2,.seg 1 2,.seg 2 2,.seg 3 2],pub:=true,pv:=4 },{ ty:=34,cells:=[.seg 5 2,.seg 6 2,.seg 7 2,.seg 8 2],pub:=true,pv:=9 }]) ox ⟨⟨cs0,rfl,hcs0⟩,⟨cs1,rfl,hcs1⟩,⟨cs2,rfl,hcs2⟩,⟨cs3,rfl,hcs3⟩,⟨rfl,rfl⟩,⟨cs5,rfl,hcs5⟩,⟨cs6,rfl,hcs6⟩,⟨cs7,rfl,hcs7⟩,⟨cs8,rfl,hcs8⟩,⟨rfl,rfl⟩,trivial⟩ ox ⟨⟨rfl,⟨cs0.toList++(cs1.toList++(cs2.toList++(cs3.toList++([])))),by kernel_rfl,hB4⟩,by kernel_rfl⟩,⟨rfl,⟨cs5.toList++(cs6.toList++(cs7.toList++(cs8.toList++([])))),by kernel_rfl,hB9⟩,by kernel_rfl⟩,trivial⟩ ox h
end Go.Proofs.YthiaclljcnincaaGreat

namespace Go.Proofs.YthiaclljcnincaaGreat
open Go.RowKit Num
open Sy (Up Sees CallsG Seg)
section
variable {k:World}{R:World→Value→Prop}{K L:Nat}{cs cs':Array Value}{v v':Q4}
theorem Up.blk {k k':World}(u:Up k k') {p t:Nat}{cs:Array Value}(h:Sy.Blk k p t cs):Sy.Blk k' p t cs:=u.live p _ h (by intro e;unfold Sy.dead at e;injection e with e1 e2 e3;cases e3)
def Box4 (k:World) (p:Nat) (x0 x1 x2 x3:Int) (K:Nat):Prop:=
 ∃c0 c1 c2 c3:Array Value,Sy.Blk k p 34 (c0.toList++(c1.toList++(c2.toList++(c3.toList++([]))))).toArray∧IntV k c0 x0 K∧IntV k c1 x1 K∧IntV k c2 x2 K∧IntV k c3 x3 K
theorem Box4.up {k k':World}{p:Nat}{x0 x1 x2 x3:Int}(h:Box4 k p x0 x1 x2 x3 K) (u:Up k k'):Box4 k' p x0 x1 x2 x3 K:=by
 obtain⟨c0,c1,c2,c3,hb,h0,h1,h2,h3⟩:=h;exact⟨c0,c1,c2,c3,Up.blk u hb,h0.up u,h1.up u,h2.up u,h3.up u⟩
theorem aXd {p p':Nat}{x0 x1 x2 x3 y0 y1 y2 y3:Int}(hx:Box4 k p x0 x1 x2 x3 K) (hy:Box4 k p' y0 y1 y2 y3 K) (hK:K≤268435456) (C:∀k' ds,Up k k'→IntV k' ds (x0*y0) (2*K)→R k' (.agg ds)) :
 Cl k 80 #[.int .i64 0,.int .i64 0,.pointer (some ⟨p,0,none⟩),.pointer (some ⟨p',0,none⟩)] R:=by
 have e2:2*K=K+K:=oq
 rw [e2]at C;intro k0 u0;replace hx:=hx.up u0;replace hy:=hy.up u0;replace C:=fun k' ds u=>C k' ds (u0.trans u);obtain⟨c0,c1,c2,c3,hb,h0,h1,h2,h3⟩:=hx;obtain⟨d0,d1,d2,d3,hb',g0,g1,g2,g3⟩:=hy;refine aSj h0.seg h1.seg h2.seg h3.seg g0.seg g1.seg g2.seg g3.seg hb hb' ?_;refine cK h0 g0 oq oq ?_;intro k1 cA u1 a;refine⟨cA,a.seg,rfl,?_⟩;replace C:=fun k' ds u=>C k' ds (u1.trans u);intro k2 u2;replace a:=a.up u2;exact C _ _ u2 a
theorem aXe {p p':Nat}{x0 x1 x2 x3 y0 y1 y2 y3:Int}(hx:Box4 k p x0 x1 x2 x3 K) (hy:Box4 k p' y0 y1 y2 y3 K) (hK:K≤268435456) (C:∀k' ds,Up k k'→IntV k' ds (x0*y1) (2*K)→R k' (.agg ds)) :
 Cl k 80 #[.int .i64 0,.int .i64 1,.pointer (some ⟨p,0,none⟩),.pointer (some ⟨p',0,none⟩)] R:=by
 have e2:2*K=K+K:=oq
 rw [e2]at C;intro k0 u0;replace hx:=hx.up u0;replace hy:=hy.up u0;replace C:=fun k' ds u=>C k' ds (u0.trans u);obtain⟨c0,c1,c2,c3,hb,h0,h1,h2,h3⟩:=hx;obtain⟨d0,d1,d2,d3,hb',g0,g1,g2,g3⟩:=hy;refine aSk h0.seg h1.seg h2.seg h3.seg g0.seg g1.seg g2.seg g3.seg hb hb' ?_;refine cK h0 g1 oq oq ?_;intro k1 cA u1 a;refine⟨cA,a.seg,rfl,?_⟩;replace C:=fun k' ds u=>C k' ds (u1.trans u);intro k2 u2;replace a:=a.up u2;exact C _ _ u2 a
theorem aXf {p p':Nat}{x0 x1 x2 x3 y0 y1 y2 y3:Int}(hx:Box4 k p x0 x1 x2 x3 K) (hy:Box4 k p' y0 y1 y2 y3 K) (hK:K≤268435456) (C:∀k' ds,Up k k'→IntV k' ds (x0*y2) (2*K)→R k' (.agg ds)) :
 Cl k 80 #[.int .i64 0,.int .i64 2,.pointer (some ⟨p,0,none⟩),.pointer (some ⟨p',0,none⟩)] R:=by
 have e2:2*K=K+K:=oq
 rw [e2]at C;intro k0 u0;replace hx:=hx.up u0;replace hy:=hy.up u0;replace C:=fun k' ds u=>C k' ds (u0.trans u);obtain⟨c0,c1,c2,c3,hb,h0,h1,h2,h3⟩:=hx;obtain⟨d0,d1,d2,d3,hb',g0,g1,g2,g3⟩:=hy;refine aSl h0.seg h1.seg h2.seg h3.seg g0.seg g1.seg g2.seg g3.seg hb hb' ?_;refine cK h0 g2 oq oq ?_;intro k1 cA u1 a;refine⟨cA,a.seg,rfl,?_⟩;replace C:=fun k' ds u=>C k' ds (u1.trans u);intro k2 u2;replace a:=a.up u2;exact C _ _ u2 a
theorem aXg {p p':Nat}{x0 x1 x2 x3 y0 y1 y2 y3:Int}(hx:Box4 k p x0 x1 x2 x3 K) (hy:Box4 k p' y0 y1 y2 y3 K) (hK:K≤268435456) (C:∀k' ds,Up k k'→IntV k' ds (x0*y3) (2*K)→R k' (.agg ds)) :
 Cl k 80 #[.int .i64 0,.int .i64 3,.pointer (some ⟨p,0,none⟩),.pointer (some ⟨p',0,none⟩)] R:=by
 have e2:2*K=K+K:=oq
 rw [e2]at C;intro k0 u0;replace hx:=hx.up u0;replace hy:=hy.up u0;replace C:=fun k' ds u=>C k' ds (u0.trans u);obtain⟨c0,c1,c2,c3,hb,h0,h1,h2,h3⟩:=hx;obtain⟨d0,d1,d2,d3,hb',g0,g1,g2,g3⟩:=hy;refine aSm h0.seg h1.seg h2.seg h3.seg g0.seg g1.seg g2.seg g3.seg hb hb' ?_;refine cK h0 g3 oq oq ?_;intro k1 cA u1 a;refine⟨cA,a.seg,rfl,?_⟩;replace C:=fun k' ds u=>C k' ds (u1.trans u);intro k2 u2;replace a:=a.up u2;exact C _ _ u2 a
theorem aXh {p p':Nat}{x0 x1 x2 x3 y0 y1 y2 y3:Int}(hx:Box4 k p x0 x1 x2 x3 K) (hy:Box4 k p' y0 y1 y2 y3 K) (hK:K≤268435456) (C:∀k' ds,Up k k'→IntV k' ds (x1*y0) (2*K)→R k' (.agg ds)) :
 Cl k 80 #[.int .i64 1,.int .i64 0,.pointer (some ⟨p,0,none⟩),.pointer (some ⟨p',0,none⟩)] R:=by
 have e2:2*K=K+K:=oq
 rw [e2]at C;intro k0 u0;replace hx:=hx.up u0;replace hy:=hy.up u0;replace C:=fun k' ds u=>C k' ds (u0.trans u);obtain⟨c0,c1,c2,c3,hb,h0,h1,h2,h3⟩:=hx;obtain⟨d0,d1,d2,d3,hb',g0,g1,g2,g3⟩:=hy;refine aSn h0.seg h1.seg h2.seg h3.seg g0.seg g1.seg g2.seg g3.seg hb hb' ?_;refine cK h1 g0 oq oq ?_;intro k1 cA u1 a;refine⟨cA,a.seg,rfl,?_⟩;replace C:=fun k' ds u=>C k' ds (u1.trans u);intro k2 u2;replace a:=a.up u2;exact C _ _ u2 a
theorem aXi {p p':Nat}{x0 x1 x2 x3 y0 y1 y2 y3:Int}(hx:Box4 k p x0 x1 x2 x3 K) (hy:Box4 k p' y0 y1 y2 y3 K) (hK:K≤268435456) (C:∀k' ds,Up k k'→IntV k' ds (x1*y1) (2*K)→R k' (.agg ds)) :
 Cl k 80 #[.int .i64 1,.int .i64 1,.pointer (some ⟨p,0,none⟩),.pointer (some ⟨p',0,none⟩)] R:=by
 have e2:2*K=K+K:=oq
 rw [e2]at C;intro k0 u0;replace hx:=hx.up u0;replace hy:=hy.up u0;replace C:=fun k' ds u=>C k' ds (u0.trans u);obtain⟨c0,c1,c2,c3,hb,h0,h1,h2,h3⟩:=hx;obtain⟨d0,d1,d2,d3,hb',g0,g1,g2,g3⟩:=hy;refine aSo h0.seg h1.seg h2.seg h3.seg g0.seg g1.seg g2.seg g3.seg hb hb' ?_;refine cK h1 g1 oq oq ?_;intro k1 cA u1 a;refine⟨cA,a.seg,rfl,?_⟩;replace C:=fun k' ds u=>C k' ds (u1.trans u);intro k2 u2;replace a:=a.up u2;exact C _ _ u2 a
theorem aXj {p p':Nat}{x0 x1 x2 x3 y0 y1 y2 y3:Int}(hx:Box4 k p x0 x1 x2 x3 K) (hy:Box4 k p' y0 y1 y2 y3 K) (hK:K≤268435456) (C:∀k' ds,Up k k'→IntV k' ds (x1*y2) (2*K)→R k' (.agg ds)) :
 Cl k 80 #[.int .i64 1,.int .i64 2,.pointer (some ⟨p,0,none⟩),.pointer (some ⟨p',0,none⟩)] R:=by
 have e2:2*K=K+K:=oq
 rw [e2]at C;intro k0 u0;replace hx:=hx.up u0;replace hy:=hy.up u0;replace C:=fun k' ds u=>C k' ds (u0.trans u);obtain⟨c0,c1,c2,c3,hb,h0,h1,h2,h3⟩:=hx;obtain⟨d0,d1,d2,d3,hb',g0,g1,g2,g3⟩:=hy;refine aSp h0.seg h1.seg h2.seg h3.seg g0.seg g1.seg g2.seg g3.seg hb hb' ?_;refine cK h1 g2 oq oq ?_;intro k1 cA u1 a;refine⟨cA,a.seg,rfl,?_⟩;replace C:=fun k' ds u=>C k' ds (u1.trans u);intro k2 u2;replace a:=a.up u2;exact C _ _ u2 a
theorem aXk {p p':Nat}{x0 x1 x2 x3 y0 y1 y2 y3:Int}(hx:Box4 k p x0 x1 x2 x3 K) (hy:Box4 k p' y0 y1 y2 y3 K) (hK:K≤268435456) (C:∀k' ds,Up k k'→IntV k' ds (x1*y3) (2*K)→R k' (.agg ds)) :
 Cl k 80 #[.int .i64 1,.int .i64 3,.pointer (some ⟨p,0,none⟩),.pointer (some ⟨p',0,none⟩)] R:=by
 have e2:2*K=K+K:=oq
 rw [e2]at C;intro k0 u0;replace hx:=hx.up u0;replace hy:=hy.up u0;replace C:=fun k' ds u=>C k' ds (u0.trans u);obtain⟨c0,c1,c2,c3,hb,h0,h1,h2,h3⟩:=hx;obtain⟨d0,d1,d2,d3,hb',g0,g1,g2,g3⟩:=hy;refine aSq h0.seg h1.seg h2.seg h3.seg g0.seg g1.seg g2.seg g3.seg hb hb' ?_;refine cK h1 g3 oq oq ?_;intro k1 cA u1 a;refine⟨cA,a.seg,rfl,?_⟩;replace C:=fun k' ds u=>C k' ds (u1.trans u);intro k2 u2;replace a:=a.up u2;exact C _ _ u2 a
theorem aXl {p p':Nat}{x0 x1 x2 x3 y0 y1 y2 y3:Int}(hx:Box4 k p x0 x1 x2 x3 K) (hy:Box4 k p' y0 y1 y2 y3 K) (hK:K≤268435456) (C:∀k' ds,Up k k'→IntV k' ds (x2*y0) (2*K)→R k' (.agg ds)) :
 Cl k 80 #[.int .i64 2,.int .i64 0,.pointer (some ⟨p,0,none⟩),.pointer (some ⟨p',0,none⟩)] R:=by
 have e2:2*K=K+K:=oq
 rw [e2]at C;intro k0 u0;replace hx:=hx.up u0;replace hy:=hy.up u0;replace C:=fun k' ds u=>C k' ds (u0.trans u);obtain⟨c0,c1,c2,c3,hb,h0,h1,h2,h3⟩:=hx;obtain⟨d0,d1,d2,d3,hb',g0,g1,g2,g3⟩:=hy;refine aSr h0.seg h1.seg h2.seg h3.seg g0.seg g1.seg g2.seg g3.seg hb hb' ?_;refine cK h2 g0 oq oq ?_;intro k1 cA u1 a;refine⟨cA,a.seg,rfl,?_⟩;replace C:=fun k' ds u=>C k' ds (u1.trans u);intro k2 u2;replace a:=a.up u2;exact C _ _ u2 a
theorem aXm {p p':Nat}{x0 x1 x2 x3 y0 y1 y2 y3:Int}(hx:Box4 k p x0 x1 x2 x3 K) (hy:Box4 k p' y0 y1 y2 y3 K) (hK:K≤268435456) (C:∀k' ds,Up k k'→IntV k' ds (x2*y1) (2*K)→R k' (.agg ds)) :
 Cl k 80 #[.int .i64 2,.int .i64 1,.pointer (some ⟨p,0,none⟩),.pointer (some ⟨p',0,none⟩)] R:=by
 have e2:2*K=K+K:=oq
 rw [e2]at C;intro k0 u0;replace hx:=hx.up u0;replace hy:=hy.up u0;replace C:=fun k' ds u=>C k' ds (u0.trans u);obtain⟨c0,c1,c2,c3,hb,h0,h1,h2,h3⟩:=hx;obtain⟨d0,d1,d2,d3,hb',g0,g1,g2,g3⟩:=hy;refine aSs h0.seg h1.seg h2.seg h3.seg g0.seg g1.seg g2.seg g3.seg hb hb' ?_;refine cK h2 g1 oq oq ?_;intro k1 cA u1 a;refine⟨cA,a.seg,rfl,?_⟩;replace C:=fun k' ds u=>C k' ds (u1.trans u);intro k2 u2;replace a:=a.up u2;exact C _ _ u2 a
theorem aXn {p p':Nat}{x0 x1 x2 x3 y0 y1 y2 y3:Int}(hx:Box4 k p x0 x1 x2 x3 K) (hy:Box4 k p' y0 y1 y2 y3 K) (hK:K≤268435456) (C:∀k' ds,Up k k'→IntV k' ds (x2*y2) (2*K)→R k' (.agg ds)) :
 Cl k 80 #[.int .i64 2,.int .i64 2,.pointer (some ⟨p,0,none⟩),.pointer (some ⟨p',0,none⟩)] R:=by
 have e2:2*K=K+K:=oq
 rw [e2]at C;intro k0 u0;replace hx:=hx.up u0;replace hy:=hy.up u0;replace C:=fun k' ds u=>C k' ds (u0.trans u);obtain⟨c0,c1,c2,c3,hb,h0,h1,h2,h3⟩:=hx;obtain⟨d0,d1,d2,d3,hb',g0,g1,g2,g3⟩:=hy;refine aSt h0.seg h1.seg h2.seg h3.seg g0.seg g1.seg g2.seg g3.seg hb hb' ?_;refine cK h2 g2 oq oq ?_;intro k1 cA u1 a;refine⟨cA,a.seg,rfl,?_⟩;replace C:=fun k' ds u=>C k' ds (u1.trans u);intro k2 u2;replace a:=a.up u2;exact C _ _ u2 a
theorem aXo {p p':Nat}{x0 x1 x2 x3 y0 y1 y2 y3:Int}(hx:Box4 k p x0 x1 x2 x3 K) (hy:Box4 k p' y0 y1 y2 y3 K) (hK:K≤268435456) (C:∀k' ds,Up k k'→IntV k' ds (x2*y3) (2*K)→R k' (.agg ds)) :
 Cl k 80 #[.int .i64 2,.int .i64 3,.pointer (some ⟨p,0,none⟩),.pointer (some ⟨p',0,none⟩)] R:=by
 have e2:2*K=K+K:=oq
 rw [e2]at C;intro k0 u0;replace hx:=hx.up u0;replace hy:=hy.up u0;replace C:=fun k' ds u=>C k' ds (u0.trans u);obtain⟨c0,c1,c2,c3,hb,h0,h1,h2,h3⟩:=hx;obtain⟨d0,d1,d2,d3,hb',g0,g1,g2,g3⟩:=hy;refine aSu h0.seg h1.seg h2.seg h3.seg g0.seg g1.seg g2.seg g3.seg hb hb' ?_;refine cK h2 g3 oq oq ?_;intro k1 cA u1 a;refine⟨cA,a.seg,rfl,?_⟩;replace C:=fun k' ds u=>C k' ds (u1.trans u);intro k2 u2;replace a:=a.up u2;exact C _ _ u2 a
theorem aXp {p p':Nat}{x0 x1 x2 x3 y0 y1 y2 y3:Int}(hx:Box4 k p x0 x1 x2 x3 K) (hy:Box4 k p' y0 y1 y2 y3 K) (hK:K≤268435456) (C:∀k' ds,Up k k'→IntV k' ds (x3*y0) (2*K)→R k' (.agg ds)) :
 Cl k 80 #[.int .i64 3,.int .i64 0,.pointer (some ⟨p,0,none⟩),.pointer (some ⟨p',0,none⟩)] R:=by
 have e2:2*K=K+K:=oq
 rw [e2]at C;intro k0 u0;replace hx:=hx.up u0;replace hy:=hy.up u0;replace C:=fun k' ds u=>C k' ds (u0.trans u);obtain⟨c0,c1,c2,c3,hb,h0,h1,h2,h3⟩:=hx;obtain⟨d0,d1,d2,d3,hb',g0,g1,g2,g3⟩:=hy;refine aSv h0.seg h1.seg h2.seg h3.seg g0.seg g1.seg g2.seg g3.seg hb hb' ?_;refine cK h3 g0 oq oq ?_;intro k1 cA u1 a;refine⟨cA,a.seg,rfl,?_⟩;replace C:=fun k' ds u=>C k' ds (u1.trans u);intro k2 u2;replace a:=a.up u2;exact C _ _ u2 a
theorem aXq {p p':Nat}{x0 x1 x2 x3 y0 y1 y2 y3:Int}(hx:Box4 k p x0 x1 x2 x3 K) (hy:Box4 k p' y0 y1 y2 y3 K) (hK:K≤268435456) (C:∀k' ds,Up k k'→IntV k' ds (x3*y1) (2*K)→R k' (.agg ds)) :
 Cl k 80 #[.int .i64 3,.int .i64 1,.pointer (some ⟨p,0,none⟩),.pointer (some ⟨p',0,none⟩)] R:=by
 have e2:2*K=K+K:=oq
 rw [e2]at C;intro k0 u0;replace hx:=hx.up u0;replace hy:=hy.up u0;replace C:=fun k' ds u=>C k' ds (u0.trans u);obtain⟨c0,c1,c2,c3,hb,h0,h1,h2,h3⟩:=hx;obtain⟨d0,d1,d2,d3,hb',g0,g1,g2,g3⟩:=hy;refine aSw h0.seg h1.seg h2.seg h3.seg g0.seg g1.seg g2.seg g3.seg hb hb' ?_;refine cK h3 g1 oq oq ?_;intro k1 cA u1 a;refine⟨cA,a.seg,rfl,?_⟩;replace C:=fun k' ds u=>C k' ds (u1.trans u);intro k2 u2;replace a:=a.up u2;exact C _ _ u2 a
theorem aXr {p p':Nat}{x0 x1 x2 x3 y0 y1 y2 y3:Int}(hx:Box4 k p x0 x1 x2 x3 K) (hy:Box4 k p' y0 y1 y2 y3 K) (hK:K≤268435456) (C:∀k' ds,Up k k'→IntV k' ds (x3*y2) (2*K)→R k' (.agg ds)) :
 Cl k 80 #[.int .i64 3,.int .i64 2,.pointer (some ⟨p,0,none⟩),.pointer (some ⟨p',0,none⟩)] R:=by
 have e2:2*K=K+K:=oq
 rw [e2]at C;intro k0 u0;replace hx:=hx.up u0;replace hy:=hy.up u0;replace C:=fun k' ds u=>C k' ds (u0.trans u);obtain⟨c0,c1,c2,c3,hb,h0,h1,h2,h3⟩:=hx;obtain⟨d0,d1,d2,d3,hb',g0,g1,g2,g3⟩:=hy;refine aSx h0.seg h1.seg h2.seg h3.seg g0.seg g1.seg g2.seg g3.seg hb hb' ?_;refine cK h3 g2 oq oq ?_;intro k1 cA u1 a;refine⟨cA,a.seg,rfl,?_⟩;replace C:=fun k' ds u=>C k' ds (u1.trans u);intro k2 u2;replace a:=a.up u2;exact C _ _ u2 a
theorem aXs {p p':Nat}{x0 x1 x2 x3 y0 y1 y2 y3:Int}(hx:Box4 k p x0 x1 x2 x3 K) (hy:Box4 k p' y0 y1 y2 y3 K) (hK:K≤268435456) (C:∀k' ds,Up k k'→IntV k' ds (x3*y3) (2*K)→R k' (.agg ds)) :
 Cl k 80 #[.int .i64 3,.int .i64 3,.pointer (some ⟨p,0,none⟩),.pointer (some ⟨p',0,none⟩)] R:=by
 have e2:2*K=K+K:=oq
 rw [e2]at C;intro k0 u0;replace hx:=hx.up u0;replace hy:=hy.up u0;replace C:=fun k' ds u=>C k' ds (u0.trans u);obtain⟨c0,c1,c2,c3,hb,h0,h1,h2,h3⟩:=hx;obtain⟨d0,d1,d2,d3,hb',g0,g1,g2,g3⟩:=hy;refine aSy h0.seg h1.seg h2.seg h3.seg g0.seg g1.seg g2.seg g3.seg hb hb' ?_;refine cK h3 g3 oq oq ?_;intro k1 cA u1 a;refine⟨cA,a.seg,rfl,?_⟩;replace C:=fun k' ds u=>C k' ds (u1.trans u);intro k2 u2;replace a:=a.up u2;exact C _ _ u2 a
theorem dE {c0 c1 c2 c3 c0' c1' c2' c3':Array Value}{x0 x1 x2 x3 y0 y1 y2 y3:Int}(i0:IntV k c0 x0 K) (i1:IntV k c1 x1 K) (i2:IntV k c2 x2 K) (i3:IntV k c3 x3 K) (j0:IntV k c0' y0 K) (j1:IntV k c1' y1 K) (j2:IntV k c2' y2 K) (j3:IntV k c3' y3 K) (hK:K≤268435456)
 (C:∀k' d0 d1 d2 d3,Up k k'→IntV k' d0 (x0*y0+x1*y1*(2:Nat)+x2*y2*(3:Nat)+x3*y3*(6:Nat)) (2*K+4)→IntV k' d1 (x0*y1+x1*y0+(x2*y3+x3*y2)*(3:Nat)) (2*K+4)→IntV k' d2 (x0*y2+x2*y0+(x1*y3+x3*y1)*(2:Nat)) (2*K+4)→IntV k' d3 (x0*y3+x3*y0+x1*y2+x2*y1) (2*K+4)→R k' (.agg (d0.toList++(d1.toList++(d2.toList++(d3.toList++([]))))).toArray)) :
 Cl k 52 #[.agg (c0.toList++(c1.toList++(c2.toList++(c3.toList++([]))))).toArray,.agg (c0'.toList++(c1'.toList++(c2'.toList++(c3'.toList++([]))))).toArray] R:=by
 intro k0 u0;replace i0:=i0.up u0;replace i1:=i1.up u0;replace i2:=i2.up u0;replace i3:=i3.up u0;replace j0:=j0.up u0;replace j1:=j1.up u0;replace j2:=j2.up u0;replace j3:=j3.up u0;replace C:=fun k' d0 d1 d2 d3 u=>C k' d0 d1 d2 d3 (u0.trans u);refine aDl i0.seg i1.seg i2.seg i3.seg j0.seg j1.seg j2.seg j3.seg ?_;intro p kA uA hA;replace C:=fun k' d0 d1 d2 d3 u=>C k' d0 d1 d2 d3 (uA.trans u);have bx:Box4 kA p x0 x1 x2 x3 K:=⟨c0,c1,c2,c3,hA,i0.up uA,i1.up uA,i2.up uA,i3.up uA⟩;intro p' kB uB hB;replace C:=fun k' d0 d1 d2 d3 u=>C k' d0 d1 d2 d3 (uB.trans u);replace uA:=uA.trans uB;have bz:Box4 kB p' y0 y1 y2 y3 K:=⟨c0',c1',c2',c3',hB,j0.up uA,j1.up uA,j2.up uA,j3.up uA⟩;replace bx:=bx.up uB;clear hA hB i0 i1 i2 i3 j0 j1 j2 j3;refine aXd bx bz oq ?_;intro k1 ea1 u1 a1;refine⟨ea1,a1.seg,rfl,?_⟩;replace bx:=bx.up u1;replace bz:=bz.up u1;replace C:=fun k' d0 d1 d2 d3 u=>C k' d0 d1 d2 d3 (u1.trans u);refine aXi bx bz oq ?_;intro k2 ea2 u2 a2;refine⟨ea2,a2.seg,rfl,?_⟩;replace bx:=bx.up u2;replace bz:=bz.up u2;replace a1:=a1.up u2;replace C:=fun k' d0 d1 d2 d3 u=>C k' d0 d1 d2 d3 (u2.trans u);refine tE (m:=2) a2 oq oq ?_;intro k3 ea3 u3 a3;refine⟨ea3,a3.seg,rfl,?_⟩;replace bx:=bx.up u3;replace bz:=bz.up u3;replace a1:=a1.up u3;replace C:=fun k' d0 d1 d2 d3 u=>C k' d0 d1 d2 d3 (u3.trans u);refine dC a1 a3 (M:=2*K+1) oq oq oq ?_;intro k4 ea4 u4 a4;refine⟨ea4,a4.seg,rfl,?_⟩;replace bx:=bx.up u4;replace bz:=bz.up u4;replace C:=fun k' d0 d1 d2 d3 u=>C k' d0 d1 d2 d3 (u4.trans u);refine aXn bx bz oq ?_;intro k5 ea5 u5 a5;refine⟨ea5,a5.seg,rfl,?_⟩;replace bx:=bx.up u5;replace bz:=bz.up u5;replace a4:=a4.up u5;replace C:=fun k' d0 d1 d2 d3 u=>C k' d0 d1 d2 d3 (u5.trans u);refine tE (m:=3) a5 oq oq ?_;intro k6 ea6 u6 a6;refine⟨ea6,a6.seg,rfl,?_⟩;replace bx:=bx.up u6;replace bz:=bz.up u6;replace a4:=a4.up u6;replace C:=fun k' d0 d1 d2 d3 u=>C k' d0 d1 d2 d3 (u6.trans u);refine dC a4 a6 (M:=2*K+2) oq oq oq ?_;intro k7 ea7 u7 a7;refine⟨ea7,a7.seg,rfl,?_⟩;replace bx:=bx.up u7;replace bz:=bz.up u7;replace C:=fun k' d0 d1 d2 d3 u=>C k' d0 d1 d2 d3 (u7.trans u);refine aXs bx bz oq ?_;intro k8 ea8 u8 a8;refine⟨ea8,a8.seg,rfl,?_⟩;replace bx:=bx.up u8;replace bz:=bz.up u8;replace a7:=a7.up u8;replace C:=fun k' d0 d1 d2 d3 u=>C k' d0 d1 d2 d3 (u8.trans u);refine tE (m:=6) a8 oq oq ?_;intro k9 ea9 u9 a9;refine⟨ea9,a9.seg,rfl,?_⟩;replace bx:=bx.up u9;replace bz:=bz.up u9;replace a7:=a7.up u9;replace C:=fun k' d0 d1 d2 d3 u=>C k' d0 d1 d2 d3 (u9.trans u);refine dC a7 a9 (M:=2*K+3) oq oq oq ?_;intro k10 ea10 u10 a10;refine⟨ea10,a10.seg,rfl,?_⟩;replace bx:=bx.up u10;replace bz:=bz.up u10;replace C:=fun k' d0 d1 d2 d3 u=>C k' d0 d1 d2 d3 (u10.trans u);refine aXe bx bz oq ?_;intro k11 ea11 u11 a11;refine⟨ea11,a11.seg,rfl,?_⟩;replace bx:=bx.up u11;replace bz:=bz.up u11;replace a10:=a10.up u11
 replace C:=fun k' d0 d1 d2 d3 u=>C k' d0 d1 d2 d3 (u11.trans u);refine aXh bx bz oq ?_;intro k12 ea12 u12 a12;refine⟨ea12,a12.seg,rfl,?_⟩;replace bx:=bx.up u12;replace bz:=bz.up u12;replace a10:=a10.up u12;replace a11:=a11.up u12;replace C:=fun k' d0 d1 d2 d3 u=>C k' d0 d1 d2 d3 (u12.trans u);refine dC a11 a12 (M:=2*K+0) oq oq oq ?_;intro k13 ea13 u13 a13;refine⟨ea13,a13.seg,rfl,?_⟩;replace bx:=bx.up u13;replace bz:=bz.up u13;replace a10:=a10.up u13;replace C:=fun k' d0 d1 d2 d3 u=>C k' d0 d1 d2 d3 (u13.trans u);refine aXo bx bz oq ?_;intro k14 ea14 u14 a14;refine⟨ea14,a14.seg,rfl,?_⟩;replace bx:=bx.up u14;replace bz:=bz.up u14;replace a10:=a10.up u14;replace a13:=a13.up u14;replace C:=fun k' d0 d1 d2 d3 u=>C k' d0 d1 d2 d3 (u14.trans u);refine aXr bx bz oq ?_;intro k15 ea15 u15 a15;refine⟨ea15,a15.seg,rfl,?_⟩;replace bx:=bx.up u15;replace bz:=bz.up u15;replace a10:=a10.up u15;replace a13:=a13.up u15;replace a14:=a14.up u15;replace C:=fun k' d0 d1 d2 d3 u=>C k' d0 d1 d2 d3 (u15.trans u);refine dC a14 a15 (M:=2*K+0) oq oq oq ?_;intro k16 ea16 u16 a16;refine⟨ea16,a16.seg,rfl,?_⟩;replace bx:=bx.up u16;replace bz:=bz.up u16;replace a10:=a10.up u16;replace a13:=a13.up u16;replace C:=fun k' d0 d1 d2 d3 u=>C k' d0 d1 d2 d3 (u16.trans u);refine tE (m:=3) a16 oq oq ?_;intro k17 ea17 u17 a17;refine⟨ea17,a17.seg,rfl,?_⟩;replace bx:=bx.up u17;replace bz:=bz.up u17;replace a10:=a10.up u17;replace a13:=a13.up u17;replace C:=fun k' d0 d1 d2 d3 u=>C k' d0 d1 d2 d3 (u17.trans u);refine dC a13 a17 (M:=2*K+2) oq oq oq ?_;intro k18 ea18 u18 a18;refine⟨ea18,a18.seg,rfl,?_⟩;replace bx:=bx.up u18;replace bz:=bz.up u18;replace a10:=a10.up u18;replace C:=fun k' d0 d1 d2 d3 u=>C k' d0 d1 d2 d3 (u18.trans u);refine aXf bx bz oq ?_;intro k19 ea19 u19 a19;refine⟨ea19,a19.seg,rfl,?_⟩;replace bx:=bx.up u19;replace bz:=bz.up u19;replace a10:=a10.up u19;replace a18:=a18.up u19;replace C:=fun k' d0 d1 d2 d3 u=>C k' d0 d1 d2 d3 (u19.trans u);refine aXl bx bz oq ?_;intro k20 ea20 u20 a20;refine⟨ea20,a20.seg,rfl,?_⟩;replace bx:=bx.up u20;replace bz:=bz.up u20;replace a10:=a10.up u20;replace a18:=a18.up u20;replace a19:=a19.up u20;replace C:=fun k' d0 d1 d2 d3 u=>C k' d0 d1 d2 d3 (u20.trans u);refine dC a19 a20 (M:=2*K+0) oq oq oq ?_;intro k21 ea21 u21 a21;refine⟨ea21,a21.seg,rfl,?_⟩;replace bx:=bx.up u21;replace bz:=bz.up u21;replace a10:=a10.up u21;replace a18:=a18.up u21;replace C:=fun k' d0 d1 d2 d3 u=>C k' d0 d1 d2 d3 (u21.trans u);refine aXk bx bz oq ?_;intro k22 ea22 u22 a22;refine⟨ea22,a22.seg,rfl,?_⟩;replace bx:=bx.up u22;replace bz:=bz.up u22;replace a10:=a10.up u22;replace a18:=a18.up u22;replace a21:=a21.up u22;replace C:=fun k' d0 d1 d2 d3 u=>C k' d0 d1 d2 d3 (u22.trans u);refine aXq bx bz oq ?_;intro k23 ea23 u23 a23;refine⟨ea23,a23.seg,rfl,?_⟩;replace bx:=bx.up u23
 replace bz:=bz.up u23;replace a10:=a10.up u23;replace a18:=a18.up u23;replace a21:=a21.up u23;replace a22:=a22.up u23;replace C:=fun k' d0 d1 d2 d3 u=>C k' d0 d1 d2 d3 (u23.trans u);refine dC a22 a23 (M:=2*K+0) oq oq oq ?_;intro k24 ea24 u24 a24;refine⟨ea24,a24.seg,rfl,?_⟩;replace bx:=bx.up u24;replace bz:=bz.up u24;replace a10:=a10.up u24;replace a18:=a18.up u24;replace a21:=a21.up u24;replace C:=fun k' d0 d1 d2 d3 u=>C k' d0 d1 d2 d3 (u24.trans u);refine tE (m:=2) a24 oq oq ?_;intro k25 ea25 u25 a25;refine⟨ea25,a25.seg,rfl,?_⟩;replace bx:=bx.up u25;replace bz:=bz.up u25;replace a10:=a10.up u25;replace a18:=a18.up u25;replace a21:=a21.up u25;replace C:=fun k' d0 d1 d2 d3 u=>C k' d0 d1 d2 d3 (u25.trans u);refine dC a21 a25 (M:=2*K+2) oq oq oq ?_;intro k26 ea26 u26 a26;refine⟨ea26,a26.seg,rfl,?_⟩;replace bx:=bx.up u26;replace bz:=bz.up u26;replace a10:=a10.up u26;replace a18:=a18.up u26;replace C:=fun k' d0 d1 d2 d3 u=>C k' d0 d1 d2 d3 (u26.trans u);refine aXg bx bz oq ?_;intro k27 ea27 u27 a27;refine⟨ea27,a27.seg,rfl,?_⟩;replace bx:=bx.up u27;replace bz:=bz.up u27;replace a10:=a10.up u27;replace a18:=a18.up u27;replace a26:=a26.up u27;replace C:=fun k' d0 d1 d2 d3 u=>C k' d0 d1 d2 d3 (u27.trans u);refine aXp bx bz oq ?_;intro k28 ea28 u28 a28;refine⟨ea28,a28.seg,rfl,?_⟩;replace bx:=bx.up u28;replace bz:=bz.up u28;replace a10:=a10.up u28;replace a18:=a18.up u28;replace a26:=a26.up u28;replace a27:=a27.up u28;replace C:=fun k' d0 d1 d2 d3 u=>C k' d0 d1 d2 d3 (u28.trans u);refine dC a27 a28 (M:=2*K+0) oq oq oq ?_;intro k29 ea29 u29 a29;refine⟨ea29,a29.seg,rfl,?_⟩;replace bx:=bx.up u29;replace bz:=bz.up u29;replace a10:=a10.up u29;replace a18:=a18.up u29;replace a26:=a26.up u29;replace C:=fun k' d0 d1 d2 d3 u=>C k' d0 d1 d2 d3 (u29.trans u);refine aXj bx bz oq ?_;intro k30 ea30 u30 a30;refine⟨ea30,a30.seg,rfl,?_⟩;replace bx:=bx.up u30;replace bz:=bz.up u30;replace a10:=a10.up u30;replace a18:=a18.up u30;replace a26:=a26.up u30;replace a29:=a29.up u30;replace C:=fun k' d0 d1 d2 d3 u=>C k' d0 d1 d2 d3 (u30.trans u);refine dC a29 a30 (M:=2*K+1) oq oq oq ?_;intro k31 ea31 u31 a31;refine⟨ea31,a31.seg,rfl,?_⟩;replace bx:=bx.up u31;replace bz:=bz.up u31;replace a10:=a10.up u31;replace a18:=a18.up u31;replace a26:=a26.up u31;replace C:=fun k' d0 d1 d2 d3 u=>C k' d0 d1 d2 d3 (u31.trans u);refine aXm bx bz oq ?_;intro k32 ea32 u32 a32;refine⟨ea32,a32.seg,rfl,?_⟩;replace a10:=a10.up u32;replace a18:=a18.up u32;replace a26:=a26.up u32;replace a31:=a31.up u32;replace C:=fun k' d0 d1 d2 d3 u=>C k' d0 d1 d2 d3 (u32.trans u);refine dC a31 a32 (M:=2*K+2) oq oq oq ?_;intro k33 ea33 u33 a33;refine⟨ea33,a33.seg,rfl,?_⟩;replace a10:=a10.up u33;replace a18:=a18.up u33;replace a26:=a26.up u33;replace C:=fun k' d0 d1 d2 d3 u=>C k' d0 d1 d2 d3 (u33.trans u);intro k34 u34
 replace a10:=a10.up u34;replace a18:=a18.up u34;replace a26:=a26.up u34;replace a33:=a33.up u34;exact C _ _ _ _ _ u34 (a10.mono oq) (a18.mono oq) (a26.mono oq) (a33.mono oq)
theorem aFn (x0 x1 x2 x3 y0 y1 y2 y3:Int) {m n:Nat}(hm:0<m) (hn:0<n):mkQ (x0*y0+x1*y1*(2:Nat)+x2*y2*(3:Nat)+x3*y3*(6:Nat)) (x0*y1+x1*y0+(x2*y3+x3*y2)*(3:Nat)) (x0*y2+x2*y0+(x1*y3+x3*y1)*(2:Nat)) (x0*y3+x3*y0+x1*y2+x2*y1) (m*n)=(mkQ x0 x1 x2 x3 m).mul (mkQ y0 y1 y2 y3 n):=by
 have h:=zg hm hn;unfold mkQ Q4.mul;simp only [aIg _ _ h,qI _ _ h,aCy];rfl
theorem mN (hx:SurdV k cs v K) (hy:SurdV k cs' v' K) (hK1:1≤K) (hK:K≤268435456) (C:∀k' ds,Up k k'→SurdV k' ds (v.mul v') (2*K+4)→R k' (.agg ds)) :
 Cl k 25 #[.agg cs,.agg cs'] R:=by
 obtain⟨c0,c1,c2,c3,D,d,e,x0,x1,x2,x3,m,rfl,hm,hg,rfl,i0,i1,i2,i3,lx,hd⟩:=hx;obtain⟨c0',c1',c2',c3',D',d',e',y0,y1,y2,y3,n,rfl,hn,hg',rfl,j0,j1,j2,j3,ly,hd'⟩:=hy;intro k0 u0;replace i0:=i0.up u0;replace i1:=i1.up u0;replace i2:=i2.up u0;replace i3:=i3.up u0;replace lx:=lx.up u0;replace j0:=j0.up u0;replace j1:=j1.up u0;replace j2:=j2.up u0;replace j3:=j3.up u0;replace ly:=ly.up u0;replace C:=fun k' ds u=>C k' ds (u0.trans u);refine aSf i0.seg i1.seg i2.seg i3.seg j0.seg j1.seg j2.seg j3.seg ?_;refine dE i0 i1 i2 i3 j0 j1 j2 j3 oq ?_;intro k1 d0 d1 d2 d3 u1 z0 z1 z2 z3;refine⟨d0,z0.seg,d1,z1.seg,d2,z2.seg,d3,z3.seg,rfl,?_⟩;replace lx:=lx.up u1;replace ly:=ly.up u1;replace C:=fun k' ds u=>C k' ds (u1.trans u);refine bR lx hm (L:=K) hd hK1 oq ?_;intro k2 D1 q1 e1 u2 lx' hd1;refine⟨D1,q1,e1,rfl,?_⟩;replace ly:=ly.up u2;replace z0:=z0.up u2;replace z1:=z1.up u2;replace z2:=z2.up u2;replace z3:=z3.up u2;replace C:=fun k' ds u=>C k' ds (u2.trans u);refine bR ly hn (L:=K) hd' hK1 oq ?_;intro k3 D2 q2 e2 u3 ly' hd2;refine⟨D2,q2,e2,rfl,?_⟩;replace z0:=z0.up u3;replace z1:=z1.up u3;replace z2:=z2.up u3;replace z3:=z3.up u3;replace lx':=lx'.up u3;replace C:=fun k' ds u=>C k' ds (u3.trans u);refine sF lx' ly' oq oq ?_;intro k4 D3 q3 e3 u4 lm hd3;refine⟨D3,q3,e3,rfl,?_⟩;replace z0:=z0.up u4;replace z1:=z1.up u4;replace z2:=z2.up u4;replace z3:=z3.up u4;replace C:=fun k' ds u=>C k' ds (u4.trans u);refine aEl z0 z1 z2 z3 lm (zg hm hn) oq oq ?_;intro k17 ds u17 hs;obtain⟨c0,c1,c2,c3,D,d,e,hcs,h9⟩:=hs.cells;refine⟨c0,h9.1,c1,h9.2.1,c2,h9.2.2.1,c3,h9.2.2.2,D,d,e,by rw [hcs];rfl,?_⟩;intro k18 u18;have:=C k18 ds (u17.trans u18) (by rw [←aFn x0 x1 x2 x3 y0 y1 y2 y3 hm hn];exact hs.up u18);rw [hcs]at this;exact this
theorem RatV.intV {q:Rat}(h:RatV k cs q K):∃c0 A n c,cs=(c0.toList++((.slice A n c) :: [])).toArray∧IntV k c0 q.num K∧LimR k A n c (if q.den=1 then 0 else q.den)∧n≤K:=by
 obtain⟨g,A,n,c,D,d,e,rfl,h,h1,h2⟩:=h;exact⟨#[.bool g,.slice A n c],D,d,e,rfl,⟨g,A,n,c,rfl,h.num,h1⟩,h.den,h2⟩
theorem aMl (q:Rat):gcd5 q.den q.num.natAbs 0 0 0=1:=by
 unfold gcd5;simp only [wg];rw [xp];exact q.reduced
theorem aNd (q:Rat):Q4.real q=mkQ q.num 0 0 0 q.den:=by
 unfold mkQ Q4.real;simp [Rat.mkRat_self]
theorem IntV.nil:IntV k #[.bool false,.slice none 0 0] 0 K:=⟨false,none,0,0,rfl,⟨rfl,LimR.nil⟩,jx _⟩
theorem uV {q:Rat}(hx:SurdV k cs v L) (hy:RatV k cs' q K) (C:∀k' ds,Up k k'→SurdV k' ds (Q4.real q) K→R k' (.agg ds)) :
 Cl k 7 #[.agg cs,.agg cs'] R:=by
 intro k0 u0;obtain⟨c0,c1,c2,c3,D,d,e,rfl,s0,s1,s2,s3⟩:=hx.cells;obtain⟨d0,A,n,c,rfl,iq,lq,hn⟩:=hy.intV;refine aWv s0 s1 s2 s3 iq.seg ?_;intro k1 u1;have u:=u0.trans u1;refine C k1 _ u ⟨d0,_,_,_,A,n,c,q.num,0,0,0,q.den,rfl,q.den_pos,aMl q,aNd q,iq.up u,IntV.nil,IntV.nil,IntV.nil,lq.up u,hn⟩
theorem aSc (hx:SurdV k cs v K) (hK1:1≤K) (hK:K≤268435456) (C:∀k' d0 d1 d2 d3,Up k k'→RatV k' d0 v.a K→RatV k' d1 v.b K→RatV k' d2 v.c K→RatV k' d3 v.d K→R k' (.agg (d0.toList++(d1.toList++(d2.toList++(d3.toList++([]))))).toArray)) :
 Cl k 30 #[.agg cs] R:=by
 obtain⟨c0,c1,c2,c3,D,d,e,x0,x1,x2,x3,m,rfl,hm,hg,rfl,i0,i1,i2,i3,lx,hd⟩:=hx;intro k0 u0;replace i0:=i0.up u0;replace i1:=i1.up u0;replace i2:=i2.up u0;replace i3:=i3.up u0;replace lx:=lx.up u0;replace C:=fun k' d0 d1 d2 d3 u=>C k' d0 d1 d2 d3 (u0.trans u);refine aLd i0.seg i1.seg i2.seg i3.seg ?_;refine bR lx hm (L:=K) hd hK1 oq ?_;intro k1 D0 q0 e0 u1 l0 w0;refine⟨D0,q0,e0,rfl,?_⟩;replace i0:=i0.up u1;replace i1:=i1.up u1;replace i2:=i2.up u1;replace i3:=i3.up u1;replace lx:=lx.up u1;replace C:=fun k' d0 d1 d2 d3 u=>C k' d0 d1 d2 d3 (u1.trans u);refine xS i0 l0 hm oq w0 ?_;intro k2 cA0 u2 r0;refine⟨cA0,r0.seg,rfl,?_⟩;replace i1:=i1.up u2;replace i2:=i2.up u2;replace i3:=i3.up u2;replace lx:=lx.up u2;replace C:=fun k' d0 d1 d2 d3 u=>C k' d0 d1 d2 d3 (u2.trans u);refine bR lx hm (L:=K) hd hK1 oq ?_;intro k3 D1 q1 e1 u3 l1 w1;refine⟨D1,q1,e1,rfl,?_⟩;replace i1:=i1.up u3;replace i2:=i2.up u3;replace i3:=i3.up u3;replace lx:=lx.up u3;replace r0:=r0.up u3;replace C:=fun k' d0 d1 d2 d3 u=>C k' d0 d1 d2 d3 (u3.trans u);refine xS i1 l1 hm oq w1 ?_;intro k4 cA1 u4 r1;refine⟨cA1,r1.seg,rfl,?_⟩;replace i2:=i2.up u4;replace i3:=i3.up u4;replace lx:=lx.up u4;replace r0:=r0.up u4;replace C:=fun k' d0 d1 d2 d3 u=>C k' d0 d1 d2 d3 (u4.trans u);refine bR lx hm (L:=K) hd hK1 oq ?_;intro k5 D2 q2 e2 u5 l2 w2;refine⟨D2,q2,e2,rfl,?_⟩;replace i2:=i2.up u5;replace i3:=i3.up u5;replace lx:=lx.up u5;replace r0:=r0.up u5;replace r1:=r1.up u5;replace C:=fun k' d0 d1 d2 d3 u=>C k' d0 d1 d2 d3 (u5.trans u);refine xS i2 l2 hm oq w2 ?_;intro k6 cA2 u6 r2;refine⟨cA2,r2.seg,rfl,?_⟩;replace i3:=i3.up u6;replace lx:=lx.up u6;replace r0:=r0.up u6;replace r1:=r1.up u6;replace C:=fun k' d0 d1 d2 d3 u=>C k' d0 d1 d2 d3 (u6.trans u);refine bR lx hm (L:=K) hd hK1 oq ?_;intro k7 D3 q3 e3 u7 l3 w3;refine⟨D3,q3,e3,rfl,?_⟩;replace i3:=i3.up u7;replace r0:=r0.up u7;replace r1:=r1.up u7;replace r2:=r2.up u7;replace C:=fun k' d0 d1 d2 d3 u=>C k' d0 d1 d2 d3 (u7.trans u);refine xS i3 l3 hm oq w3 ?_;intro k8 cA3 u8 r3;refine⟨cA3,r3.seg,rfl,?_⟩;replace r0:=r0.up u8;replace r1:=r1.up u8;replace r2:=r2.up u8;replace C:=fun k' d0 d1 d2 d3 u=>C k' d0 d1 d2 d3 (u8.trans u);intro k9 u9;replace r0:=r0.up u9;replace r1:=r1.up u9;replace r2:=r2.up u9;replace r3:=r3.up u9;exact C _ _ _ _ _ u9 r0 r1 r2 r3
end
end Go.Proofs.YthiaclljcnincaaGreat

namespace Go.Proofs.YthiaclljcnincaaGreat.Plain
def aRj (s t q:Int):Int:=if s=t then s else if t=0 then s else if s=0 then t else s*q
structure Q2 where
 re:Rat
 im:Rat
theorem Q2.ext' {x y:Q2}(h1:x.re=y.re) (h2:x.im=y.im):x=y:=by cases x;cases y;simp_all
instance:Add Q2:=⟨fun x y=>⟨x.re+y.re,x.im+y.im⟩⟩
instance:Mul Q2:=⟨fun x y=>⟨x.re*y.re+2*(x.im*y.im),x.re*y.im+x.im*y.re⟩⟩
instance:Neg Q2:=⟨fun x=>⟨-x.re,-x.im⟩⟩
instance:Sub Q2:=⟨fun x y=>⟨x.re-y.re,x.im-y.im⟩⟩
instance:OfNat Q2 0:=⟨⟨0,0⟩⟩
theorem Q2.zero_re:(0:Q2).re=0:=rfl
theorem Q2.zero_im:(0:Q2).im=0:=rfl
instance:OfNat Q2 1:=⟨⟨1,0⟩⟩
theorem Q2.one_re:(1:Q2).re=1:=rfl
theorem Q2.one_im:(1:Q2).im=0:=rfl
instance:OfNat Q2 2:=⟨⟨2,0⟩⟩
instance:OfNat Q2 3:=⟨⟨3,0⟩⟩
theorem Q2.three_re:(3:Q2).re=3:=rfl
theorem Q2.three_im:(3:Q2).im=0:=rfl
theorem Q2.add_re (x y:Q2):(x+y).re=x.re+y.re:=rfl
theorem Q2.add_im (x y:Q2):(x+y).im=x.im+y.im:=rfl
theorem Q2.neg_re (x:Q2):(-x).re=-x.re:=rfl
theorem Q2.neg_im (x:Q2):(-x).im=-x.im:=rfl
theorem Q2.sub_re (x y:Q2):(x-y).re=x.re-y.re:=rfl
theorem Q2.sub_im (x y:Q2):(x-y).im=x.im-y.im:=rfl
theorem Q2.mul_re (x y:Q2):(x*y).re=x.re*y.re+2*(x.im*y.im):=rfl
theorem Q2.mul_im (x y:Q2):(x*y).im=x.re*y.im+x.im*y.re:=rfl
structure Q23 where
 re:Q2
 im:Q2
theorem Q23.ext' {x y:Q23}(h1:x.re=y.re) (h2:x.im=y.im):x=y:=by cases x;cases y;simp_all
instance:Add Q23:=⟨fun x y=>⟨x.re+y.re,x.im+y.im⟩⟩
instance:Mul Q23:=⟨fun x y=>⟨x.re*y.re+3*(x.im*y.im),x.re*y.im+x.im*y.re⟩⟩
instance:Neg Q23:=⟨fun x=>⟨-x.re,-x.im⟩⟩
instance:Sub Q23:=⟨fun x y=>⟨x.re-y.re,x.im-y.im⟩⟩
instance:OfNat Q23 0:=⟨⟨0,0⟩⟩
theorem Q23.zero_re:(0:Q23).re=0:=rfl
theorem Q23.zero_im:(0:Q23).im=0:=rfl
instance:OfNat Q23 1:=⟨⟨1,0⟩⟩
theorem Q23.one_re:(1:Q23).re=1:=rfl
theorem Q23.one_im:(1:Q23).im=0:=rfl
theorem Q23.add_re (x y:Q23):(x+y).re=x.re+y.re:=rfl
theorem Q23.add_im (x y:Q23):(x+y).im=x.im+y.im:=rfl
theorem Q23.neg_re (x:Q23):(-x).re=-x.re:=rfl
theorem Q23.neg_im (x:Q23):(-x).im=-x.im:=rfl
theorem Q23.sub_re (x y:Q23):(x-y).re=x.re-y.re:=rfl
theorem Q23.sub_im (x y:Q23):(x-y).im=x.im-y.im:=rfl
theorem Q23.mul_re (x y:Q23):(x*y).re=x.re*y.re+3*(x.im*y.im):=rfl
theorem Q23.mul_im (x y:Q23):(x*y).im=x.re*y.im+x.im*y.re:=rfl
namespace A
def pos (x:Rat):Prop:=0<x
theorem one_ne:(1:Rat)≠0:=oz
theorem inv (x:Rat) (h:x≠0):∃y,x*y=1:=⟨x⁻¹,Rat.mul_inv_cancel x h⟩
theorem tri (x:Rat):x=0∨pos x∨pos (-x):=by unfold pos;grind
theorem zero:¬ pos (0:Rat):=by unfold pos;decide
theorem add {x y:Rat}(h:pos x) (h':pos y):pos (x+y):=by unfold pos at *;grind
theorem mul {x y:Rat}(h:pos x) (h':pos y):pos (x*y):=Rat.mul_pos h h'
theorem eG {x:Rat}(h:pos x):¬ pos (-x):=fun h'=>zero (by have:=add h h';rwa [show x+-x=0 by grind]at this)
theorem eM {x:Rat}(h:x≠0):pos (x*x):=by
 rcases tri x with h1|h1|h1
 ·exact absurd h1 h
 ·exact mul h1 h1
 ·have:=mul h1 h1
  rwa [show -x*-x=x*x by grind]at this
theorem oK:pos (1:Rat):=by
 have:=eM (x:=1) one_ne
 rwa [show (1:Rat)*1=1 by grind]at this
theorem sub_eq {a b:Rat}(h:a-b=0):a=b:=by
 have e:a=(a-b)+b:=by grind
 rw [e,h];grind
theorem fU {a b:Rat}(ha:pos a) (h:pos (a*a-b*b)):pos (a+b):=by
 rcases tri (a+b) with h1|h1|h1
 ·exfalso;rw [show a*a-b*b=(a+b)*(a-b) by grind,h1,show (0:Rat)*(a-b)=0 by grind]at h;exact zero h
 ·exact h1
 ·exfalso;have h2:pos (a-b):=by
   have:=add (add ha ha) h1
   rwa [show a+a+-(a+b)=a-b by grind]at this
  have:=mul h1 h2;rw [show -(a+b)*(a-b)=-(a*a-b*b) by grind]at this;exact eG h this
theorem nC {a b:Rat}(ha:pos a) (h:pos (a*b)):pos b:=by
 rcases tri b with h1|h1|h1
 ·exfalso;rw [h1,show a*(0:Rat)=0 by grind]at h;exact zero h
 ·exact h1
 ·exfalso;have:=mul ha h1;rw [show a*-b=-(a*b) by grind]at this;exact eG h this
theorem gN {a b:Rat}(ha:a≠0) (hb:b≠0):a*b≠0:=by
 obtain⟨y,hy⟩:=inv a ha;intro h;apply hb;have e:b=1*b:=by grind
 rw [e,←hy,show a*y*b=(a*b)*y by grind,h];grind
open Classical in
noncomputable def sg (x:Rat):Int:=if pos x then 1 else if pos (-x) then -1 else 0
end A
theorem qK (u:Rat):u*(u.den:Rat)=(u.num:Rat):=by
 have e:=Rat.mkRat_self u;rw [Rat.mkRat_eq_div]at e;have hd:(u.den:Rat)≠0:=by
  intro h;have:((u.den:Nat):Rat)=((0:Nat):Rat):=h;have:=Rat.natCast_inj.1 this;have:=u.den_pos;omega
 calc u*(u.den:Rat)=((u.num:Rat) / (u.den:Rat))*(u.den:Rat):=by rw [e]
  _=(u.num:Rat):=Rat.div_mul_cancel hd
theorem sq2:∀(n:Nat) (x y:Int),y.natAbs≤n→x*x=2*(y*y)→y=0
 | 0,x,y,h,_=>by omega
 | n+1,x,y,h,e=>by
  have hx:∃a,x=2*a:=by
   rcases Int.emod_two_eq x with h1|h1
   ·exact⟨x/2,oq⟩
   ·exfalso;obtain⟨a,rfl⟩:∃a,x=2*a+1:=⟨x/2,oq⟩;have:(2*a+1)*(2*a+1)=4*(a*a)+4*a+1:=by grind
    omega
  obtain⟨a,rfl⟩:=hx;have hy:∃b,y=2*b:=by
   rcases Int.emod_two_eq y with h1|h1
   ·exact⟨y/2,oq⟩
   ·exfalso;obtain⟨b,rfl⟩:∃b,y=2*b+1:=⟨y/2,oq⟩;have e1:(2*a)*(2*a)=4*(a*a):=by grind
    have e2:(2*b+1)*(2*b+1)=4*(b*b)+4*b+1:=by grind
    omega
  obtain⟨b,rfl⟩:=hy
  by_cases hb:b=0
  ·omega
  ·have:=sq2 n a b oq (by
    have e1:(2*a)*(2*a)=4*(a*a):=by grind
    have e2:(2*b)*(2*b)=4*(b*b):=by grind
    omega)
   exact absurd this hb
theorem sq6:∀(n:Nat) (x y:Int),y.natAbs≤n→x*x=6*(y*y)→y=0
 | 0,x,y,h,_=>by omega
 | n+1,x,y,h,e=>by
  have hx:∃a,x=2*a:=by
   rcases Int.emod_two_eq x with h1|h1
   ·exact⟨x/2,oq⟩
   ·exfalso;obtain⟨a,rfl⟩:∃a,x=2*a+1:=⟨x/2,oq⟩;have:(2*a+1)*(2*a+1)=4*(a*a)+4*a+1:=by grind
    omega
  obtain⟨a,rfl⟩:=hx;have hy:∃b,y=2*b:=by
   rcases Int.emod_two_eq y with h1|h1
   ·exact⟨y/2,oq⟩
   ·exfalso;obtain⟨b,rfl⟩:∃b,y=2*b+1:=⟨y/2,oq⟩;have e1:(2*a)*(2*a)=4*(a*a):=by grind
    have e2:(2*b+1)*(2*b+1)=4*(b*b)+4*b+1:=by grind
    omega
  obtain⟨b,rfl⟩:=hy
  by_cases hb:b=0
  ·omega
  ·have:=sq6 n a b oq (by
    have e1:(2*a)*(2*a)=4*(a*a):=by grind
    have e2:(2*b)*(2*b)=4*(b*b):=by grind
    omega)
   exact absurd this hb
theorem third (x:Int):∃a,x=3*a∨x=3*a+1∨x=3*a+2:=⟨x/3,oq⟩
theorem sq3:∀(n:Nat) (x y:Int),y.natAbs≤n→x*x=3*(y*y)→y=0
 | 0,x,y,h,_=>by omega
 | n+1,x,y,h,e=>by
  have hx:∃a,x=3*a:=by
   obtain⟨a,rfl|rfl|rfl⟩:=third x
   ·exact⟨a,rfl⟩
   ·exfalso;have:(3*a+1)*(3*a+1)=9*(a*a)+6*a+1:=by grind
    omega
   ·exfalso;have:(3*a+2)*(3*a+2)=9*(a*a)+12*a+4:=by grind
    omega
  obtain⟨a,rfl⟩:=hx;have e1:(3*a)*(3*a)=9*(a*a):=by grind
  have hy:∃b,y=3*b:=by
   obtain⟨b,rfl|rfl|rfl⟩:=third y
   ·exact⟨b,rfl⟩
   ·exfalso;have:(3*b+1)*(3*b+1)=9*(b*b)+6*b+1:=by grind
    omega
   ·exfalso;have:(3*b+2)*(3*b+2)=9*(b*b)+12*b+4:=by grind
    omega
  obtain⟨b,rfl⟩:=hy
  by_cases hb:b=0
  ·omega
  ·have:=sq3 n a b oq (by
    have e2:(3*b)*(3*b)=9*(b*b):=by grind
    omega)
   exact absurd this hb
theorem aDr {n:Int}(hn:∀x y:Int,x*x=n*(y*y)→y=0) {u v:Rat}(h:u*u=(n:Rat)*(v*v)):v=0:=by
 have hu:u*u.den=u.num:=qK u;have hv:v*v.den=v.num:=qK v
 have key:=hn (u.num*v.den) (v.num*u.den) (by
  rw [←Rat.intCast_inj];simp only [yq,xc,←hu,←hv]
  grind)
 rcases Int.mul_eq_zero.1 key with h1|h1
 ·exact Rat.num_eq_zero.1 h1
 ·have:=u.den_pos;omega
namespace B
theorem hD:A.pos (2:Rat):=by show (0:Rat)<2;decide
theorem ns (u v:Rat) (h:u*u=2*(v*v)):v=0:=aDr (n:=2) (fun x y e=>sq2 _ x y (oy _) e) h
def NN (x:Q2):Rat:=x.re*x.re-2*(x.im*x.im)
theorem aLb (x y:Q2):NN (x*y)=NN x*NN y:=by
 show (x.re*y.re+2*(x.im*y.im))*(x.re*y.re+2*(x.im*y.im))-2*((x.re*y.im+x.im*y.re)*(x.re*y.im+x.im*y.re))=(x.re*x.re-2*(x.im*x.im))*(y.re*y.re-2*(y.im*y.im))
 grind
theorem aLc (x:Q2):NN (-x)=NN x:=by
 show -x.re*-x.re-2*(-x.im*-x.im)=x.re*x.re-2*(x.im*x.im)
 grind
theorem mM {x:Q2}(h:NN x=0):x=0:=by
 have h1:x.im=0:=ns x.re x.im (A.sub_eq h);have h2:x.re*x.re=0:=by
  have:=A.sub_eq h;rw [this,h1];grind
 have h3:x.re=0:=by
  by_cases h3:x.re=0
  ·exact h3
  ·exact absurd h2 (A.gN h3 h3)
 exact Q2.ext' h3 h1
def pos (x:Q2):Prop:=(A.pos (NN x)∧A.pos x.re)∨(A.pos (-NN x)∧A.pos x.im)
theorem tri (x:Q2):x=0∨pos x∨pos (-x):=by
 unfold pos;rw [aLc,Q2.neg_re,Q2.neg_im];rcases A.tri (NN x) with h|h|h
 ·exact .inl (mM h)
 ·rcases A.tri x.re with h1|h1|h1
  ·exfalso;unfold NN at h;rw [h1,show (0:Rat)*0-2*(x.im*x.im)=-(2*(x.im*x.im)) by grind]at h
   by_cases h2:x.im=0
   ·rw [h2,show -((2:Rat)*(0*0))=0 by grind]at h;exact A.zero h
   ·exact A.eG (A.mul hD (A.eM h2)) h
  ·exact .inr (.inl (.inl ⟨h,h1⟩))
  ·exact .inr (.inr (.inl ⟨h,h1⟩))
 ·rcases A.tri x.im with h1|h1|h1
  ·exfalso;unfold NN at h;rw [h1,show -(x.re*x.re-2*((0:Rat)*0))=-(x.re*x.re) by grind]at h
   by_cases h2:x.re=0
   ·rw [h2,show -((0:Rat)*0)=0 by grind]at h;exact A.zero h
   ·exact A.eG (A.eM h2) h
  ·exact .inr (.inl (.inr ⟨h,h1⟩))
  ·exact .inr (.inr (.inr ⟨h,h1⟩))
theorem mul {x y:Q2}(hx:pos x) (hy:pos y):pos (x*y):=by
 unfold pos;rw [aLb,Q2.mul_re,Q2.mul_im];unfold pos at hx hy;have mixed:∀ {x y:Q2},A.pos (NN x)→A.pos x.re→A.pos (-NN y)→A.pos y.im→A.pos (x.re*y.im+x.im*y.re):=by
  intro x y h1 h2 h3 h4;refine A.fU (A.mul h2 h4) ?_;refine A.nC hD ?_;have e:2*(x.re*y.im*(x.re*y.im)-x.im*y.re*(x.im*y.re))=x.re*x.re*(-NN y)+y.re*y.re*NN x:=by unfold NN;grind
  rw [e];have p1:=A.mul (A.mul h2 h2) h3
  by_cases h0:y.re=0
  ·rw [h0,show (0:Rat)*0*NN x=0 by grind,show x.re*x.re*-NN y+0=x.re*x.re*-NN y by grind];exact p1
  ·exact A.add p1 (A.mul (A.eM h0) h1)
 rcases hx with ⟨h1,h2⟩|⟨h1,h2⟩ <;> rcases hy with ⟨h3,h4⟩|⟨h3,h4⟩
 ·refine .inl ⟨A.mul h1 h3,A.fU (A.mul h2 h4) ?_⟩;have e:x.re*y.re*(x.re*y.re)-2*(x.im*y.im)*(2*(x.im*y.im))=x.re*x.re*NN y+2*(y.im*y.im)*NN x:=by unfold NN;grind
  rw [e];have p1:=A.mul (A.mul h2 h2) h3
  by_cases h0:y.im=0
  ·rw [h0,show 2*((0:Rat)*0)*NN x=0 by grind,show x.re*x.re*NN y+0=x.re*x.re*NN y by grind];exact p1
  ·exact A.add p1 (A.mul (A.mul hD (A.eM h0)) h1)
 ·refine .inr ⟨?_,mixed h1 h2 h3 h4⟩;have:=A.mul h1 h3
  rwa [show NN x*-NN y=-(NN x*NN y) by grind]at this
 ·refine .inr ⟨?_,?_⟩
  ·have:=A.mul h1 h3
   rwa [show -NN x*NN y=-(NN x*NN y) by grind]at this
  ·have:=mixed h3 h4 h1 h2
   rwa [show y.re*x.im+y.im*x.re=x.re*y.im+x.im*y.re by grind]at this
 ·refine .inl ⟨?_,?_⟩
  ·have:=A.mul h1 h3
   rwa [show -NN x*-NN y=NN x*NN y by grind]at this
  ·rw [show x.re*y.re+2*(x.im*y.im)=2*(x.im*y.im)+x.re*y.re by grind];refine A.fU (A.mul hD (A.mul h2 h4)) ?_;have e:2*(x.im*y.im)*(2*(x.im*y.im))-x.re*y.re*(x.re*y.re)=2*(x.im*x.im)*(-NN y)+y.re*y.re*(-NN x):=by unfold NN;grind
   rw [e];have p1:=A.mul (A.mul hD (A.mul h2 h2)) h3
   by_cases h0:y.re=0
   ·rw [h0,show (0:Rat)*0*(-NN x)=0 by grind,show 2*(x.im*x.im)*-NN y+0=2*(x.im*x.im)*-NN y by grind];exact p1
   ·exact A.add p1 (A.mul (A.eM h0) h1)
theorem zero:¬ pos (0:Q2):=by
 rintro (⟨_,h⟩|⟨_,h⟩)
 ·exact A.zero h
 ·exact A.zero h
theorem one_ne:(1:Q2)≠0:=fun h=>A.one_ne (congrArg Q2.re h)
theorem inv (x:Q2) (h:x≠0):∃y,x*y=1:=by
 have hN:NN x≠0:=fun e=>h (mM e);obtain⟨z,hz⟩:=A.inv (NN x) hN;refine⟨⟨x.re*z,-x.im*z⟩,Q2.ext' ?_ ?_⟩
 ·show x.re*(x.re*z)+2*(x.im*(-x.im*z))=1;rw [←hz];unfold NN;grind
 ·show x.re*(-x.im*z)+x.im*(x.re*z)=0
  grind
theorem tU {z:Q2}(h:pos z):pos (1+z):=by
 have hN:NN (1+z)=(1+z.re)*(1+z.re)-2*(z.im*z.im):=by
  show (1+z.re)*(1+z.re)-2*((0+z.im)*(0+z.im))=_
  grind
 have one:=A.oK;have hre:(1+z).re=1+z.re:=rfl;have him:(1+z).im=z.im:=by show 0+z.im=z.im;grind
 rcases h with ⟨h1,h2⟩|⟨h1,h2⟩
 ·refine .inl ⟨?_,by rw [hre];exact A.add one h2⟩;have:=A.add (A.add one (A.add h2 h2)) h1;rw [hN]
  rwa [show 1+(z.re+z.re)+NN z=(1+z.re)*(1+z.re)-2*(z.im*z.im) by unfold NN;grind]at this
 ·rcases A.tri (NN (1+z)) with h3|h3|h3
  ·exfalso;have e:=mM h3;have e2:z.im=0:=by have:=congrArg Q2.im e;rw [him]at this;exact this
   rw [e2]at h2;exact A.zero h2
  ·refine .inl ⟨h3,?_⟩;rw [hre];have key:(A.pos (-(1+z.re))∨1+z.re=0)→False:=by
    intro hh;have:A.pos (-NN (1+z)):=by
     rw [hN];have e:-((1+z.re)*(1+z.re)-2*(z.im*z.im))=-NN z+(-(1+z.re)+-(1+z.re)+1):=by unfold NN;grind
     rw [e];refine A.add h1 ?_;rcases hh with hh|hh
     ·exact A.add (A.add hh hh) one
     ·rw [hh,show -(0:Rat)+-0+1=1 by grind];exact one
    exact A.eG h3 this
   rcases A.tri (1+z.re) with h4|h4|h4
   ·exact (key (.inr h4)).elim
   ·exact h4
   ·exact (key (.inl h4)).elim
  ·exact .inr ⟨h3,by rw [him];exact h2⟩
theorem add {x y:Q2}(hx:pos x) (hy:pos y):pos (x+y):=by
 have hx0:x≠0:=fun e=>by rw [e]at hx;exact zero hx
 obtain⟨t,ht⟩:=inv x hx0;have hone:¬ pos (-(1:Q2)):=by
  rintro (⟨_,h⟩|⟨_,h⟩)
  ·exact A.eG A.oK h
  ·have h:A.pos (-(0:Rat)):=h;rw [show -(0:Rat)=0 by grind]at h;exact A.zero h
 have ht':pos t:=by
  rcases tri t with h|h|h
  ·exfalso;rw [h,show x*(0:Q2)=0 by (refine Q2.ext' ?_ ?_ <;> (simp only [Q2.mul_re,Q2.mul_im,Q2.zero_re,Q2.zero_im];grind))]at ht;exact one_ne ht.symm
  ·exact h
  ·exfalso;have:=mul hx h;rw [show x*-t=-(x*t) by (refine Q2.ext' ?_ ?_ <;> (simp only [Q2.mul_re,Q2.mul_im,Q2.neg_re,Q2.neg_im];grind)),ht]at this;exact hone this
 have:=mul hx (tU (mul ht' hy))
 rwa [show x*(1+t*y)=x+(x*t)*y by (refine Q2.ext' ?_ ?_ <;> (simp only [Q2.add_re,Q2.add_im,Q2.mul_re,Q2.mul_im,Q2.one_re,Q2.one_im];grind)),ht,show x+1*y=x+y by (refine Q2.ext' ?_ ?_ <;> (simp only [Q2.add_re,Q2.add_im,Q2.mul_re,Q2.mul_im,Q2.one_re,Q2.one_im];grind))]at this
theorem eG {x:Q2}(h:pos x):¬ pos (-x):=fun h'=>zero (by have:=add h h';rwa [show x+-x=0 by (refine Q2.ext' ?_ ?_ <;> (simp only [Q2.add_re,Q2.add_im,Q2.neg_re,Q2.neg_im,Q2.zero_re,Q2.zero_im];grind))]at this)
theorem eM {x:Q2}(h:x≠0):pos (x*x):=by
 rcases tri x with h1|h1|h1
 ·exact absurd h1 h
 ·exact mul h1 h1
 ·have:=mul h1 h1
  rwa [show -x*-x=x*x by (refine Q2.ext' ?_ ?_ <;> (simp only [Q2.mul_re,Q2.mul_im,Q2.neg_re,Q2.neg_im];grind))]at this
theorem oK:pos (1:Q2):=by
 have:=eM (x:=1) one_ne
 rwa [show (1:Q2)*1=1 by (refine Q2.ext' ?_ ?_ <;> (simp only [Q2.mul_re,Q2.mul_im,Q2.one_re,Q2.one_im];grind))]at this
theorem sub_eq {a b:Q2}(h:a-b=0):a=b:=by
 have e:a=(a-b)+b:=by (refine Q2.ext' ?_ ?_ <;> (simp only [Q2.add_re,Q2.add_im,Q2.sub_re,Q2.sub_im];grind))
 rw [e,h];(refine Q2.ext' ?_ ?_ <;> (simp only [Q2.add_re,Q2.add_im,Q2.zero_re,Q2.zero_im];grind))
theorem fU {a b:Q2}(ha:pos a) (h:pos (a*a-b*b)):pos (a+b):=by
 rcases tri (a+b) with h1|h1|h1
 ·exfalso;rw [show a*a-b*b=(a+b)*(a-b) by (refine Q2.ext' ?_ ?_ <;> (simp only [Q2.add_re,Q2.add_im,Q2.mul_re,Q2.mul_im,Q2.sub_re,Q2.sub_im];grind)),h1,show (0:Q2)*(a-b)=0 by (refine Q2.ext' ?_ ?_ <;> (simp only [Q2.mul_re,Q2.mul_im,Q2.sub_re,Q2.sub_im,Q2.zero_re,Q2.zero_im];grind))]at h;exact zero h
 ·exact h1
 ·exfalso;have h2:pos (a-b):=by
   have:=add (add ha ha) h1
   rwa [show a+a+-(a+b)=a-b by (refine Q2.ext' ?_ ?_ <;> (simp only [Q2.add_re,Q2.add_im,Q2.neg_re,Q2.neg_im,Q2.sub_re,Q2.sub_im];grind))]at this
  have:=mul h1 h2;rw [show -(a+b)*(a-b)=-(a*a-b*b) by (refine Q2.ext' ?_ ?_ <;> (simp only [Q2.add_re,Q2.add_im,Q2.mul_re,Q2.mul_im,Q2.neg_re,Q2.neg_im,Q2.sub_re,Q2.sub_im];grind))]at this;exact eG h this
theorem nC {a b:Q2}(ha:pos a) (h:pos (a*b)):pos b:=by
 rcases tri b with h1|h1|h1
 ·exfalso;rw [h1,show a*(0:Q2)=0 by (refine Q2.ext' ?_ ?_ <;> (simp only [Q2.mul_re,Q2.mul_im,Q2.zero_re,Q2.zero_im];grind))]at h;exact zero h
 ·exact h1
 ·exfalso;have:=mul ha h1;rw [show a*-b=-(a*b) by (refine Q2.ext' ?_ ?_ <;> (simp only [Q2.mul_re,Q2.mul_im,Q2.neg_re,Q2.neg_im];grind))]at this;exact eG h this
theorem gN {a b:Q2}(ha:a≠0) (hb:b≠0):a*b≠0:=by
 obtain⟨y,hy⟩:=inv a ha;intro h;apply hb;have e:b=1*b:=by (refine Q2.ext' ?_ ?_ <;> (simp only [Q2.mul_re,Q2.mul_im,Q2.one_re,Q2.one_im];grind))
 rw [e,←hy,show a*y*b=(a*b)*y by (refine Q2.ext' ?_ ?_ <;> (simp only [Q2.mul_re,Q2.mul_im];grind)),h];(refine Q2.ext' ?_ ?_ <;> (simp only [Q2.mul_re,Q2.mul_im,Q2.zero_re,Q2.zero_im];grind))
open Classical in
noncomputable def sg (x:Q2):Int:=if pos x then 1 else if pos (-x) then -1 else 0
end B
namespace C
theorem hD:B.pos (3:Q2):=.inl ⟨by show (0:Rat)<3*3-2*(0*0);grind,by show (0:Rat)<3;decide⟩
theorem ns (u v:Q2) (h:u*u=3*(v*v)):v=0:=by
 by_cases hv:v=0
 ·exact hv
 ·exfalso;obtain⟨y,hy⟩:=B.inv v hv;have hw:(u*y)*(u*y)=3:=by
   have e:(u*y)*(u*y)=(u*u)*(y*y):=by (refine Q2.ext' ?_ ?_ <;> (simp only [Q2.mul_re,Q2.mul_im];grind))
   rw [e,h,show 3*(v*v)*(y*y)=3*((v*y)*(v*y)) by (refine Q2.ext' ?_ ?_ <;> (simp only [Q2.mul_re,Q2.mul_im,Q2.three_re,Q2.three_im];grind)),hy];(refine Q2.ext' ?_ ?_ <;> (simp only [Q2.mul_re,Q2.mul_im,Q2.one_re,Q2.one_im,Q2.three_re,Q2.three_im];grind))
  generalize u*y=w at hw;have h1:w.re*w.re+2*(w.im*w.im)=3:=congrArg Q2.re hw;have h2:w.re*w.im+w.im*w.re=0:=congrArg Q2.im hw;have h3:w.re=0∨w.im=0:=by
   have:w.re*w.im=0:=by grind
   exact Rat.mul_eq_zero.1 this
  rcases h3 with h3|h3
  ·rw [h3]at h1
   have:=aDr (n:=6) (fun x y e=>sq6 _ x y (oy _) e) (u:=2*w.im) (v:=1) (by
    show 2*w.im*(2*w.im)=(6:Rat)*(1*1);grind)
   exact absurd this oz
  ·rw [h3]at h1
   have:=aDr (n:=3) (fun x y e=>sq3 _ x y (oy _) e) (u:=w.re) (v:=1) (by
    show w.re*w.re=(3:Rat)*(1*1);grind)
   exact absurd this oz
def NN (x:Q23):Q2:=x.re*x.re-3*(x.im*x.im)
theorem aLb (x y:Q23):NN (x*y)=NN x*NN y:=by
 show (x.re*y.re+3*(x.im*y.im))*(x.re*y.re+3*(x.im*y.im))-3*((x.re*y.im+x.im*y.re)*(x.re*y.im+x.im*y.re))=(x.re*x.re-3*(x.im*x.im))*(y.re*y.re-3*(y.im*y.im))
 (refine Q2.ext' ?_ ?_ <;> (simp only [Q2.add_re,Q2.add_im,Q2.mul_re,Q2.mul_im,Q2.sub_re,Q2.sub_im,Q2.three_re,Q2.three_im];grind))
theorem aLc (x:Q23):NN (-x)=NN x:=by
 show -x.re*-x.re-3*(-x.im*-x.im)=x.re*x.re-3*(x.im*x.im)
 (refine Q2.ext' ?_ ?_ <;> (simp only [Q2.mul_re,Q2.mul_im,Q2.neg_re,Q2.neg_im,Q2.sub_re,Q2.sub_im,Q2.three_re,Q2.three_im];grind))
theorem mM {x:Q23}(h:NN x=0):x=0:=by
 have h1:x.im=0:=ns x.re x.im (B.sub_eq h);have h2:x.re*x.re=0:=by
  have:=B.sub_eq h;rw [this,h1];(refine Q2.ext' ?_ ?_ <;> (simp only [Q2.mul_re,Q2.mul_im,Q2.zero_re,Q2.zero_im,Q2.three_re,Q2.three_im];grind))
 have h3:x.re=0:=by
  by_cases h3:x.re=0
  ·exact h3
  ·exact absurd h2 (B.gN h3 h3)
 exact Q23.ext' h3 h1
def pos (x:Q23):Prop:=(B.pos (NN x)∧B.pos x.re)∨(B.pos (-NN x)∧B.pos x.im)
theorem tri (x:Q23):x=0∨pos x∨pos (-x):=by
 unfold pos;rw [aLc,Q23.neg_re,Q23.neg_im];rcases B.tri (NN x) with h|h|h
 ·exact .inl (mM h)
 ·rcases B.tri x.re with h1|h1|h1
  ·exfalso;unfold NN at h;rw [h1,show (0:Q2)*0-3*(x.im*x.im)=-(3*(x.im*x.im)) by (refine Q2.ext' ?_ ?_ <;> (simp only [Q2.mul_re,Q2.mul_im,Q2.neg_re,Q2.neg_im,Q2.sub_re,Q2.sub_im,Q2.zero_re,Q2.zero_im,Q2.three_re,Q2.three_im];grind))]at h
   by_cases h2:x.im=0
   ·rw [h2,show -((3:Q2)*(0*0))=0 by (refine Q2.ext' ?_ ?_ <;> (simp only [Q2.mul_re,Q2.mul_im,Q2.neg_re,Q2.neg_im,Q2.zero_re,Q2.zero_im,Q2.three_re,Q2.three_im];grind))]at h;exact B.zero h
   ·exact B.eG (B.mul hD (B.eM h2)) h
  ·exact .inr (.inl (.inl ⟨h,h1⟩))
  ·exact .inr (.inr (.inl ⟨h,h1⟩))
 ·rcases B.tri x.im with h1|h1|h1
  ·exfalso;unfold NN at h;rw [h1,show -(x.re*x.re-3*((0:Q2)*0))=-(x.re*x.re) by (refine Q2.ext' ?_ ?_ <;> (simp only [Q2.mul_re,Q2.mul_im,Q2.neg_re,Q2.neg_im,Q2.sub_re,Q2.sub_im,Q2.zero_re,Q2.zero_im,Q2.three_re,Q2.three_im];grind))]at h
   by_cases h2:x.re=0
   ·rw [h2,show -((0:Q2)*0)=0 by (refine Q2.ext' ?_ ?_ <;> (simp only [Q2.mul_re,Q2.mul_im,Q2.neg_re,Q2.neg_im,Q2.zero_re,Q2.zero_im];grind))]at h;exact B.zero h
   ·exact B.eG (B.eM h2) h
  ·exact .inr (.inl (.inr ⟨h,h1⟩))
  ·exact .inr (.inr (.inr ⟨h,h1⟩))
theorem mul {x y:Q23}(hx:pos x) (hy:pos y):pos (x*y):=by
 unfold pos;rw [aLb,Q23.mul_re,Q23.mul_im];unfold pos at hx hy;have mixed:∀ {x y:Q23},B.pos (NN x)→B.pos x.re→B.pos (-NN y)→B.pos y.im→B.pos (x.re*y.im+x.im*y.re):=by
  intro x y h1 h2 h3 h4;refine B.fU (B.mul h2 h4) ?_;refine B.nC hD ?_;have e:3*(x.re*y.im*(x.re*y.im)-x.im*y.re*(x.im*y.re))=x.re*x.re*(-NN y)+y.re*y.re*NN x:=by unfold NN;(refine Q2.ext' ?_ ?_ <;> (simp only [Q2.add_re,Q2.add_im,Q2.mul_re,Q2.mul_im,Q2.neg_re,Q2.neg_im,Q2.sub_re,Q2.sub_im,Q2.three_re,Q2.three_im];grind))
  rw [e];have p1:=B.mul (B.mul h2 h2) h3
  by_cases h0:y.re=0
  ·rw [h0,show (0:Q2)*0*NN x=0 by (refine Q2.ext' ?_ ?_ <;> (simp only [Q2.mul_re,Q2.mul_im,Q2.zero_re,Q2.zero_im];grind)),show x.re*x.re*-NN y+0=x.re*x.re*-NN y by (refine Q2.ext' ?_ ?_ <;> (simp only [Q2.add_re,Q2.add_im,Q2.mul_re,Q2.mul_im,Q2.neg_re,Q2.neg_im,Q2.zero_re,Q2.zero_im];grind))];exact p1
  ·exact B.add p1 (B.mul (B.eM h0) h1)
 rcases hx with ⟨h1,h2⟩|⟨h1,h2⟩ <;> rcases hy with ⟨h3,h4⟩|⟨h3,h4⟩
 ·refine .inl ⟨B.mul h1 h3,B.fU (B.mul h2 h4) ?_⟩;have e:x.re*y.re*(x.re*y.re)-3*(x.im*y.im)*(3*(x.im*y.im))=x.re*x.re*NN y+3*(y.im*y.im)*NN x:=by unfold NN;(refine Q2.ext' ?_ ?_ <;> (simp only [Q2.add_re,Q2.add_im,Q2.mul_re,Q2.mul_im,Q2.sub_re,Q2.sub_im,Q2.three_re,Q2.three_im];grind))
  rw [e];have p1:=B.mul (B.mul h2 h2) h3
  by_cases h0:y.im=0
  ·rw [h0,show 3*((0:Q2)*0)*NN x=0 by (refine Q2.ext' ?_ ?_ <;> (simp only [Q2.mul_re,Q2.mul_im,Q2.zero_re,Q2.zero_im,Q2.three_re,Q2.three_im];grind)),show x.re*x.re*NN y+0=x.re*x.re*NN y by (refine Q2.ext' ?_ ?_ <;> (simp only [Q2.add_re,Q2.add_im,Q2.mul_re,Q2.mul_im,Q2.zero_re,Q2.zero_im];grind))];exact p1
  ·exact B.add p1 (B.mul (B.mul hD (B.eM h0)) h1)
 ·refine .inr ⟨?_,mixed h1 h2 h3 h4⟩;have:=B.mul h1 h3
  rwa [show NN x*-NN y=-(NN x*NN y) by (refine Q2.ext' ?_ ?_ <;> (simp only [Q2.mul_re,Q2.mul_im,Q2.neg_re,Q2.neg_im];grind))]at this
 ·refine .inr ⟨?_,?_⟩
  ·have:=B.mul h1 h3
   rwa [show -NN x*NN y=-(NN x*NN y) by (refine Q2.ext' ?_ ?_ <;> (simp only [Q2.mul_re,Q2.mul_im,Q2.neg_re,Q2.neg_im];grind))]at this
  ·have:=mixed h3 h4 h1 h2
   rwa [show y.re*x.im+y.im*x.re=x.re*y.im+x.im*y.re by (refine Q2.ext' ?_ ?_ <;> (simp only [Q2.add_re,Q2.add_im,Q2.mul_re,Q2.mul_im];grind))]at this
 ·refine .inl ⟨?_,?_⟩
  ·have:=B.mul h1 h3
   rwa [show -NN x*-NN y=NN x*NN y by (refine Q2.ext' ?_ ?_ <;> (simp only [Q2.mul_re,Q2.mul_im,Q2.neg_re,Q2.neg_im];grind))]at this
  ·rw [show x.re*y.re+3*(x.im*y.im)=3*(x.im*y.im)+x.re*y.re by (refine Q2.ext' ?_ ?_ <;> (simp only [Q2.add_re,Q2.add_im,Q2.mul_re,Q2.mul_im,Q2.three_re,Q2.three_im];grind))];refine B.fU (B.mul hD (B.mul h2 h4)) ?_;have e:3*(x.im*y.im)*(3*(x.im*y.im))-x.re*y.re*(x.re*y.re)=3*(x.im*x.im)*(-NN y)+y.re*y.re*(-NN x):=by unfold NN;(refine Q2.ext' ?_ ?_ <;> (simp only [Q2.add_re,Q2.add_im,Q2.mul_re,Q2.mul_im,Q2.neg_re,Q2.neg_im,Q2.sub_re,Q2.sub_im,Q2.three_re,Q2.three_im];grind))
   rw [e];have p1:=B.mul (B.mul hD (B.mul h2 h2)) h3
   by_cases h0:y.re=0
   ·rw [h0,show (0:Q2)*0*(-NN x)=0 by (refine Q2.ext' ?_ ?_ <;> (simp only [Q2.mul_re,Q2.mul_im,Q2.neg_re,Q2.neg_im,Q2.zero_re,Q2.zero_im];grind)),show 3*(x.im*x.im)*-NN y+0=3*(x.im*x.im)*-NN y by (refine Q2.ext' ?_ ?_ <;> (simp only [Q2.add_re,Q2.add_im,Q2.mul_re,Q2.mul_im,Q2.neg_re,Q2.neg_im,Q2.zero_re,Q2.zero_im,Q2.three_re,Q2.three_im];grind))];exact p1
   ·exact B.add p1 (B.mul (B.eM h0) h1)
theorem zero:¬ pos (0:Q23):=by
 rintro (⟨_,h⟩|⟨_,h⟩)
 ·exact B.zero h
 ·exact B.zero h
theorem one_ne:(1:Q23)≠0:=fun h=>B.one_ne (congrArg Q23.re h)
theorem inv (x:Q23) (h:x≠0):∃y,x*y=1:=by
 have hN:NN x≠0:=fun e=>h (mM e);obtain⟨z,hz⟩:=B.inv (NN x) hN;refine⟨⟨x.re*z,-x.im*z⟩,Q23.ext' ?_ ?_⟩
 ·show x.re*(x.re*z)+3*(x.im*(-x.im*z))=1;rw [←hz];unfold NN;(refine Q2.ext' ?_ ?_ <;> (simp only [Q2.add_re,Q2.add_im,Q2.mul_re,Q2.mul_im,Q2.neg_re,Q2.neg_im,Q2.sub_re,Q2.sub_im,Q2.three_re,Q2.three_im];grind))
 ·show x.re*(-x.im*z)+x.im*(x.re*z)=0
  (refine Q2.ext' ?_ ?_ <;> (simp only [Q2.add_re,Q2.add_im,Q2.mul_re,Q2.mul_im,Q2.neg_re,Q2.neg_im,Q2.zero_re,Q2.zero_im];grind))
theorem tU {z:Q23}(h:pos z):pos (1+z):=by
 have hN:NN (1+z)=(1+z.re)*(1+z.re)-3*(z.im*z.im):=by
  show (1+z.re)*(1+z.re)-3*((0+z.im)*(0+z.im))=_
  (refine Q2.ext' ?_ ?_ <;> (simp only [Q2.add_re,Q2.add_im,Q2.mul_re,Q2.mul_im,Q2.sub_re,Q2.sub_im,Q2.one_re,Q2.one_im,Q2.zero_re,Q2.zero_im,Q2.three_re,Q2.three_im];grind))
 have one:=B.oK;have hre:(1+z).re=1+z.re:=rfl;have him:(1+z).im=z.im:=by show 0+z.im=z.im;(refine Q2.ext' ?_ ?_ <;> (simp only [Q2.add_re,Q2.add_im,Q2.zero_re,Q2.zero_im];grind))
 rcases h with ⟨h1,h2⟩|⟨h1,h2⟩
 ·refine .inl ⟨?_,by rw [hre];exact B.add one h2⟩;have:=B.add (B.add one (B.add h2 h2)) h1;rw [hN]
  rwa [show 1+(z.re+z.re)+NN z=(1+z.re)*(1+z.re)-3*(z.im*z.im) by unfold NN;(refine Q2.ext' ?_ ?_ <;> (simp only [Q2.add_re,Q2.add_im,Q2.mul_re,Q2.mul_im,Q2.sub_re,Q2.sub_im,Q2.one_re,Q2.one_im,Q2.three_re,Q2.three_im];grind))]at this
 ·rcases B.tri (NN (1+z)) with h3|h3|h3
  ·exfalso;have e:=mM h3;have e2:z.im=0:=by have:=congrArg Q23.im e;rw [him]at this;exact this
   rw [e2]at h2;exact B.zero h2
  ·refine .inl ⟨h3,?_⟩;rw [hre];have key:(B.pos (-(1+z.re))∨1+z.re=0)→False:=by
    intro hh;have:B.pos (-NN (1+z)):=by
     rw [hN];have e:-((1+z.re)*(1+z.re)-3*(z.im*z.im))=-NN z+(-(1+z.re)+-(1+z.re)+1):=by unfold NN;(refine Q2.ext' ?_ ?_ <;> (simp only [Q2.add_re,Q2.add_im,Q2.mul_re,Q2.mul_im,Q2.neg_re,Q2.neg_im,Q2.sub_re,Q2.sub_im,Q2.one_re,Q2.one_im,Q2.three_re,Q2.three_im];grind))
     rw [e];refine B.add h1 ?_;rcases hh with hh|hh
     ·exact B.add (B.add hh hh) one
     ·rw [hh,show -(0:Q2)+-0+1=1 by (refine Q2.ext' ?_ ?_ <;> (simp only [Q2.add_re,Q2.add_im,Q2.neg_re,Q2.neg_im,Q2.one_re,Q2.one_im,Q2.zero_re,Q2.zero_im];grind))];exact one
    exact B.eG h3 this
   rcases B.tri (1+z.re) with h4|h4|h4
   ·exact (key (.inr h4)).elim
   ·exact h4
   ·exact (key (.inl h4)).elim
  ·exact .inr ⟨h3,by rw [him];exact h2⟩
theorem add {x y:Q23}(hx:pos x) (hy:pos y):pos (x+y):=by
 have hx0:x≠0:=fun e=>by rw [e]at hx;exact zero hx
 obtain⟨t,ht⟩:=inv x hx0;have hone:¬ pos (-(1:Q23)):=by
  rintro (⟨_,h⟩|⟨_,h⟩)
  ·exact B.eG B.oK h
  ·have h:B.pos (-(0:Q2)):=h;rw [show -(0:Q2)=0 by (refine Q2.ext' ?_ ?_ <;> (simp only [Q2.neg_re,Q2.neg_im,Q2.zero_re,Q2.zero_im];grind))]at h;exact B.zero h
 have ht':pos t:=by
  rcases tri t with h|h|h
  ·exfalso;rw [h,show x*(0:Q23)=0 by (refine Q23.ext' (Q2.ext' ?_ ?_) (Q2.ext' ?_ ?_) <;> (simp only [Q23.mul_re,Q23.mul_im,Q23.zero_re,Q23.zero_im,Q2.add_re,Q2.add_im,Q2.mul_re,Q2.mul_im,Q2.zero_re,Q2.zero_im,Q2.three_re,Q2.three_im];grind))]at ht;exact one_ne ht.symm
  ·exact h
  ·exfalso;have:=mul hx h;rw [show x*-t=-(x*t) by (refine Q23.ext' (Q2.ext' ?_ ?_) (Q2.ext' ?_ ?_) <;> (simp only [Q23.mul_re,Q23.mul_im,Q23.neg_re,Q23.neg_im,Q2.add_re,Q2.add_im,Q2.mul_re,Q2.mul_im,Q2.neg_re,Q2.neg_im,Q2.three_re,Q2.three_im];grind)),ht]at this;exact hone this
 have:=mul hx (tU (mul ht' hy))
 rwa [show x*(1+t*y)=x+(x*t)*y by (refine Q23.ext' (Q2.ext' ?_ ?_) (Q2.ext' ?_ ?_) <;> (simp only [Q23.add_re,Q23.add_im,Q23.mul_re,Q23.mul_im,Q23.one_re,Q23.one_im,Q2.add_re,Q2.add_im,Q2.mul_re,Q2.mul_im,Q2.one_re,Q2.one_im,Q2.zero_re,Q2.zero_im,Q2.three_re,Q2.three_im];grind)),ht,show x+1*y=x+y by (refine Q23.ext' (Q2.ext' ?_ ?_) (Q2.ext' ?_ ?_) <;> (simp only [Q23.add_re,Q23.add_im,Q23.mul_re,Q23.mul_im,Q23.one_re,Q23.one_im,Q2.add_re,Q2.add_im,Q2.mul_re,Q2.mul_im,Q2.one_re,Q2.one_im,Q2.zero_re,Q2.zero_im,Q2.three_re,Q2.three_im];grind))]at this
theorem aOi {x:Q23}(h:pos x):x≠0:=fun e=>zero (e▸h)
theorem eM {x:Q23}(h:x≠0):pos (x*x):=by
 rcases tri x with h1|h1|h1
 ·exact absurd h1 h
 ·exact mul h1 h1
 ·have:=mul h1 h1
  rwa [show -x*-x=x*x by (refine Q23.ext' (Q2.ext' ?_ ?_) (Q2.ext' ?_ ?_) <;> (simp only [Q23.mul_re,Q23.mul_im,Q23.neg_re,Q23.neg_im,Q2.add_re,Q2.add_im,Q2.mul_re,Q2.mul_im,Q2.neg_re,Q2.neg_im,Q2.three_re,Q2.three_im];grind))]at this
theorem gN {a b:Q23}(ha:a≠0) (hb:b≠0):a*b≠0:=by
 obtain⟨y,hy⟩:=inv a ha;intro h;apply hb;have e:b=1*b:=by (refine Q23.ext' (Q2.ext' ?_ ?_) (Q2.ext' ?_ ?_) <;> (simp only [Q23.mul_re,Q23.mul_im,Q23.one_re,Q23.one_im,Q2.add_re,Q2.add_im,Q2.mul_re,Q2.mul_im,Q2.one_re,Q2.one_im,Q2.zero_re,Q2.zero_im,Q2.three_re,Q2.three_im];grind))
 rw [e,←hy,show a*y*b=(a*b)*y by (refine Q23.ext' (Q2.ext' ?_ ?_) (Q2.ext' ?_ ?_) <;> (simp only [Q23.mul_re,Q23.mul_im,Q2.add_re,Q2.add_im,Q2.mul_re,Q2.mul_im,Q2.three_re,Q2.three_im];grind)),h];(refine Q23.ext' (Q2.ext' ?_ ?_) (Q2.ext' ?_ ?_) <;> (simp only [Q23.mul_re,Q23.mul_im,Q23.zero_re,Q23.zero_im,Q2.add_re,Q2.add_im,Q2.mul_re,Q2.mul_im,Q2.zero_re,Q2.zero_im,Q2.three_re,Q2.three_im];grind))
open Classical in
noncomputable def sg (x:Q23):Int:=if pos x then 1 else if pos (-x) then -1 else 0
end C
theorem aJg (a b c:Q23):a*b*c=a*(b*c):=by (refine Q23.ext' (Q2.ext' ?_ ?_) (Q2.ext' ?_ ?_) <;> (simp only [Q23.mul_re,Q23.mul_im,Q2.add_re,Q2.add_im,Q2.mul_re,Q2.mul_im,Q2.three_re,Q2.three_im];grind))
theorem aOj (a b:Q23):a*b=b*a:=by (refine Q23.ext' (Q2.ext' ?_ ?_) (Q2.ext' ?_ ?_) <;> (simp only [Q23.mul_re,Q23.mul_im,Q2.add_re,Q2.add_im,Q2.mul_re,Q2.mul_im,Q2.three_re,Q2.three_im];grind))
instance:Std.Associative (α:=Q23) (·*·):=⟨aJg⟩
instance:Std.Commutative (α:=Q23) (·*·):=⟨aOj⟩
def e4 (a b c d:Rat):Q23:=⟨⟨a,b⟩,⟨c,d⟩⟩
theorem pF (a b c d a' b' c' d':Rat):e4 a b c d*e4 a' b' c' d'=e4 (a*a'+2*(b*b')+3*(c*c')+6*(d*d')) (a*b'+b*a'+3*(c*d'+d*c')) (a*c'+c*a'+2*(b*d'+d*b')) (a*d'+d*a'+b*c'+c*b'):=by
 refine Q23.ext' (Q2.ext' ?_ ?_) (Q2.ext' ?_ ?_)
 ·show a*a'+2*(b*b')+(3*(c*c'+2*(d*d'))+2*(0*(c*d'+d*c')))=_;show _=a*a'+2*(b*b')+3*(c*c')+6*(d*d')
  grind
 ·show a*b'+b*a'+(3*(c*d'+d*c')+0*(c*c'+2*(d*d')))=a*b'+b*a'+3*(c*d'+d*c')
  grind
 ·show a*c'+2*(b*d')+(c*a'+2*(d*b'))=a*c'+c*a'+2*(b*d'+d*b')
  grind
 ·show a*d'+b*c'+(c*b'+d*a')=a*d'+d*a'+b*c'+c*b'
  grind
theorem sY {a b c d a' b' c' d':Rat}(h:e4 a b c d=e4 a' b' c' d'):a=a'∧b=b'∧c=c'∧d=d':=
 ⟨congrArg (·.re.re) h,congrArg (·.re.im) h,congrArg (·.im.re) h,congrArg (·.im.im) h⟩
end Go.Proofs.YthiaclljcnincaaGreat.Plain

namespace Go.Proofs.YthiaclljcnincaaGreat
open Go.RowKit Num Plain
open Sy (Up Sees CallsG Seg)
def Q4.toQ (v:Q4):Q23:=e4 v.a v.b v.c v.d
theorem eK (x y:Q4):(x.add y).toQ=x.toQ+y.toQ:=rfl
theorem oW (x:Q4):x.neg.toQ=-x.toQ:=rfl
theorem bA (x y:Q4):(x.mul y).toQ=x.toQ*y.toQ:=(pF _ _ _ _ _ _ _ _).symm
theorem gW (x y:Q4):(x.sub y).toQ=x.toQ-y.toQ:=by
 have:(x.sub y).toQ=x.toQ+-y.toQ:=rfl;rw [this];generalize x.toQ=a;generalize y.toQ=b
 (refine Q23.ext' (Q2.ext' ?_ ?_) (Q2.ext' ?_ ?_) <;> (simp only [Q23.add_re,Q23.add_im,Q23.neg_re,Q23.neg_im,Q23.sub_re,Q23.sub_im,Q2.add_re,Q2.add_im,Q2.neg_re,Q2.neg_im,Q2.sub_re,Q2.sub_im];grind))
theorem toQ_zero:Q4.zero.toQ=0:=rfl
theorem cL {x y:Q4}(h:x.toQ=y.toQ):x=y:=by
 obtain⟨h1,h2,h3,h4⟩:=sY h;exact Q4.ext' h1 h2 h3 h4
section
variable {k:World}{R:World→Value→Prop}{K L:Nat}{cs cs':Array Value}{v v':Q4}
def Box1 (k:World) (p:Nat) (x:Int) (K:Nat):Prop:=∃c:Array Value,Sy.Blk k p 33 (c.toList++([])).toArray∧IntV k c x K
end
open Value (agg slice int bool tuple)
open Sy (Up Sees CallsG Seg execFn_use)
set_option maxRecDepth 100000
variable {k:World}{R:World→Value→Prop}{b0 b2 b4 b6 b9 b11 b13 b15:Bool}{A1 A3 A5 A7 A8 A10 A12 A14 A16 A17:Option Addr}{c1 c3 c5 c7 c8 c10 c12 c14 c16 c17 l1 l3 l5 l7 l8 l10 l12 l14 l16 l17:Nat}
theorem zA 
 (h:Cl k 161 #[agg #[bool b9,slice A10 l10 c10,bool b11,slice A12 l12 c12,bool b13,slice A14 l14 c14,bool b15,slice A16 l16 c16,slice A17 l17 c17]] fun k1 r0=>Gb r0 fun b18=>
 Br b18 (Rt R k1 (tuple #[agg #[bool false,slice none 0 0,bool false,slice none 0 0,bool false,slice none 0 0,bool false,slice none 0 0,slice none 0 0],int .i64 3])) (Cl k1 88 #[agg #[bool b13,slice A14 l14 c14]] fun k4 r3=>∃b19,∃A20 l20 c20,some (agg #[bool b19,slice A20 l20 c20])=some r3∧
 Cl k4 88 #[agg #[bool b15,slice A16 l16 c16]] fun k6 r5=>∃b21,∃A22 l22 c22,some (agg #[bool b21,slice A22 l22 c22])=some r5∧
 Cl k6 52 #[agg #[bool b9,slice A10 l10 c10,bool b11,slice A12 l12 c12,bool b13,slice A14 l14 c14,bool b15,slice A16 l16 c16],agg #[bool b9,slice A10 l10 c10,bool b11,slice A12 l12 c12,bool b19,slice A20 l20 c20,bool b21,slice A22 l22 c22]] fun k8 r7=>∃b23,∃A24 l24 c24,∃b25,∃A26 l26 c26,∃b27,∃A28 l28 c28,∃b29,∃A30 l30 c30,some (agg #[bool b23,slice A24 l24 c24,bool b25,slice A26 l26 c26,bool b27,slice A28 l28 c28,bool b29,slice A30 l30 c30])=some r7∧
 Cl k8 88 #[agg #[bool b25,slice A26 l26 c26]] fun k10 r9=>∃b31,∃A32 l32 c32,some (agg #[bool b31,slice A32 l32 c32])=some r9∧
 Cl k10 52 #[agg #[bool b0,slice A1 l1 c1,bool b2,slice A3 l3 c3,bool b4,slice A5 l5 c5,bool b6,slice A7 l7 c7],agg #[bool b9,slice A10 l10 c10,bool b11,slice A12 l12 c12,bool b19,slice A20 l20 c20,bool b21,slice A22 l22 c22]] fun k12 r11=>∃b33,∃A34 l34 c34,∃b35,∃A36 l36 c36,∃b37,∃A38 l38 c38,∃b39,∃A40 l40 c40,some (agg #[bool b33,slice A34 l34 c34,bool b35,slice A36 l36 c36,bool b37,slice A38 l38 c38,bool b39,slice A40 l40 c40])=some r11∧
 Cl k12 52 #[agg #[bool b33,slice A34 l34 c34,bool b35,slice A36 l36 c36,bool b37,slice A38 l38 c38,bool b39,slice A40 l40 c40],agg #[bool b23,slice A24 l24 c24,bool b31,slice A32 l32 c32,bool false,slice none 0 0,bool false,slice none 0 0]] fun k14 r13=>∃b41,∃A42 l42 c42,∃b43,∃A44 l44 c44,∃b45,∃A46 l46 c46,∃b47,∃A48 l48 c48,some (agg #[bool b41,slice A42 l42 c42,bool b43,slice A44 l44 c44,bool b45,slice A46 l46 c46,bool b47,slice A48 l48 c48])=some r13∧
 Cl k14 52 #[agg #[bool b23,slice A24 l24 c24,bool b25,slice A26 l26 c26,bool b27,slice A28 l28 c28,bool b29,slice A30 l30 c30],agg #[bool b23,slice A24 l24 c24,bool b31,slice A32 l32 c32,bool false,slice none 0 0,bool false,slice none 0 0]] fun k16 r15=>∃b49,∃A50 l50 c50,∃b51,∃A52 l52 c52,∃b53,∃A54 l54 c54,∃b55,∃A56 l56 c56,some (agg #[bool b49,slice A50 l50 c50,bool b51,slice A52 l52 c52,bool b53,slice A54 l54 c54,bool b55,slice A56 l56 c56])=some r15∧
 Cl k16 53 #[slice A17 l17 c17] fun k18 r17=>∃A57 l57 c57,some (slice A57 l57 c57)=some r17∧
 Cl k18 55 #[agg #[bool b41,slice A42 l42 c42],slice A57 l57 c57] fun k20 r19=>∃b58,∃A59 l59 c59,some (agg #[bool b58,slice A59 l59 c59])=some r19∧
 Br b49 (Cl k20 88 #[agg #[bool b58,slice A59 l59 c59]] fun k22 r21=>∃b60,∃A61 l61 c61,some (agg #[bool b60,slice A61 l61 c61])=some r21∧
 Cl k22 53 #[slice A17 l17 c17] fun k24 r23=>∃A62 l62 c62,some (slice A62 l62 c62)=some r23∧
 Cl k24 55 #[agg #[bool b43,slice A44 l44 c44],slice A62 l62 c62] fun k26 r25=>∃b63,∃A64 l64 c64,some (agg #[bool b63,slice A64 l64 c64])=some r25∧
 Cl k26 88 #[agg #[bool b63,slice A64 l64 c64]] fun k28 r27=>∃b65,∃A66 l66 c66,some (agg #[bool b65,slice A66 l66 c66])=some r27∧
 Cl k28 53 #[slice A17 l17 c17] fun k30 r29=>∃A67 l67 c67,some (slice A67 l67 c67)=some r29∧
 Cl k30 55 #[agg #[bool b45,slice A46 l46 c46],slice A67 l67 c67] fun k32 r31=>∃b68,∃A69 l69 c69,some (agg #[bool b68,slice A69 l69 c69])=some r31∧
 Cl k32 88 #[agg #[bool b68,slice A69 l69 c69]] fun k34 r33=>∃b70,∃A71 l71 c71,some (agg #[bool b70,slice A71 l71 c71])=some r33∧
 Cl k34 53 #[slice A17 l17 c17] fun k36 r35=>∃A72 l72 c72,some (slice A72 l72 c72)=some r35∧
 Cl k36 55 #[agg #[bool b47,slice A48 l48 c48],slice A72 l72 c72] fun k38 r37=>∃b73,∃A74 l74 c74,some (agg #[bool b73,slice A74 l74 c74])=some r37∧
 Cl k38 88 #[agg #[bool b73,slice A74 l74 c74]] fun k40 r39=>∃b75,∃A76 l76 c76,some (agg #[bool b75,slice A76 l76 c76])=some r39∧
 Cl k40 53 #[slice A8 l8 c8] fun k42 r41=>∃A77 l77 c77,some (slice A77 l77 c77)=some r41∧
 Cl k42 54 #[slice A77 l77 c77,slice A50 l50 c50] fun k44 r43=>∃A78 l78 c78,some (slice A78 l78 c78)=some r43∧
 Cl k44 51 #[agg #[bool b60,slice A61 l61 c61,bool b65,slice A66 l66 c66,bool b70,slice A71 l71 c71,bool b75,slice A76 l76 c76],slice A78 l78 c78] fun k46 r45=>∃b79,∃A80 l80 c80,∃b81,∃A82 l82 c82,∃b83,∃A84 l84 c84,∃b85,∃A86 l86 c86,∃A87 l87 c87,some (agg #[bool b79,slice A80 l80 c80,bool b81,slice A82 l82 c82,bool b83,slice A84 l84 c84,bool b85,slice A86 l86 c86,slice A87 l87 c87])=some r45∧
 Rt R k46 (tuple #[agg #[bool b79,slice A80 l80 c80,bool b81,slice A82 l82 c82,bool b83,slice A84 l84 c84,bool b85,slice A86 l86 c86,slice A87 l87 c87],int .i64 0])) (Cl k20 53 #[slice A17 l17 c17] fun k49 r48=>∃A60 l60 c60,some (slice A60 l60 c60)=some r48∧
 Cl k49 55 #[agg #[bool b43,slice A44 l44 c44],slice A60 l60 c60] fun k51 r50=>∃b61,∃A62 l62 c62,some (agg #[bool b61,slice A62 l62 c62])=some r50∧
 Cl k51 53 #[slice A17 l17 c17] fun k53 r52=>∃A63 l63 c63,some (slice A63 l63 c63)=some r52∧
 Cl k53 55 #[agg #[bool b45,slice A46 l46 c46],slice A63 l63 c63] fun k55 r54=>∃b64,∃A65 l65 c65,some (agg #[bool b64,slice A65 l65 c65])=some r54∧
 Cl k55 53 #[slice A17 l17 c17] fun k57 r56=>∃A66 l66 c66,some (slice A66 l66 c66)=some r56∧
 Cl k57 55 #[agg #[bool b47,slice A48 l48 c48],slice A66 l66 c66] fun k59 r58=>∃b67,∃A68 l68 c68,some (agg #[bool b67,slice A68 l68 c68])=some r58∧
 Cl k59 53 #[slice A8 l8 c8] fun k61 r60=>∃A69 l69 c69,some (slice A69 l69 c69)=some r60∧
 Cl k61 54 #[slice A69 l69 c69,slice A50 l50 c50] fun k63 r62=>∃A70 l70 c70,some (slice A70 l70 c70)=some r62∧
 Cl k63 51 #[agg #[bool b58,slice A59 l59 c59,bool b61,slice A62 l62 c62,bool b64,slice A65 l65 c65,bool b67,slice A68 l68 c68],slice A70 l70 c70] fun k65 r64=>∃b71,∃A72 l72 c72,∃b73,∃A74 l74 c74,∃b75,∃A76 l76 c76,∃b77,∃A78 l78 c78,∃A79 l79 c79,some (agg #[bool b71,slice A72 l72 c72,bool b73,slice A74 l74 c74,bool b75,slice A76 l76 c76,bool b77,slice A78 l78 c78,slice A79 l79 c79])=some r64∧
 Rt R k65 (tuple #[agg #[bool b71,slice A72 l72 c72,bool b73,slice A74 l74 c74,bool b75,slice A76 l76 c76,bool b77,slice A78 l78 c78,slice A79 l79 c79],int .i64 0])))) :
  CallsG Tryz.prog 159 #[agg #[bool b0,slice A1 l1 c1,bool b2,slice A3 l3 c3,bool b4,slice A5 l5 c5,bool b6,slice A7 l7 c7,slice A8 l8 c8],agg #[bool b9,slice A10 l10 c10,bool b11,slice A12 l12 c12,bool b13,slice A14 l14 c14,bool b15,slice A16 l16 c16,slice A17 l17 c17]] k R:=
  qY { opq:=[],loops:=[],sub:=true } h
end Go.Proofs.YthiaclljcnincaaGreat

namespace Go.Proofs.YthiaclljcnincaaGreat
open Go.RowKit Num Plain
open Sy (Up Sees CallsG Seg)
def em (r:Rat):Q23:=e4 r 0 0 0
theorem wZ (r s:Rat):em r*em s=em (r*s):=by
 unfold em;rw [pF];unfold e4;refine Q23.ext' (Q2.ext' ?_ ?_) (Q2.ext' ?_ ?_) <;> (dsimp only;grind)
theorem aXz:em 1=1:=rfl
theorem aFb (a b c d r:Rat):e4 a b c d*em r=e4 (a*r) (b*r) (c*r) (d*r):=by
 unfold em;rw [pF];unfold e4;refine Q23.ext' (Q2.ext' ?_ ?_) (Q2.ext' ?_ ?_) <;> (dsimp only;grind)
theorem xM (x0 x1 x2 x3:Int) {m:Nat}(_hm:0<m):(mkQ x0 x1 x2 x3 m).toQ=e4 x0 x1 x2 x3*em (1/(m:Rat)):=by
 rw [aFb];have hd:∀x:Int,mkRat x m=(x:Rat)*(1/(m:Rat)):=fun x=>by
  rw [Rat.mkRat_eq_div,xd,xd,Rat.one_mul]
 show e4 (mkRat x0 m) (mkRat x1 m) (mkRat x2 m) (mkRat x3 m)=_;rw [hd,hd,hd,hd]
theorem qE {y:Q4}:y.toQ≠0↔y≠Q4.zero:=by
 constructor
 ·intro h e;exact h (by rw [e];rfl)
 ·intro h e;exact h (cL (e.trans toQ_zero.symm))
theorem aTg {x0 x1 x2 x3 y0 y1 y2 y3 p0 p1 p2 p3 t0 t1 t2 t3 n0 n1 n2 n3 w0 w1 w2 w3:Int}{m n:Nat}(hm:0<m) (hn:0<n)
 (hp:e4 p0 p1 p2 p3=e4 y0 y1 y2 y3*e4 y0 y1 ((-y2:Int):Rat) ((-y3:Int):Rat))
 (ht:e4 t0 t1 t2 t3=e4 x0 x1 x2 x3*e4 y0 y1 ((-y2:Int):Rat) ((-y3:Int):Rat))
 (hN:e4 n0 n1 n2 n3=e4 t0 t1 t2 t3*e4 p0 ((-p1:Int):Rat) ((0:Int):Rat) ((0:Int):Rat))
 (hw:e4 w0 w1 w2 w3=e4 p0 p1 p2 p3*e4 p0 ((-p1:Int):Rat) ((0:Int):Rat) ((0:Int):Rat))
 (hy:mkQ y0 y1 y2 y3 n≠Q4.zero) :
 w0≠0∧(w0<0→(mkQ (-(n0*n)) (-(n1*n)) (-(n2*n)) (-(n3*n)) (m*w0.natAbs)).toQ*(mkQ y0 y1 y2 y3 n).toQ=(mkQ x0 x1 x2 x3 m).toQ)∧
  (¬ w0<0→(mkQ (n0*n) (n1*n) (n2*n) (n3*n) (m*w0.natAbs)).toQ*(mkQ y0 y1 y2 y3 n).toQ=(mkQ x0 x1 x2 x3 m).toQ):=by
 have hY:e4 y0 y1 y2 y3≠0:=by
  intro h;apply qE.2 hy;rw [xM _ _ _ _ hn,h];generalize em (1/(n:Rat))=z
  (refine Q23.ext' (Q2.ext' ?_ ?_) (Q2.ext' ?_ ?_) <;> (simp only [Q23.mul_re,Q23.mul_im,Q23.zero_re,Q23.zero_im,Q2.add_re,Q2.add_im,Q2.mul_re,Q2.mul_im,Q2.zero_re,Q2.zero_im,Q2.three_re,Q2.three_im];grind))
 have hI:e4 y0 y1 ((-y2:Int):Rat) ((-y3:Int):Rat)≠0:=by
  intro h;apply hY;obtain⟨h0,h1,h2,h3⟩:=sY (h.trans toQ_zero.symm:e4 _ _ _ _=e4 0 0 0 0);rw [ze]at h2 h3;rw [h0,h1,show ((y2:Int):Rat)=0 by grind,show ((y3:Int):Rat)=0 by grind];rfl
 have hP:=C.gN hY hI;rw [←hp]at hP;obtain⟨_,_,e2,e3⟩:=sY (hp.trans (pF _ _ _ _ _ _ _ _));have e2:((p2:Int):Rat)=0:=by rw [e2,ze,ze];grind
 have e3:((p3:Int):Rat)=0:=by rw [e3,ze,ze];grind
 have hO:e4 p0 ((-p1:Int):Rat) ((0:Int):Rat) ((0:Int):Rat)≠0:=by
  intro h;apply hP;obtain⟨h0,h1,_,_⟩:=sY (h.trans toQ_zero.symm:e4 _ _ _ _=e4 0 0 0 0);rw [ze]at h1;rw [h0,e2,e3,show ((p1:Int):Rat)=0 by grind];rfl
 have hW:=C.gN hP hO;rw [←hw]at hW;have hwe:e4 w0 w1 w2 w3=em (w0:Rat):=by
  obtain⟨_,f1,f2,f3⟩:=sY (hw.trans (pF _ _ _ _ _ _ _ _));have g1:((w1:Int):Rat)=0:=by rw [f1,e2,e3,ze,yu];grind
  have g2:((w2:Int):Rat)=0:=by rw [f2,e2,e3,yu];grind
  have g3:((w3:Int):Rat)=0:=by rw [f3,e2,e3,ze,yu];grind
  rw [g1,g2,g3];rfl
 rw [hwe]at hW;have hw0:w0≠0:=by
  intro e;apply hW;rw [e];rfl
 have hw0':(w0:Rat)≠0:=by
  intro e;apply hw0;exact Rat.intCast_inj.1 (by rw [e];rfl)
 -- the heart: N Y=w X
 have heart:e4 n0 n1 n2 n3*e4 y0 y1 y2 y3=em w0*e4 x0 x1 x2 x3:=by
  rw [hN,ht,←hwe,hw,hp];ac_rfl
 have hnr:=mW hn;have hmr:=mW hm;have fin:∀(s:Rat) (a0 a1 a2 a3:Int),s*(w0.natAbs:Rat)=w0→(∀z:Int,True)→e4 a0 a1 a2 a3=e4 n0 n1 n2 n3*em (s*n)→s*s=1→
  (mkQ a0 a1 a2 a3 (m*w0.natAbs)).toQ*(mkQ y0 y1 y2 y3 n).toQ=(mkQ x0 x1 x2 x3 m).toQ:=by
  intro s a0 a1 a2 a3 hs _ ha hss;have hab:0<w0.natAbs:=Int.natAbs_pos.2 hw0;have habr:=mW hab;rw [xM _ _ _ _ (zg hm hab),xM _ _ _ _ hn,xM _ _ _ _ hm,ha];have e:e4 n0 n1 n2 n3*em (s*n)*em (1/((m*w0.natAbs:Nat):Rat))*(e4 y0 y1 y2 y3*em (1/(n:Rat)))=(e4 n0 n1 n2 n3*e4 y0 y1 y2 y3)*(em (s*n)*em (1/((m*w0.natAbs:Nat):Rat))*em (1/(n:Rat))):=by ac_rfl
  rw [e,heart,wZ,wZ];have e':em w0*e4 x0 x1 x2 x3*em (s*n*(1/((m*w0.natAbs:Nat):Rat))*(1/(n:Rat)))=e4 x0 x1 x2 x3*(em w0*em (s*n*(1/((m*w0.natAbs:Nat):Rat))*(1/(n:Rat)))):=by ac_rfl
  rw [e',wZ]
  congr 2
  rw [Rat.natCast_mul,←hs]
  grind
 refine⟨hw0,fun hlt=>?_,fun hge=>?_⟩
 ·refine fin (-1) _ _ _ _ ?_ (fun _=>trivial) ?_ (by grind)
  ·have:(w0.natAbs:Int)=-w0:=oq
   have h2:((w0.natAbs:Nat):Rat)=((-w0:Int):Rat):=by rw [←this];rfl
   rw [h2,ze];grind
  ·rw [aFb];simp only [ze,yq,xc]
   congr 1 <;> grind
 ·refine fin 1 _ _ _ _ ?_ (fun _=>trivial) ?_ (by grind)
  ·have:(w0.natAbs:Int)=w0:=oq
   have h2:((w0.natAbs:Nat):Rat)=((w0:Int):Rat):=by
    conv=>rhs;rw [←this]
    rfl
   rw [h2];grind
  ·rw [aFb];simp only [yq,xc]
   congr 1 <;> grind
theorem aZj (x0 x1 x2 x3 y0 y1 y2 y3:Int):e4 ((x0*y0+x1*y1*(2:Nat)+x2*y2*(3:Nat)+x3*y3*(6:Nat):Int):Rat) ((x0*y1+x1*y0+(x2*y3+x3*y2)*(3:Nat):Int):Rat) ((x0*y2+x2*y0+(x1*y3+x3*y1)*(2:Nat):Int):Rat) ((x0*y3+x3*y0+x1*y2+x2*y1:Int):Rat)=e4 x0 x1 x2 x3*e4 y0 y1 y2 y3:=by
 rw [pF];simp only [Rat.intCast_add,yq,xc];show e4 ((x0:Rat)*y0+x1*y1*2+x2*y2*3+x3*y3*6) (x0*y1+x1*y0+(x2*y3+x3*y2)*3) (x0*y2+x2*y0+(x1*y3+x3*y1)*2) (x0*y3+x3*y0+x1*y2+x2*y1)=_;unfold e4;refine Q23.ext' (Q2.ext' ?_ ?_) (Q2.ext' ?_ ?_) <;> first|rfl|grind|(dsimp only;grind)
section
variable {k:World}{R:World→Value→Prop}{K L:Nat}{cs cs':Array Value}{v v':Q4}
theorem IntV.dest {z:Int}(h:IntV k cs z K):∃b A n c,cs=#[.bool b,.slice A n c]∧IntV k #[.bool b,.slice A n c] z K:=by
 obtain⟨b,A,n,c,rfl,h1,h2⟩:=h;exact⟨b,A,n,c,rfl,b,A,n,c,rfl,h1,h2⟩
theorem SurdV.flat (h:SurdV k cs v K):∃b0 A0 l0 c0 b1 A1 l1 c1 b2 A2 l2 c2 b3 A3 l3 c3 D d e,cs=#[.bool b0,.slice A0 l0 c0,.bool b1,.slice A1 l1 c1,.bool b2,.slice A2 l2 c2,.bool b3,.slice A3 l3 c3,.slice D d e]:=by
 obtain⟨_,_,_,_,D,d,e,y0,y1,y2,y3,m,rfl,h2,h3,h4,⟨b0,A0,l0,c0,rfl,_⟩,⟨b1,A1,l1,c1,rfl,_⟩,⟨b2,A2,l2,c2,rfl,_⟩,⟨b3,A3,l3,c3,rfl,_⟩,l,hd⟩:=h;exact⟨b0,A0,l0,c0,b1,A1,l1,c1,b2,A2,l2,c2,b3,A3,l3,c3,D,d,e,rfl⟩
theorem SurdV.nil (hK:0≤K):SurdV k #[.bool false,.slice none 0 0,.bool false,.slice none 0 0,.bool false,.slice none 0 0,.bool false,.slice none 0 0,.slice none 0 0] Q4.zero K:=
 ⟨_,_,_,_,none,0,0,0,0,0,0,1,rfl,oq,oz,by unfold mkQ Q4.zero;simp,IntV.nil,IntV.nil,IntV.nil,IntV.nil,LimR.nil,hK⟩
theorem lQ {xb0:Bool}{xA0:Option Addr}{xn0 xc0:Nat}{xb1:Bool}{xA1:Option Addr}{xn1 xc1:Nat}{xb2:Bool}{xA2:Option Addr}{xn2 xc2:Nat}{xb3:Bool}{xA3:Option Addr}{xn3 xc3:Nat}{yb0:Bool}{yA0:Option Addr}{yn0 yc0:Nat}{yb1:Bool}{yA1:Option Addr}{yn1 yc1:Nat}{yb2:Bool}{yA2:Option Addr}{yn2 yc2:Nat}{yb3:Bool}{yA3:Option Addr}{yn3 yc3:Nat}{x0 x1 x2 x3 y0 y1 y2 y3:Int}(i0:IntV k #[.bool xb0,.slice xA0 xn0 xc0] x0 K) (i1:IntV k #[.bool xb1,.slice xA1 xn1 xc1] x1 K) (i2:IntV k #[.bool xb2,.slice xA2 xn2 xc2] x2 K) (i3:IntV k #[.bool xb3,.slice xA3 xn3 xc3] x3 K) (j0:IntV k #[.bool yb0,.slice yA0 yn0 yc0] y0 K) (j1:IntV k #[.bool yb1,.slice yA1 yn1 yc1] y1 K) (j2:IntV k #[.bool yb2,.slice yA2 yn2 yc2] y2 K) (j3:IntV k #[.bool yb3,.slice yA3 yn3 yc3] y3 K) (hK:K≤268435456)
 (C:∀k' b0 A0 l0 g0 b1 A1 l1 g1 b2 A2 l2 g2 b3 A3 l3 g3 (p0 p1 p2 p3:Int),Up k k'→e4 p0 p1 p2 p3=e4 x0 x1 x2 x3*e4 y0 y1 y2 y3→IntV k' #[.bool b0,.slice A0 l0 g0] p0 (2*K+4)→IntV k' #[.bool b1,.slice A1 l1 g1] p1 (2*K+4)→IntV k' #[.bool b2,.slice A2 l2 g2] p2 (2*K+4)→IntV k' #[.bool b3,.slice A3 l3 g3] p3 (2*K+4)→
   R k' (.agg #[.bool b0,.slice A0 l0 g0,.bool b1,.slice A1 l1 g1,.bool b2,.slice A2 l2 g2,.bool b3,.slice A3 l3 g3])) :
 Cl k 52 #[.agg #[.bool xb0,.slice xA0 xn0 xc0,.bool xb1,.slice xA1 xn1 xc1,.bool xb2,.slice xA2 xn2 xc2,.bool xb3,.slice xA3 xn3 xc3],.agg #[.bool yb0,.slice yA0 yn0 yc0,.bool yb1,.slice yA1 yn1 yc1,.bool yb2,.slice yA2 yn2 yc2,.bool yb3,.slice yA3 yn3 yc3]] R:=by
 have h:=dE (R:=R) i0 i1 i2 i3 j0 j1 j2 j3 hK fun k' d0 d1 d2 d3 u z0 z1 z2 z3=>by
  obtain⟨b0,A0,l0,g0,rfl,z0⟩:=z0.dest;obtain⟨b1,A1,l1,g1,rfl,z1⟩:=z1.dest;obtain⟨b2,A2,l2,g2,rfl,z2⟩:=z2.dest;obtain⟨b3,A3,l3,g3,rfl,z3⟩:=z3.dest;exact C k' b0 A0 l0 g0 b1 A1 l1 g1 b2 A2 l2 g2 b3 A3 l3 g3 _ _ _ _ u (aZj x0 x1 x2 x3 y0 y1 y2 y3) z0 z1 z2 z3
 exact h
theorem aQt {xb0:Bool}{xA0:Option Addr}{xn0 xc0:Nat}{xb1:Bool}{xA1:Option Addr}{xn1 xc1:Nat}{xb2:Bool}{xA2:Option Addr}{xn2 xc2:Nat}{xb3:Bool}{xA3:Option Addr}{xn3 xc3:Nat}  {x0 x1 x2 x3:Int}{A:Option Addr}{n c m:Nat}(i0:IntV k #[.bool xb0,.slice xA0 xn0 xc0] x0 K) (i1:IntV k #[.bool xb1,.slice xA1 xn1 xc1] x1 K) (i2:IntV k #[.bool xb2,.slice xA2 xn2 xc2] x2 K) (i3:IntV k #[.bool xb3,.slice xA3 xn3 xc3] x3 K)  (hm:LimR k A n c m) (hm0:0<m) (hn:n≤K) (hK:K≤1073741824)
 (C:∀k' ds,Up k k'→SurdV k' ds (mkQ x0 x1 x2 x3 m) K→R k' (.agg ds)) :
 Cl k 51 #[.agg #[.bool xb0,.slice xA0 xn0 xc0,.bool xb1,.slice xA1 xn1 xc1,.bool xb2,.slice xA2 xn2 xc2,.bool xb3,.slice xA3 xn3 xc3],.slice A n c] R:=by
 have h:=aEl (R:=R) i0 i1 i2 i3 hm hm0 hn hK C;exact h
theorem aWt (hx:SurdV k cs v K) (hy:SurdV k cs' v' K) (hK1:1≤K) (hK:K≤33554431)
 (C0:∀k',Up k k'→v'=Q4.zero→R k' (.tuple #[.agg #[.bool false,.slice none 0 0,.bool false,.slice none 0 0,.bool false,.slice none 0 0,.bool false,.slice none 0 0,.slice none 0 0],.int .i64 3]))
 (C:∀k' ds q,Up k k'→SurdV k' ds q ((2*(2*K+4)+4)+K)→q.toQ*v'.toQ=v.toQ→R k' (.tuple #[.agg ds,.int .i64 0])) :
 Cl k 159 #[.agg cs,.agg cs'] R:=by
 intro k0 u0;obtain⟨_,_,_,_,D,d,e,x0,x1,x2,x3,m,rfl,hm,hg,rfl,i0,i1,i2,i3,lx,hd⟩:=hx.up u0;have hy':=hy.up u0;obtain⟨_,_,_,_,D',d',e',y0,y1,y2,y3,n,rfl,hn,hg',rfl,j0,j1,j2,j3,ly,hd'⟩:=hy';obtain⟨bx0,Ax0,nx0,cx0,rfl,i0⟩:=i0.dest;obtain⟨by0,Ay0,ny0,cy0,rfl,j0⟩:=j0.dest;obtain⟨bx1,Ax1,nx1,cx1,rfl,i1⟩:=i1.dest;obtain⟨by1,Ay1,ny1,cy1,rfl,j1⟩:=j1.dest;obtain⟨bx2,Ax2,nx2,cx2,rfl,i2⟩:=i2.dest;obtain⟨by2,Ay2,ny2,cy2,rfl,j2⟩:=j2.dest;obtain⟨bx3,Ax3,nx3,cx3,rfl,i3⟩:=i3.dest;obtain⟨by3,Ay3,ny3,cy3,rfl,j3⟩:=j3.dest;replace hy:=hy.up u0;replace C0:=fun k' u=>C0 k' (u0.trans u);replace C:=fun k' ds q u=>C k' ds q (u0.trans u);refine zA ?_;refine wP hy oq ?_;intro k1 u1 b hb;refine⟨b,rfl,fun hbt=>?_,fun hbf=>?_⟩
 ·intro k2 u2;exact C0 k2 (u1.trans u2) (hb.1 hbt)
 have hyz:mkQ y0 y1 y2 y3 n≠Q4.zero:=fun h=>by rw [hb.2 h]at hbf;cases hbf
 clear hy C0 hb;replace i0:=i0.up u1;replace i1:=i1.up u1;replace i2:=i2.up u1;replace i3:=i3.up u1;replace lx:=lx.up u1;replace j0:=j0.up u1;replace j1:=j1.up u1;replace j2:=j2.up u1;replace j3:=j3.up u1;replace ly:=ly.up u1;replace C:=fun k' ds q u=>C k' ds q (u1.trans u);refine dV j2 oq ?_;intro k2 csm2 u2 m2;obtain⟨bm2,Am2,nm2,cm2,rfl,m2⟩:=m2.dest;refine⟨bm2,Am2,nm2,cm2,rfl,?_⟩;replace i0:=i0.up u2;replace i1:=i1.up u2;replace i2:=i2.up u2;replace i3:=i3.up u2;replace lx:=lx.up u2;replace j0:=j0.up u2;replace j1:=j1.up u2;replace j2:=j2.up u2;replace j3:=j3.up u2;replace ly:=ly.up u2;replace C:=fun k' ds q u=>C k' ds q (u2.trans u);refine dV j3 oq ?_;intro k3 csm3 u3 m3;obtain⟨bm3,Am3,nm3,cm3,rfl,m3⟩:=m3.dest;refine⟨bm3,Am3,nm3,cm3,rfl,?_⟩;replace i0:=i0.up u3;replace i1:=i1.up u3;replace i2:=i2.up u3;replace i3:=i3.up u3;replace lx:=lx.up u3;replace j0:=j0.up u3;replace j1:=j1.up u3;replace j2:=j2.up u3;replace j3:=j3.up u3;replace ly:=ly.up u3;replace m2:=m2.up u3;replace C:=fun k' ds q u=>C k' ds q (u3.trans u);refine lQ (K:=K) j0 j1 j2 j3 j0 j1 m2 m3 oq ?_;intro k4 bp0 Ap0 np0 cp0 bp1 Ap1 np1 cp1 bp2 Ap2 np2 cp2 bp3 Ap3 np3 cp3 p0 p1 p2 p3 u4 hp zp0 zp1 zp2 zp3;refine⟨bp0,Ap0,np0,cp0,bp1,Ap1,np1,cp1,bp2,Ap2,np2,cp2,bp3,Ap3,np3,cp3,rfl,?_⟩;replace i0:=i0.up u4;replace i1:=i1.up u4;replace i2:=i2.up u4;replace i3:=i3.up u4;replace lx:=lx.up u4;replace j0:=j0.up u4;replace j1:=j1.up u4;replace ly:=ly.up u4;replace m2:=m2.up u4;replace m3:=m3.up u4;replace C:=fun k' ds q u=>C k' ds q (u4.trans u);refine dV zp1 oq ?_;intro k5 cso1 u5 o1;obtain⟨bo1,Ao1,no1,co1,rfl,o1⟩:=o1.dest;refine⟨bo1,Ao1,no1,co1,rfl,?_⟩;replace i0:=i0.up u5;replace i1:=i1.up u5;replace i2:=i2.up u5;replace i3:=i3.up u5;replace lx:=lx.up u5;replace j0:=j0.up u5;replace j1:=j1.up u5;replace ly:=ly.up u5;replace m2:=m2.up u5;replace m3:=m3.up u5;replace zp0:=zp0.up u5;replace zp1:=zp1.up u5;replace zp2:=zp2.up u5;replace zp3:=zp3.up u5;replace C:=fun k' ds q u=>C k' ds q (u5.trans u);refine lQ (K:=K) i0 i1 i2 i3 j0 j1 m2 m3 oq ?_;intro k6 bt0 At0 nt0 ct0 bt1 At1 nt1 ct1 bt2 At2 nt2 ct2 bt3 At3 nt3 ct3 t0 t1 t2 t3 u6 ht zt0 zt1 zt2 zt3;refine⟨bt0,At0,nt0,ct0,bt1,At1,nt1,ct1,bt2,At2,nt2,ct2,bt3,At3,nt3,ct3,rfl,?_⟩;replace lx:=lx.up u6;replace ly:=ly.up u6;replace zp0:=zp0.up u6;replace zp1:=zp1.up u6;replace zp2:=zp2.up u6;replace zp3:=zp3.up u6;replace o1:=o1.up u6;replace C:=fun k' ds q u=>C k' ds q (u6.trans u);refine lQ (K:=2*K+4) zt0 zt1 zt2 zt3 zp0 o1 IntV.nil IntV.nil oq ?_;intro k7 bs0 As0 ns0 cs0 bs1 As1 ns1 cs1 bs2 As2 ns2 cs2 bs3 As3 ns3 cs3 s0 s1 s2 s3 u7 hs zs0 zs1 zs2 zs3;refine⟨bs0,As0,ns0,cs0,bs1,As1,ns1,cs1,bs2,As2,ns2,cs2,bs3,As3,ns3,cs3,rfl,?_⟩;replace lx:=lx.up u7;replace ly:=ly.up u7;replace zp0:=zp0.up u7;replace zp1:=zp1.up u7;replace zp2:=zp2.up u7;replace zp3:=zp3.up u7;replace o1:=o1.up u7;replace C:=fun k' ds q u=>C k' ds q (u7.trans u);refine lQ (K:=2*K+4) zp0 zp1 zp2 zp3 zp0 o1 IntV.nil IntV.nil oq ?_
 intro k8 bw0 Aw0 nw0 cw0 bw1 Aw1 nw1 cw1 bw2 Aw2 nw2 cw2 bw3 Aw3 nw3 cw3 w0 w1 w2 w3 u8 hw zw0 zw1 zw2 zw3;refine⟨bw0,Aw0,nw0,cw0,bw1,Aw1,nw1,cw1,bw2,Aw2,nw2,cw2,bw3,Aw3,nw3,cw3,rfl,?_⟩;replace lx:=lx.up u8;replace ly:=ly.up u8;replace zs0:=zs0.up u8;replace zs1:=zs1.up u8;replace zs2:=zs2.up u8;replace zs3:=zs3.up u8;replace C:=fun k' ds q u=>C k' ds q (u8.trans u);obtain⟨hw0,hneg,hpos⟩:=aTg hm hn hp ht hs hw hyz;clear hp ht hs hw hyz zp0 zp1 zp2 zp3 zt0 zt1 zt2 zt3 m2 m3 o1 zw1 zw2 zw3 i0 i1 i2 i3 j0 j1 j2 j3;obtain⟨_,_,_,_,ecs,iw,lw⟩:=zw0;injection ecs with ecs;injection ecs with e1 e2;injection e1 with e1;injection e2 with e2 _;injection e2 with e2 e3 e4;subst e1 e2 e3 e4;have hnegw:=iw.neg;have lw':=iw.lim;refine bR ly hn (L:=K) hd' hK1 oq ?_;intro k9 Aq0 nq0 cq0 u9 q0 hq0;refine⟨Aq0,nq0,cq0,rfl,?_⟩;replace lx:=lx.up u9;replace ly:=ly.up u9;replace zs0:=zs0.up u9;replace zs1:=zs1.up u9;replace zs2:=zs2.up u9;replace zs3:=zs3.up u9;replace lw':=lw'.up u9;replace C:=fun k' ds q u=>C k' ds q (u9.trans u);refine cT zs0 q0 (K:=(2*(2*K+4)+4)) (L:=K) oq hq0 oq ?_;intro k10 csf0 u10 f0;obtain⟨bf0,Af0,nf0,cf0,rfl,f0⟩:=f0.dest;refine⟨bf0,Af0,nf0,cf0,rfl,?_⟩;replace lx:=lx.up u10;replace ly:=ly.up u10;replace zs1:=zs1.up u10;replace zs2:=zs2.up u10;replace zs3:=zs3.up u10;replace lw':=lw'.up u10;replace C:=fun k' ds q u=>C k' ds q (u10.trans u);refine⟨fun hbb=>?_,fun hbb=>?_⟩
 ·refine dV f0 oq ?_;intro k11 csg0 u11 g0;obtain⟨bg0,Ag0,ng0,cg0,rfl,g0⟩:=g0.dest;refine⟨bg0,Ag0,ng0,cg0,rfl,?_⟩;replace lx:=lx.up u11;replace ly:=ly.up u11;replace zs1:=zs1.up u11;replace zs2:=zs2.up u11;replace zs3:=zs3.up u11;replace lw':=lw'.up u11;replace f0:=f0.up u11;replace C:=fun k' ds q u=>C k' ds q (u11.trans u);refine bR ly hn (L:=K) hd' hK1 oq ?_;intro k12 Aq1 nq1 cq1 u12 q1 hq1;refine⟨Aq1,nq1,cq1,rfl,?_⟩;replace lx:=lx.up u12;replace ly:=ly.up u12;replace zs1:=zs1.up u12;replace zs2:=zs2.up u12;replace zs3:=zs3.up u12;replace lw':=lw'.up u12;replace f0:=f0.up u12;replace g0:=g0.up u12;replace C:=fun k' ds q u=>C k' ds q (u12.trans u);refine cT zs1 q1 (K:=(2*(2*K+4)+4)) (L:=K) oq hq1 oq ?_;intro k13 csf1 u13 f1;obtain⟨bf1,Af1,nf1,cf1,rfl,f1⟩:=f1.dest;refine⟨bf1,Af1,nf1,cf1,rfl,?_⟩;replace lx:=lx.up u13;replace ly:=ly.up u13;replace zs1:=zs1.up u13;replace zs2:=zs2.up u13;replace zs3:=zs3.up u13;replace lw':=lw'.up u13;replace f0:=f0.up u13;replace g0:=g0.up u13;replace q1:=q1.up u13;replace C:=fun k' ds q u=>C k' ds q (u13.trans u);refine dV f1 oq ?_;intro k14 csg1 u14 g1;obtain⟨bg1,Ag1,ng1,cg1,rfl,g1⟩:=g1.dest;refine⟨bg1,Ag1,ng1,cg1,rfl,?_⟩;replace lx:=lx.up u14;replace ly:=ly.up u14;replace zs1:=zs1.up u14;replace zs2:=zs2.up u14;replace zs3:=zs3.up u14;replace lw':=lw'.up u14;replace f0:=f0.up u14;replace g0:=g0.up u14;replace q1:=q1.up u14;replace f1:=f1.up u14;replace C:=fun k' ds q u=>C k' ds q (u14.trans u);refine bR ly hn (L:=K) hd' hK1 oq ?_;intro k15 Aq2 nq2 cq2 u15 q2 hq2;refine⟨Aq2,nq2,cq2,rfl,?_⟩;replace lx:=lx.up u15;replace ly:=ly.up u15;replace zs1:=zs1.up u15;replace zs2:=zs2.up u15;replace zs3:=zs3.up u15;replace lw':=lw'.up u15;replace f0:=f0.up u15;replace g0:=g0.up u15;replace q1:=q1.up u15;replace f1:=f1.up u15;replace g1:=g1.up u15;replace C:=fun k' ds q u=>C k' ds q (u15.trans u);refine cT zs2 q2 (K:=(2*(2*K+4)+4)) (L:=K) oq hq2 oq ?_;intro k16 csf2 u16 f2;obtain⟨bf2,Af2,nf2,cf2,rfl,f2⟩:=f2.dest;refine⟨bf2,Af2,nf2,cf2,rfl,?_⟩;replace lx:=lx.up u16;replace ly:=ly.up u16;replace zs1:=zs1.up u16;replace zs2:=zs2.up u16;replace zs3:=zs3.up u16;replace lw':=lw'.up u16;replace f0:=f0.up u16;replace g0:=g0.up u16;replace q1:=q1.up u16;replace f1:=f1.up u16;replace g1:=g1.up u16;replace q2:=q2.up u16;replace C:=fun k' ds q u=>C k' ds q (u16.trans u);refine dV f2 oq ?_;intro k17 csg2 u17 g2;obtain⟨bg2,Ag2,ng2,cg2,rfl,g2⟩:=g2.dest;refine⟨bg2,Ag2,ng2,cg2,rfl,?_⟩;replace lx:=lx.up u17;replace ly:=ly.up u17;replace zs1:=zs1.up u17;replace zs2:=zs2.up u17;replace zs3:=zs3.up u17;replace lw':=lw'.up u17;replace f0:=f0.up u17;replace g0:=g0.up u17;replace q1:=q1.up u17;replace f1:=f1.up u17;replace g1:=g1.up u17;replace q2:=q2.up u17;replace f2:=f2.up u17;replace C:=fun k' ds q u=>C k' ds q (u17.trans u);refine bR ly hn (L:=K) hd' hK1 oq ?_;intro k18 Aq3 nq3 cq3 u18 q3 hq3;refine⟨Aq3,nq3,cq3,rfl,?_⟩;replace lx:=lx.up u18
  replace ly:=ly.up u18;replace zs1:=zs1.up u18;replace zs2:=zs2.up u18;replace zs3:=zs3.up u18;replace lw':=lw'.up u18;replace f0:=f0.up u18;replace g0:=g0.up u18;replace q1:=q1.up u18;replace f1:=f1.up u18;replace g1:=g1.up u18;replace q2:=q2.up u18;replace f2:=f2.up u18;replace g2:=g2.up u18;replace C:=fun k' ds q u=>C k' ds q (u18.trans u);refine cT zs3 q3 (K:=(2*(2*K+4)+4)) (L:=K) oq hq3 oq ?_;intro k19 csf3 u19 f3;obtain⟨bf3,Af3,nf3,cf3,rfl,f3⟩:=f3.dest;refine⟨bf3,Af3,nf3,cf3,rfl,?_⟩;replace lx:=lx.up u19;replace ly:=ly.up u19;replace zs1:=zs1.up u19;replace zs2:=zs2.up u19;replace zs3:=zs3.up u19;replace lw':=lw'.up u19;replace f0:=f0.up u19;replace g0:=g0.up u19;replace q1:=q1.up u19;replace f1:=f1.up u19;replace g1:=g1.up u19;replace q2:=q2.up u19;replace f2:=f2.up u19;replace g2:=g2.up u19;replace q3:=q3.up u19;replace C:=fun k' ds q u=>C k' ds q (u19.trans u);refine dV f3 oq ?_;intro k20 csg3 u20 g3;obtain⟨bg3,Ag3,ng3,cg3,rfl,g3⟩:=g3.dest;refine⟨bg3,Ag3,ng3,cg3,rfl,?_⟩;replace lx:=lx.up u20;replace ly:=ly.up u20;replace zs1:=zs1.up u20;replace zs2:=zs2.up u20;replace zs3:=zs3.up u20;replace lw':=lw'.up u20;replace f0:=f0.up u20;replace g0:=g0.up u20;replace q1:=q1.up u20;replace f1:=f1.up u20;replace g1:=g1.up u20;replace q2:=q2.up u20;replace f2:=f2.up u20;replace g2:=g2.up u20;replace q3:=q3.up u20;replace f3:=f3.up u20;replace C:=fun k' ds q u=>C k' ds q (u20.trans u);refine bR lx hm (L:=K) hd hK1 oq ?_;intro k21 Aqx nqx cqx u21 qx hqx;refine⟨Aqx,nqx,cqx,rfl,?_⟩;replace lx:=lx.up u21;replace ly:=ly.up u21;replace zs1:=zs1.up u21;replace zs2:=zs2.up u21;replace zs3:=zs3.up u21;replace lw':=lw'.up u21;replace f0:=f0.up u21;replace g0:=g0.up u21;replace q1:=q1.up u21;replace f1:=f1.up u21;replace g1:=g1.up u21;replace q2:=q2.up u21;replace f2:=f2.up u21;replace g2:=g2.up u21;replace q3:=q3.up u21;replace f3:=f3.up u21;replace g3:=g3.up u21;replace C:=fun k' ds q u=>C k' ds q (u21.trans u);refine sF qx lw' oq oq ?_;intro k22 Aqm nqm cqm u22 qm hqm;refine⟨Aqm,nqm,cqm,rfl,?_⟩;replace lx:=lx.up u22;replace ly:=ly.up u22;replace zs1:=zs1.up u22;replace zs2:=zs2.up u22;replace zs3:=zs3.up u22;replace lw':=lw'.up u22;replace f0:=f0.up u22;replace g0:=g0.up u22;replace q1:=q1.up u22;replace f1:=f1.up u22;replace g1:=g1.up u22;replace q2:=q2.up u22;replace f2:=f2.up u22;replace g2:=g2.up u22;replace q3:=q3.up u22;replace f3:=f3.up u22;replace g3:=g3.up u22;replace qx:=qx.up u22;replace C:=fun k' ds q u=>C k' ds q (u22.trans u);refine aQt (K:=((2*(2*K+4)+4)+K)) g0 g1 g2 g3 qm (zg hm (Int.natAbs_pos.2 hw0)) oq oq ?_;intro k23 ds u23 hs;obtain⟨rb0,rA0,rn0,rc0,rb1,rA1,rn1,rc1,rb2,rA2,rn2,rc2,rb3,rA3,rn3,rc3,rD,rd,re,rfl⟩:=hs.flat;refine⟨rb0,rA0,rn0,rc0,rb1,rA1,rn1,rc1,rb2,rA2,rn2,rc2,rb3,rA3,rn3,rc3,rD,rd,re,rfl,?_⟩;intro k24 u24;have hsign:True:=trivial;exact C _ _ _ (u23.trans u24) (hs.up u24) (hneg (by simpa [hbb] using hnegw.symm))
 ·refine bR ly hn (L:=K) hd' hK1 oq ?_;intro k11 Aq1 nq1 cq1 u11 q1 hq1;refine⟨Aq1,nq1,cq1,rfl,?_⟩;replace lx:=lx.up u11;replace ly:=ly.up u11;replace zs1:=zs1.up u11;replace zs2:=zs2.up u11;replace zs3:=zs3.up u11;replace lw':=lw'.up u11;replace f0:=f0.up u11;replace C:=fun k' ds q u=>C k' ds q (u11.trans u);refine cT zs1 q1 (K:=(2*(2*K+4)+4)) (L:=K) oq hq1 oq ?_;intro k12 csf1 u12 f1;obtain⟨bf1,Af1,nf1,cf1,rfl,f1⟩:=f1.dest;refine⟨bf1,Af1,nf1,cf1,rfl,?_⟩;replace lx:=lx.up u12;replace ly:=ly.up u12;replace zs2:=zs2.up u12;replace zs3:=zs3.up u12;replace lw':=lw'.up u12;replace f0:=f0.up u12;replace C:=fun k' ds q u=>C k' ds q (u12.trans u);refine bR ly hn (L:=K) hd' hK1 oq ?_;intro k13 Aq2 nq2 cq2 u13 q2 hq2;refine⟨Aq2,nq2,cq2,rfl,?_⟩;replace lx:=lx.up u13;replace ly:=ly.up u13;replace zs2:=zs2.up u13;replace zs3:=zs3.up u13;replace lw':=lw'.up u13;replace f0:=f0.up u13;replace f1:=f1.up u13;replace C:=fun k' ds q u=>C k' ds q (u13.trans u);refine cT zs2 q2 (K:=(2*(2*K+4)+4)) (L:=K) oq hq2 oq ?_;intro k14 csf2 u14 f2;obtain⟨bf2,Af2,nf2,cf2,rfl,f2⟩:=f2.dest;refine⟨bf2,Af2,nf2,cf2,rfl,?_⟩;replace lx:=lx.up u14;replace ly:=ly.up u14;replace zs3:=zs3.up u14;replace lw':=lw'.up u14;replace f0:=f0.up u14;replace f1:=f1.up u14;replace C:=fun k' ds q u=>C k' ds q (u14.trans u);refine bR ly hn (L:=K) hd' hK1 oq ?_;intro k15 Aq3 nq3 cq3 u15 q3 hq3;refine⟨Aq3,nq3,cq3,rfl,?_⟩;replace lx:=lx.up u15;replace zs3:=zs3.up u15;replace lw':=lw'.up u15;replace f0:=f0.up u15;replace f1:=f1.up u15;replace f2:=f2.up u15;replace C:=fun k' ds q u=>C k' ds q (u15.trans u);refine cT zs3 q3 (K:=(2*(2*K+4)+4)) (L:=K) oq hq3 oq ?_;intro k16 csf3 u16 f3;obtain⟨bf3,Af3,nf3,cf3,rfl,f3⟩:=f3.dest;refine⟨bf3,Af3,nf3,cf3,rfl,?_⟩;replace lx:=lx.up u16;replace lw':=lw'.up u16;replace f0:=f0.up u16;replace f1:=f1.up u16;replace f2:=f2.up u16;replace C:=fun k' ds q u=>C k' ds q (u16.trans u);refine bR lx hm (L:=K) hd hK1 oq ?_;intro k17 Aqx nqx cqx u17 qx hqx;refine⟨Aqx,nqx,cqx,rfl,?_⟩;replace lw':=lw'.up u17;replace f0:=f0.up u17;replace f1:=f1.up u17;replace f2:=f2.up u17;replace f3:=f3.up u17;replace C:=fun k' ds q u=>C k' ds q (u17.trans u);refine sF qx lw' oq oq ?_;intro k18 Aqm nqm cqm u18 qm hqm;refine⟨Aqm,nqm,cqm,rfl,?_⟩;replace f0:=f0.up u18;replace f1:=f1.up u18;replace f2:=f2.up u18;replace f3:=f3.up u18;replace C:=fun k' ds q u=>C k' ds q (u18.trans u);refine aQt (K:=((2*(2*K+4)+4)+K)) f0 f1 f2 f3 qm (zg hm (Int.natAbs_pos.2 hw0)) oq oq ?_;intro k19 ds u19 hs;obtain⟨rb0,rA0,rn0,rc0,rb1,rA1,rn1,rc1,rb2,rA2,rn2,rc2,rb3,rA3,rn3,rc3,rD,rd,re,rfl⟩:=hs.flat;refine⟨rb0,rA0,rn0,rc0,rb1,rA1,rn1,rc1,rb2,rA2,rn2,rc2,rb3,rA3,rn3,rc3,rD,rd,re,rfl,?_⟩;intro k20 u20;have hsign:True:=trivial;exact C _ _ _ (u19.trans u20) (hs.up u20) (hpos (by simpa [hbb] using hnegw.symm))
end
