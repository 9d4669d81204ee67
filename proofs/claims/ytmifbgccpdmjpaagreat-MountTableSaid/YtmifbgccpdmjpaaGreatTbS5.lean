/- Several texts in one. (Printed by prep.py.) -/
import Derived.Test.YtmifbgccpdmjpaaGreatTbG
namespace Go.Proofs.YtmifbgccpdmjpaaGreat
open Go.RowKit Num
open Sy (Up Sees CallsG Seg)
structure Q4 where
 (a b c d:Rat)
theorem Q4.ext' {x y:Q4}(h1:x.a=y.a) (h2:x.b=y.b) (h3:x.c=y.c) (h4:x.d=y.d):x=y:=by cases x;cases y;simp_all
def mkQ (x0 x1 x2 x3:Int) (m:Nat):Q4:=⟨mkRat x0 m,mkRat x1 m,mkRat x2 m,mkRat x3 m⟩
def gcd5 (m a b c d:Nat):Nat:=Nat.gcd (Nat.gcd (Nat.gcd (Nat.gcd m a) b) c) d
def mk9 (c0 c1 c2 c3:Array Value) (s:Value):Array Value:=(c0.toList++(c1.toList++(c2.toList++(c3.toList++(s :: []))))).toArray
def SurdV (k:World) (cs:Array Value) (v:Q4) (K:Nat):Prop:=
 ∃(c0 c1 c2 c3:Array Value) (D:Option Addr) (d e:Nat) (y0 y1 y2 y3:Int) (m:Nat),cs=mk9 c0 c1 c2 c3 (.slice D d e)∧0<m∧gcd5 m y0.natAbs y1.natAbs y2.natAbs y3.natAbs=1∧v=mkQ y0 y1 y2 y3 m∧
  IntV k c0 y0 K∧IntV k c1 y1 K∧IntV k c2 y2 K∧IntV k c3 y3 K∧LimR k D d e (if m=1 then 0 else m)∧d≤K
theorem SurdV.up {k k':World}{cs:Array Value}{v:Q4}{K:Nat}(h:SurdV k cs v K) (u:Up k k'):SurdV k' cs v K:=by
 obtain⟨c0,c1,c2,c3,D,d,e,y0,y1,y2,y3,m,h1,h2,h3,h4,i0,i1,i2,i3,l,hd⟩:=h;exact⟨c0,c1,c2,c3,D,d,e,y0,y1,y2,y3,m,h1,h2,h3,h4,i0.up u,i1.up u,i2.up u,i3.up u,l.up u,hd⟩
theorem SurdV.mono {k:World}{cs:Array Value}{v:Q4}{K L:Nat}(h:SurdV k cs v K) (u:K≤L):SurdV k cs v L:=by
 obtain⟨c0,c1,c2,c3,D,d,e,y0,y1,y2,y3,m,h1,h2,h3,h4,i0,i1,i2,i3,l,hd⟩:=h;exact⟨c0,c1,c2,c3,D,d,e,y0,y1,y2,y3,m,h1,h2,h3,h4,i0.mono u,i1.mono u,i2.mono u,i3.mono u,l,oq⟩
theorem SurdV.seg {k:World}{cs:Array Value}{v:Q4}{K:Nat}(h:SurdV k cs v K):Seg 9 cs:=by
 obtain⟨c0,c1,c2,c3,D,d,e,y0,y1,y2,y3,m,rfl,h2,h3,h4,⟨_,_,_,_,rfl,_⟩,⟨_,_,_,_,rfl,_⟩,⟨_,_,_,_,rfl,_⟩,⟨_,_,_,_,rfl,_⟩,l,hd⟩:=h;exact⟨rfl,by simp [mk9,Value.scalar,Value.noWord]⟩
theorem LimR.len_le {k k':World}{A A':Option Addr}{n n' c c' a b:Nat}(h:LimR k A n c a) (h':LimR k' A' n' c' b) (hab:a≤b):n≤n':=by
 rw [h.len,h'.len];exact bC hab
theorem IntR.div {k:World}{b:Bool}{A B:Option Addr}{n c j d:Nat}{x:Int}{g:Nat}(h:IntR k b A n c x) (hl:LimR k B j d (x.natAbs/g)) (hg:(g:Int) ∣ x) (h0:0<g):IntR k b B j d (x/g):=by
 obtain⟨q,rfl⟩:=hg;have hg0:(g:Int)≠0:=oq
 have e:((g:Int)*q) / g=q:=Int.mul_ediv_cancel_left q hg0;have e2:((g:Int)*q).natAbs/g=q.natAbs:=by rw [Int.natAbs_mul,Int.natAbs_natCast,Nat.mul_div_cancel_left _ h0]
 rw [e];rw [e2]at hl;refine⟨?_,hl⟩;rw [h.neg];rw [decide_eq_decide];constructor
 ·intro hh;rcases Int.lt_or_le q 0 with h1|h1
  ·exact h1
  ·have:=Int.mul_nonneg (show (0:Int)≤g by omega) h1;omega
 ·intro hh;exact Int.mul_neg_of_pos_of_neg oq hh
theorem lO {x:Int}{m g:Nat}(hx:(g:Int) ∣ x) (hm:g ∣ m) (h0:0<g) (hm0:0<m):mkRat (x/g) (m/g)=mkRat x m:=by
 obtain⟨q,rfl⟩:=hx;obtain⟨p,rfl⟩:=hm;have hg0:(g:Int)≠0:=oq
 rw [Int.mul_ediv_cancel_left q hg0,Nat.mul_div_cancel_left _ h0];exact (Rat.mkRat_mul_left oq).symm
theorem zZ (m a b c d:Nat):gcd5 m a b c d ∣ m∧gcd5 m a b c d ∣ a∧gcd5 m a b c d ∣ b∧gcd5 m a b c d ∣ c∧gcd5 m a b c d ∣ d:=by
 unfold gcd5;have h1:=kw (Nat.gcd (Nat.gcd (Nat.gcd m a) b) c) d;have h2:=kw (Nat.gcd (Nat.gcd m a) b) c;have h3:=kw (Nat.gcd m a) b;have t12:=ye h1 h2;have t13:=ye t12 h3;exact⟨ye t13 (kw _ _),ye t13 (wk _ _),ye t12 (wk _ _),ye h1 (wk _ _),wk _ _⟩
theorem aMb {m a b c d g:Nat}(hg:g=gcd5 m a b c d) (h0:0<g):gcd5 (m/g) (a/g) (b/g) (c/g) (d/g)=1:=by
 obtain⟨d1,d2,d3,d4,d5⟩:=zZ m a b c d;rw [←hg]at d1 d2 d3 d4 d5;unfold gcd5 at hg ⊢;have e1:Nat.gcd (m/g) (a/g)=Nat.gcd m a/g:=Nat.gcd_div d1 d2;have k1:g ∣ Nat.gcd m a:=Nat.dvd_gcd d1 d2;have e2:Nat.gcd (Nat.gcd m a/g) (b/g)=Nat.gcd (Nat.gcd m a) b/g:=Nat.gcd_div k1 d3;have k2:g ∣ Nat.gcd (Nat.gcd m a) b:=Nat.dvd_gcd k1 d3;have e3:Nat.gcd (Nat.gcd (Nat.gcd m a) b/g) (c/g)=Nat.gcd (Nat.gcd (Nat.gcd m a) b) c/g:=Nat.gcd_div k2 d4;have k3:g ∣ Nat.gcd (Nat.gcd (Nat.gcd m a) b) c:=Nat.dvd_gcd k2 d4;rw [e1,e2,e3,Nat.gcd_div k3 d5,←hg,Nat.div_self h0]
theorem iE {x:Int}{g:Nat}(h:g ∣ x.natAbs) (_h0:0<g):(x/g).natAbs=x.natAbs/g:=by
 rw [Int.natAbs_ediv_of_dvd (by rw [vz];exact h),Int.natAbs_natCast]
theorem aUg {x0 x1 x2 x3:Int}{m g:Nat}(h0:0<g) (hm0:0<m) (dm:g ∣ m) (d0:g ∣ x0.natAbs) (d1:g ∣ x1.natAbs) (d2:g ∣ x2.natAbs) (d3:g ∣ x3.natAbs):mkQ (x0/g) (x1/g) (x2/g) (x3/g) (m/g)=mkQ x0 x1 x2 x3 m:=by
 unfold mkQ;rw [lO (vz.2 d0) dm h0 hm0,lO (vz.2 d1) dm h0 hm0,lO (vz.2 d2) dm h0 hm0,lO (vz.2 d3) dm h0 hm0]
section
variable {k:World}{R:World→Value→Prop}{K:Nat}
theorem aEi {c0 c1 c2 c3:Array Value}{x0 x1 x2 x3:Int}{A:Option Addr}{n c m:Nat}(h0:IntV k c0 x0 K) (h1:IntV k c1 x1 K) (h2:IntV k c2 x2 K) (h3:IntV k c3 x3 K) (hm:LimR k A n c m) (hm0:0<m) (hn:n≤K) (hK:K≤1073741824)
 (C:∀k' ds,Up k k'→SurdV k' ds (mkQ x0 x1 x2 x3 m) K→R k' (.agg ds)) :
 Cl k 182 #[.agg (c0.toList++(c1.toList++(c2.toList++(c3.toList++([]))))).toArray,.slice A n c] R:=by
 intro k0 u0;replace C:=fun k' ds (u:Up k0 k')=>C k' ds (u0.trans u);replace hm:=hm.up u0;obtain⟨b0,A0,n0,e0,rfl,i0,l0⟩:=h0.up u0;obtain⟨b1,A1,n1,e1,rfl,i1,l1⟩:=h1.up u0;obtain⟨b2,A2,n2,e2,rfl,i2,l2⟩:=h2.up u0;obtain⟨b3,A3,n3,e3,rfl,i3,l3⟩:=h3.up u0;clear h0 h1 h2 h3 u0;obtain⟨d0,d1,d2,d3,d4⟩:=zZ m x0.natAbs x1.natAbs x2.natAbs x3.natAbs;have hg0:0<gcd5 m x0.natAbs x1.natAbs x2.natAbs x3.natAbs:=Nat.pos_of_dvd_of_pos d0 hm0;refine aWg ?_;refine aFf hm i0.lim oq oq ?_;intro k1 B1 j1 f1 u1 g1 _;refine⟨B1,j1,f1,rfl,?_⟩;have q1:j1≤n:=g1.len_le hm (Nat.gcd_le_left _ hm0);have p1:0<Nat.gcd m x0.natAbs:=xl _ hm0;refine aFf g1 (i1.up u1).lim oq oq ?_;intro k2 B2 j2 f2 u2 g2 _;refine⟨B2,j2,f2,rfl,?_⟩;have q2:j2≤j1:=g2.len_le g1 (Nat.gcd_le_left _ p1);have p2:0<Nat.gcd (Nat.gcd m x0.natAbs) x1.natAbs:=xl _ p1;have u2:=u1.trans u2;refine aFf g2 (i2.up u2).lim oq oq ?_;intro k3 B3 j3 f3 u3 g3 _;refine⟨B3,j3,f3,rfl,?_⟩;have q3:j3≤j2:=g3.len_le g2 (Nat.gcd_le_left _ p2);have p3:0<Nat.gcd (Nat.gcd (Nat.gcd m x0.natAbs) x1.natAbs) x2.natAbs:=xl _ p2;have u3:=u2.trans u3;refine aFf g3 (i3.up u3).lim oq oq ?_;intro k4 B4 j4 f4 u4 g4 _;refine⟨B4,j4,f4,rfl,?_⟩;have q4:j4≤j3:=g4.len_le g3 (Nat.gcd_le_left _ p3);have u4:=u3.trans u4;have hgdef:gcd5 m x0.natAbs x1.natAbs x2.natAbs x3.natAbs=Nat.gcd (Nat.gcd (Nat.gcd (Nat.gcd m x0.natAbs) x1.natAbs) x2.natAbs) x3.natAbs:=rfl;rw [←hgdef]at g4;have hdiv:=aMb (m:=m) (a:=x0.natAbs) (b:=x1.natAbs) (c:=x2.natAbs) (d:=x3.natAbs) rfl hg0;have hmq:=aUg hg0 hm0 d0 d1 d2 d3 d4;have n0':=iE d1 hg0;have n1':=iE d2 hg0;have n2':=iE d3 hg0;have n3':=iE d4 hg0;obtain⟨G,hG⟩:∃G,gcd5 m x0.natAbs x1.natAbs x2.natAbs x3.natAbs=G:=⟨_,rfl⟩;have hone:=hgdef;rw [hG]at g4 hdiv hmq d0 d1 d2 d3 d4 hg0 n0' n1' n2' n3';clear g1 g2 g3 hone hgdef;refine wW g4 oq ?_;intro k5 u5;refine⟨_,rfl,?_⟩;have u5':=u4.trans u5;refine⟨fun hb=>?_,fun hb=>?_⟩
 ·have hG1:G≠1:=by simpa using hb
  clear hb;refine fC (i0.up u5').lim (g4.up u5) hg0 oq oq ?_;intro k6 D0 m0 o0 E0 s0 t0 u6 w0 _ y0 _;refine⟨D0,m0,o0,E0,s0,t0,rfl,?_⟩;have v6:=u5'.trans u6;refine fC (i1.up v6).lim ((g4.up u5).up u6) hg0 oq oq ?_;intro k7 D1 m1 o1 E1 s1 t1 u7 w1 _ y1 _;refine⟨D1,m1,o1,E1,s1,t1,rfl,?_⟩;have v7:=v6.trans u7;refine fC (i2.up v7).lim (((g4.up u5).up u6).up u7) hg0 oq oq ?_;intro k8 D2 m2 o2 E2 s2 t2 u8 w2 _ y2 _;refine⟨D2,m2,o2,E2,s2,t2,rfl,?_⟩;have v8:=v7.trans u8;refine fC (i3.up v8).lim ((((g4.up u5).up u6).up u7).up u8) hg0 oq oq ?_;intro k9 D3 m3 o3 E3 s3 t3 u9 w3 _ y3 _;refine⟨D3,m3,o3,E3,s3,t3,rfl,?_⟩;have v9:=v8.trans u9;refine fC (hm.up v9) (((((g4.up u5).up u6).up u7).up u8).up u9) hg0 oq oq ?_;intro k10 D4 m4 o4 E4 s4 t4 u10 w4 _ y4 _;refine⟨D4,m4,o4,E4,s4,t4,rfl,?_⟩;have v10:=v9.trans u10;replace w0:=(((w0.up u7).up u8).up u9).up u10;replace w1:=((w1.up u8).up u9).up u10;replace w2:=(w2.up u9).up u10;replace w3:=w3.up u10;refine wW w4 oq ?_;intro k11 u11;refine⟨_,rfl,?_⟩;have v11:=v10.trans u11;have z0:=(i0.up v11).div (w0.up u11) (vz.2 d1) hg0;have z1:=(i1.up v11).div (w1.up u11) (vz.2 d2) hg0;have z2:=(i2.up v11).div (w2.up u11) (vz.2 d3) hg0;have z3:=(i3.up v11).div (w3.up u11) (vz.2 d4) hg0;have hpos:0<m/G:=Nat.div_pos (Nat.le_of_dvd hm0 d0) hg0;refine⟨fun hb=>?_,fun hb=>?_⟩
  ·intro k12 u12;have hm1:m/G=1:=by simpa using hb
   exact C k12 _ (v11.trans u12) ⟨_,_,_,_,none,0,0,x0/G,x1/G,x2/G,x3/G,m/G,rfl,hpos,by rw [n0',n1',n2',n3'];exact hdiv,hmq.symm,
    ⟨_,_,_,_,rfl,z0.up u12,oq⟩,⟨_,_,_,_,rfl,z1.up u12,oq⟩,⟨_,_,_,_,rfl,z2.up u12,oq⟩,⟨_,_,_,_,rfl,z3.up u12,oq⟩,by rw [od hm1];exact LimR.nil,oq⟩
  ·intro k12 u12;have hm1:m/G≠1:=by simpa using hb
   exact C k12 _ (v11.trans u12) ⟨_,_,_,_,D4,m4,o4,x0/G,x1/G,x2/G,x3/G,m/G,rfl,hpos,by rw [n0',n1',n2',n3'];exact hdiv,hmq.symm,
    ⟨_,_,_,_,rfl,z0.up u12,oq⟩,⟨_,_,_,_,rfl,z1.up u12,oq⟩,⟨_,_,_,_,rfl,z2.up u12,oq⟩,⟨_,_,_,_,rfl,z3.up u12,oq⟩,by rw [oh hm1];exact (w4.up u11).up u12,oq⟩
 ·have hG1:G=1:=by simpa using hb
  clear hb;refine wW (hm.up u5') oq ?_;intro k6 u6;refine⟨_,rfl,?_⟩;have v6:=u5'.trans u6;refine⟨fun hb=>?_,fun hb=>?_⟩
  ·intro k7 u7;have v7:=v6.trans u7;have hm1:m=1:=by simpa using hb
   exact C k7 _ v7 ⟨_,_,_,_,none,0,0,x0,x1,x2,x3,m,rfl,hm0,by rw [hG,hG1],rfl,
    ⟨_,_,_,_,rfl,i0.up v7,oq⟩,⟨_,_,_,_,rfl,i1.up v7,oq⟩,⟨_,_,_,_,rfl,i2.up v7,oq⟩,⟨_,_,_,_,rfl,i3.up v7,oq⟩,by rw [od hm1];exact LimR.nil,oq⟩
  ·intro k7 u7;have v7:=v6.trans u7;have hm1:m≠1:=by simpa using hb
   exact C k7 _ v7 ⟨_,_,_,_,A,n,c,x0,x1,x2,x3,m,rfl,hm0,by rw [hG,hG1],rfl,
    ⟨_,_,_,_,rfl,i0.up v7,oq⟩,⟨_,_,_,_,rfl,i1.up v7,oq⟩,⟨_,_,_,_,rfl,i2.up v7,oq⟩,⟨_,_,_,_,rfl,i3.up v7,oq⟩,by rw [oh hm1];exact hm.up v7,oq⟩
end
def Q4.add (x y:Q4):Q4:=⟨x.a+y.a,x.b+y.b,x.c+y.c,x.d+y.d⟩
def Q4.neg (x:Q4):Q4:=⟨-x.a,-x.b,-x.c,-x.d⟩
def Q4.mul (x y:Q4):Q4:=⟨x.a*y.a+2*(x.b*y.b)+3*(x.c*y.c)+6*(x.d*y.d),x.a*y.b+x.b*y.a+3*(x.c*y.d+x.d*y.c),x.a*y.c+x.c*y.a+2*(x.b*y.d+x.d*y.b),x.a*y.d+x.d*y.a+x.b*y.c+x.c*y.b⟩
def Q4.sub (x y:Q4):Q4:=x.add y.neg
def Q4.zero:Q4:=⟨0,0,0,0⟩
def Q4.real (x:Rat):Q4:=⟨x,0,0,0⟩
theorem kS (x:Int) {m:Nat}(_h:0<m):mkRat x m=(x:Rat) / (m:Rat):=by
 rw [wm]
theorem sY {m:Nat}(h:0<m):(m:Rat)≠0:=by
 intro e;have:((m:Nat):Rat)=((0:Nat):Rat):=by rw [e];rfl
 have:=Rat.natCast_inj.1 this;omega
theorem sW (x y:Int) {m n:Nat}(hm:0<m) (hn:0<n):mkRat (x*n+y*m) (m*n)=mkRat x m+mkRat y n:=by
 rw [Rat.mkRat_add_mkRat _ _ oq oq]
theorem sX (x:Int) (m:Nat):mkRat (-x) m=- mkRat x m:=by rw [Rat.neg_mkRat]
theorem aCv (x y:Int) (m n:Nat):mkRat (x*y) (m*n)=mkRat x m*mkRat y n:=by rw [Rat.mkRat_mul_mkRat]
theorem aIf (x y:Int) {m:Nat}(hm:0<m):mkRat (x+y) m=mkRat x m+mkRat y m:=by
 rw [kS _ hm,kS _ hm,kS _ hm,Rat.intCast_add,wz,wz,wz,Rat.add_mul]
theorem qE (x:Int) (c:Nat) {m:Nat}(hm:0<m):mkRat (x*c) m=(c:Rat)*mkRat x m:=by
 rw [kS _ hm,kS _ hm,xr,wz,wz,←Rat.mul_assoc,Rat.mul_comm (c:Rat)];rfl
section
variable {k:World}{R:World→Value→Prop}{K:Nat}{cs cs':Array Value}{v v':Q4}
theorem SurdV.cells {k:World}{cs:Array Value}{v:Q4}{K:Nat}(h:SurdV k cs v K):∃(c0 c1 c2 c3:Array Value) (D:Option Addr) (d e:Nat),cs=mk9 c0 c1 c2 c3 (.slice D d e)∧Seg 2 c0∧Seg 2 c1∧Seg 2 c2∧Seg 2 c3:=by
 obtain⟨c0,c1,c2,c3,D,d,e,y0,y1,y2,y3,m,h1,h2,h3,h4,i0,i1,i2,i3,l,hd⟩:=h;exact⟨c0,c1,c2,c3,D,d,e,h1,i0.seg,i1.seg,i2.seg,i3.seg⟩
theorem mN (hx:SurdV k cs v K) (hy:SurdV k cs' v' K) (hK1:1≤K) (hK:K≤268435456) (C:∀k' ds,Up k k'→SurdV k' ds (v.add v') (2*K+1)→R k' (.agg ds)) :
 Cl k 74 #[.agg cs,.agg cs'] R:=by
 obtain⟨c0,c1,c2,c3,D,d,e,x0,x1,x2,x3,m,rfl,hm,hg,rfl,i0,i1,i2,i3,lx,hd⟩:=hx;obtain⟨c0',c1',c2',c3',D',d',e',y0,y1,y2,y3,n,rfl,hn,hg',rfl,j0,j1,j2,j3,ly,hd'⟩:=hy;intro k0 u0;replace i0:=i0.up u0;replace i1:=i1.up u0;replace i2:=i2.up u0;replace i3:=i3.up u0;replace lx:=lx.up u0;replace j0:=j0.up u0;replace j1:=j1.up u0;replace j2:=j2.up u0;replace j3:=j3.up u0;replace ly:=ly.up u0;replace C:=fun k' ds u=>C k' ds (u0.trans u);refine aSm i0.seg i1.seg i2.seg i3.seg j0.seg j1.seg j2.seg j3.seg ?_;refine bS lx hm (L:=K) hd hK1 oq ?_;intro k1 D1 d1 e1 u1 lx' hd1;refine⟨D1,d1,e1,rfl,?_⟩;replace i0:=i0.up u1;replace i1:=i1.up u1;replace i2:=i2.up u1;replace i3:=i3.up u1;replace j0:=j0.up u1;replace j1:=j1.up u1;replace j2:=j2.up u1;replace j3:=j3.up u1;replace ly:=ly.up u1;replace C:=fun k' ds u=>C k' ds (u1.trans u);refine bS ly hn (L:=K) hd' hK1 oq ?_;intro k2 D2 d2 e2 u2 ly' hd2;refine⟨D2,d2,e2,rfl,?_⟩;replace i0:=i0.up u2;replace i1:=i1.up u2;replace i2:=i2.up u2;replace i3:=i3.up u2;replace j0:=j0.up u2;replace j1:=j1.up u2;replace j2:=j2.up u2;replace j3:=j3.up u2;replace lx':=lx'.up u2;replace C:=fun k' ds u=>C k' ds (u2.trans u);refine dN i0 ly' oq hd2 oq ?_;intro k3 cA0 u3 a0;refine⟨cA0,a0.seg,rfl,?_⟩;replace i1:=i1.up u3;replace i2:=i2.up u3;replace i3:=i3.up u3;replace j0:=j0.up u3;replace j1:=j1.up u3;replace j2:=j2.up u3;replace j3:=j3.up u3;replace lx':=lx'.up u3;replace ly':=ly'.up u3;replace C:=fun k' ds u=>C k' ds (u3.trans u);refine dN j0 lx' oq hd1 oq ?_;intro k4 cB0 u4 b0;refine⟨cB0,b0.seg,rfl,?_⟩;replace i1:=i1.up u4;replace i2:=i2.up u4;replace i3:=i3.up u4;replace j1:=j1.up u4;replace j2:=j2.up u4;replace j3:=j3.up u4;replace lx':=lx'.up u4;replace ly':=ly'.up u4;replace a0:=a0.up u4;replace C:=fun k' ds u=>C k' ds (u4.trans u);refine cG a0 b0 (M:=2*K) oq oq oq ?_;intro k5 cC0 u5 z0;refine⟨cC0,z0.seg,rfl,?_⟩;replace i1:=i1.up u5;replace i2:=i2.up u5;replace i3:=i3.up u5;replace j1:=j1.up u5;replace j2:=j2.up u5;replace j3:=j3.up u5;replace lx':=lx'.up u5;replace ly':=ly'.up u5;replace C:=fun k' ds u=>C k' ds (u5.trans u);refine dN i1 ly' oq hd2 oq ?_;intro k6 cA1 u6 a1;refine⟨cA1,a1.seg,rfl,?_⟩;replace i2:=i2.up u6;replace i3:=i3.up u6;replace j1:=j1.up u6;replace j2:=j2.up u6;replace j3:=j3.up u6;replace lx':=lx'.up u6;replace ly':=ly'.up u6;replace z0:=z0.up u6;replace C:=fun k' ds u=>C k' ds (u6.trans u);refine dN j1 lx' oq hd1 oq ?_;intro k7 cB1 u7 b1;refine⟨cB1,b1.seg,rfl,?_⟩;replace i2:=i2.up u7;replace i3:=i3.up u7;replace j2:=j2.up u7;replace j3:=j3.up u7;replace lx':=lx'.up u7;replace ly':=ly'.up u7;replace z0:=z0.up u7;replace a1:=a1.up u7;replace C:=fun k' ds u=>C k' ds (u7.trans u);refine cG a1 b1 (M:=2*K) oq oq oq ?_;intro k8 cC1 u8 z1;refine⟨cC1,z1.seg,rfl,?_⟩;replace i2:=i2.up u8;replace i3:=i3.up u8;replace j2:=j2.up u8;replace j3:=j3.up u8;replace lx':=lx'.up u8
 replace ly':=ly'.up u8;replace z0:=z0.up u8;replace C:=fun k' ds u=>C k' ds (u8.trans u);refine dN i2 ly' oq hd2 oq ?_;intro k9 cA2 u9 a2;refine⟨cA2,a2.seg,rfl,?_⟩;replace i3:=i3.up u9;replace j2:=j2.up u9;replace j3:=j3.up u9;replace lx':=lx'.up u9;replace ly':=ly'.up u9;replace z0:=z0.up u9;replace z1:=z1.up u9;replace C:=fun k' ds u=>C k' ds (u9.trans u);refine dN j2 lx' oq hd1 oq ?_;intro k10 cB2 u10 b2;refine⟨cB2,b2.seg,rfl,?_⟩;replace i3:=i3.up u10;replace j3:=j3.up u10;replace lx':=lx'.up u10;replace ly':=ly'.up u10;replace z0:=z0.up u10;replace z1:=z1.up u10;replace a2:=a2.up u10;replace C:=fun k' ds u=>C k' ds (u10.trans u);refine cG a2 b2 (M:=2*K) oq oq oq ?_;intro k11 cC2 u11 z2;refine⟨cC2,z2.seg,rfl,?_⟩;replace i3:=i3.up u11;replace j3:=j3.up u11;replace lx':=lx'.up u11;replace ly':=ly'.up u11;replace z0:=z0.up u11;replace z1:=z1.up u11;replace C:=fun k' ds u=>C k' ds (u11.trans u);refine dN i3 ly' oq hd2 oq ?_;intro k12 cA3 u12 a3;refine⟨cA3,a3.seg,rfl,?_⟩;replace j3:=j3.up u12;replace lx':=lx'.up u12;replace ly':=ly'.up u12;replace z0:=z0.up u12;replace z1:=z1.up u12;replace z2:=z2.up u12;replace C:=fun k' ds u=>C k' ds (u12.trans u);refine dN j3 lx' oq hd1 oq ?_;intro k13 cB3 u13 b3;refine⟨cB3,b3.seg,rfl,?_⟩;replace lx':=lx'.up u13;replace ly':=ly'.up u13;replace z0:=z0.up u13;replace z1:=z1.up u13;replace z2:=z2.up u13;replace a3:=a3.up u13;replace C:=fun k' ds u=>C k' ds (u13.trans u);refine cG a3 b3 (M:=2*K) oq oq oq ?_;intro k14 cC3 u14 z3;refine⟨cC3,z3.seg,rfl,?_⟩;replace lx':=lx'.up u14;replace ly':=ly'.up u14;replace z0:=z0.up u14;replace z1:=z1.up u14;replace z2:=z2.up u14;replace C:=fun k' ds u=>C k' ds (u14.trans u);refine lV lx' ly' oq oq ?_;intro k15 D3 d3 e3 u15 lm hd3;refine⟨D3,d3,e3,rfl,?_⟩;replace z0:=z0.up u15;replace z1:=z1.up u15;replace z2:=z2.up u15;replace z3:=z3.up u15;replace C:=fun k' ds u=>C k' ds (u15.trans u);refine aEi z0 z1 z2 z3 lm (zw hm hn) oq oq ?_;intro k17 ds u17 hs;obtain⟨c0,c1,c2,c3,D,d,e,hcs,h9⟩:=hs.cells;refine⟨c0,h9.1,c1,h9.2.1,c2,h9.2.2.1,c3,h9.2.2.2,D,d,e,by rw [hcs];rfl,?_⟩;intro k18 u18;have hv:mkQ (x0*n+y0*m) (x1*n+y1*m) (x2*n+y2*m) (x3*n+y3*m) (m*n)=(mkQ x0 x1 x2 x3 m).add (mkQ y0 y1 y2 y3 n):=by
  unfold mkQ Q4.add;simp only [sW _ _ hm hn]
 have:=C k18 ds (u17.trans u18) (by rw [←hv];exact hs.up u18);rw [hcs]at this;exact this
theorem fN (hx:SurdV k cs v K) (hK:K≤268435456) (C:∀k' ds,Up k k'→SurdV k' ds v.neg K→R k' (.agg ds)) :
 Cl k 225 #[.agg cs] R:=by
 obtain⟨c0,c1,c2,c3,D,d,e,x0,x1,x2,x3,m,rfl,hm,hg,rfl,i0,i1,i2,i3,lx,hd⟩:=hx;intro k0 u0;replace i0:=i0.up u0;replace i1:=i1.up u0;replace i2:=i2.up u0;replace i3:=i3.up u0;replace lx:=lx.up u0;replace C:=fun k' ds u=>C k' ds (u0.trans u);refine aSp i0.seg i1.seg i2.seg i3.seg ?_;refine gU i0 oq ?_;intro k1 cA0 u1 a0;refine⟨cA0,a0.seg,rfl,?_⟩;replace i1:=i1.up u1;replace i2:=i2.up u1;replace i3:=i3.up u1;replace lx:=lx.up u1;replace C:=fun k' ds u=>C k' ds (u1.trans u);refine gU i1 oq ?_;intro k2 cA1 u2 a1;refine⟨cA1,a1.seg,rfl,?_⟩;replace i2:=i2.up u2;replace i3:=i3.up u2;replace lx:=lx.up u2;replace a0:=a0.up u2;replace C:=fun k' ds u=>C k' ds (u2.trans u);refine gU i2 oq ?_;intro k3 cA2 u3 a2;refine⟨cA2,a2.seg,rfl,?_⟩;replace i3:=i3.up u3;replace lx:=lx.up u3;replace a0:=a0.up u3;replace a1:=a1.up u3;replace C:=fun k' ds u=>C k' ds (u3.trans u);refine gU i3 oq ?_;intro k4 cA3 u4 a3;refine⟨cA3,a3.seg,rfl,?_⟩;replace lx:=lx.up u4;replace a0:=a0.up u4;replace a1:=a1.up u4;replace a2:=a2.up u4;replace C:=fun k' ds u=>C k' ds (u4.trans u);intro k5 u5;replace lx:=lx.up u5;replace a0:=a0.up u5;replace a1:=a1.up u5;replace a2:=a2.up u5;replace a3:=a3.up u5;refine C _ _ u5 ⟨cA0,cA1,cA2,cA3,D,d,e,-x0,-x1,-x2,-x3,m,rfl,hm,by simp only [Int.natAbs_neg];exact hg,?_,a0,a1,a2,a3,lx,hd⟩;unfold mkQ Q4.neg;simp only [sX]
theorem rY (hx:SurdV k cs v K) (hy:SurdV k cs' v' K) (hK1:1≤K) (hK:K≤268435456) (C:∀k' ds,Up k k'→SurdV k' ds (v.sub v') (2*K+1)→R k' (.agg ds)) :
 Cl k 113 #[.agg cs,.agg cs'] R:=by
 intro k0 u0;replace hx:=hx.up u0;replace hy:=hy.up u0;replace C:=fun k' ds u=>C k' ds (u0.trans u);refine aSr hx.seg hy.seg ?_;refine fN hy oq ?_;intro k1 cA u1 a;refine⟨cA,a.seg,rfl,?_⟩;replace hx:=hx.up u1;replace C:=fun k' ds u=>C k' ds (u1.trans u);refine mN hx a hK1 oq ?_;intro k2 cB u2 b;refine⟨cB,b.seg,rfl,?_⟩;replace C:=fun k' ds u=>C k' ds (u2.trans u);intro k3 u3;replace b:=b.up u3;exact C _ _ u3 b
end
open IntKind (wrap)
open Value (agg slice int bool tuple)
open Sy (Up Sees CallsG Seg execFn_use)
set_option maxRecDepth 100000
variable {k:World}{R:World→Value→Prop}{cs0 cs1 cs2 cs3 cs4 cs5 cs6 cs7 cs8:Array Value}{p1 p2 p3 p4 p5 p7 p9:Nat}{n0 n1:Int}
theorem aSu (hcs0:Seg 2 cs0) (hcs1:Seg 2 cs1) (hcs2:Seg 2 cs2) (hcs3:Seg 2 cs3) (hcs5:Seg 2 cs5) (hcs6:Seg 2 cs6) (hcs7:Seg 2 cs7) (hcs8:Seg 2 cs8) (hB4:Sy.Blk k p4 34 (cs0.toList++(cs1.toList++(cs2.toList++(cs3.toList++([]))))).toArray) (hB9:Sy.Blk k p9 34 (cs5.toList++(cs6.toList++(cs7.toList++(cs8.toList++([]))))).toArray)
 (h:Cl k 244 #[agg cs0,agg cs5] fun k1 r0=>Gt 2 r0 fun cs10=>
 Rt R k1 (agg cs10)) :
  CallsG Tryz.prog 306 #[int .i64 0,int .i64 0,Value.pointer (some ⟨p4,0,none⟩),Value.pointer (some ⟨p9,0,none⟩)] k R:=
  Sy.execFn_use_heap (cfg:={ opq:=[33] }) (args:=[.one (.lit (.int .i64 (0))),.one (.lit (.int .i64 (0))),.one (.ptr 0 0),.one (.ptr 1 0)]) (vals:=[agg cs0,agg cs1,agg cs2,agg cs3,(Value.pointer (some ⟨p4,0,none⟩)),agg cs5,agg cs6,agg cs7,agg cs8,(Value.pointer (some ⟨p9,0,none⟩))]) (kinds:=[.seg 2,.seg 2,.seg 2,.seg 2,.any,.seg 2,.seg 2,.seg 2,.seg 2,.any]) (blks:=[p4,p9]) (heap:=[{ ty:=34,cells:=[.seg 0 2,.seg 1 2,.seg 2 2,.seg 3 2],pub:=true,pv:=4 },{ ty:=34,cells:=[.seg 5 2,.seg 6 2,.seg 7 2,.seg 8 2],pub:=true,pv:=9 }]) ox ⟨⟨cs0,rfl,hcs0⟩,⟨cs1,rfl,hcs1⟩,⟨cs2,rfl,hcs2⟩,⟨cs3,rfl,hcs3⟩,⟨rfl,rfl⟩,⟨cs5,rfl,hcs5⟩,⟨cs6,rfl,hcs6⟩,⟨cs7,rfl,hcs7⟩,⟨cs8,rfl,hcs8⟩,⟨rfl,rfl⟩,trivial⟩ ox ⟨⟨rfl,⟨cs0.toList++(cs1.toList++(cs2.toList++(cs3.toList++([])))),by kernel_rfl,hB4⟩,by kernel_rfl⟩,⟨rfl,⟨cs5.toList++(cs6.toList++(cs7.toList++(cs8.toList++([])))),by kernel_rfl,hB9⟩,by kernel_rfl⟩,trivial⟩ ox h
theorem aSv (hcs0:Seg 2 cs0) (hcs1:Seg 2 cs1) (hcs2:Seg 2 cs2) (hcs3:Seg 2 cs3) (hcs5:Seg 2 cs5) (hcs6:Seg 2 cs6) (hcs7:Seg 2 cs7) (hcs8:Seg 2 cs8) (hB4:Sy.Blk k p4 34 (cs0.toList++(cs1.toList++(cs2.toList++(cs3.toList++([]))))).toArray) (hB9:Sy.Blk k p9 34 (cs5.toList++(cs6.toList++(cs7.toList++(cs8.toList++([]))))).toArray)
 (h:Cl k 244 #[agg cs0,agg cs6] fun k1 r0=>Gt 2 r0 fun cs10=>
 Rt R k1 (agg cs10)) :
  CallsG Tryz.prog 306 #[int .i64 0,int .i64 1,Value.pointer (some ⟨p4,0,none⟩),Value.pointer (some ⟨p9,0,none⟩)] k R:=
  Sy.execFn_use_heap (cfg:={ opq:=[33] }) (args:=[.one (.lit (.int .i64 (0))),.one (.lit (.int .i64 (1))),.one (.ptr 0 0),.one (.ptr 1 0)]) (vals:=[agg cs0,agg cs1,agg cs2,agg cs3,(Value.pointer (some ⟨p4,0,none⟩)),agg cs5,agg cs6,agg cs7,agg cs8,(Value.pointer (some ⟨p9,0,none⟩))]) (kinds:=[.seg 2,.seg 2,.seg 2,.seg 2,.any,.seg 2,.seg 2,.seg 2,.seg 2,.any]) (blks:=[p4,p9]) (heap:=[{ ty:=34,cells:=[.seg 0 2,.seg 1 2,.seg 2 2,.seg 3 2],pub:=true,pv:=4 },{ ty:=34,cells:=[.seg 5 2,.seg 6 2,.seg 7 2,.seg 8 2],pub:=true,pv:=9 }]) ox ⟨⟨cs0,rfl,hcs0⟩,⟨cs1,rfl,hcs1⟩,⟨cs2,rfl,hcs2⟩,⟨cs3,rfl,hcs3⟩,⟨rfl,rfl⟩,⟨cs5,rfl,hcs5⟩,⟨cs6,rfl,hcs6⟩,⟨cs7,rfl,hcs7⟩,⟨cs8,rfl,hcs8⟩,⟨rfl,rfl⟩,trivial⟩ ox ⟨⟨rfl,⟨cs0.toList++(cs1.toList++(cs2.toList++(cs3.toList++([])))),by kernel_rfl,hB4⟩,by kernel_rfl⟩,⟨rfl,⟨cs5.toList++(cs6.toList++(cs7.toList++(cs8.toList++([])))),by kernel_rfl,hB9⟩,by kernel_rfl⟩,trivial⟩ ox h
theorem aSw (hcs0:Seg 2 cs0) (hcs1:Seg 2 cs1) (hcs2:Seg 2 cs2) (hcs3:Seg 2 cs3) (hcs5:Seg 2 cs5) (hcs6:Seg 2 cs6) (hcs7:Seg 2 cs7) (hcs8:Seg 2 cs8) (hB4:Sy.Blk k p4 34 (cs0.toList++(cs1.toList++(cs2.toList++(cs3.toList++([]))))).toArray) (hB9:Sy.Blk k p9 34 (cs5.toList++(cs6.toList++(cs7.toList++(cs8.toList++([]))))).toArray)
 (h:Cl k 244 #[agg cs0,agg cs7] fun k1 r0=>Gt 2 r0 fun cs10=>
 Rt R k1 (agg cs10)) :
  CallsG Tryz.prog 306 #[int .i64 0,int .i64 2,Value.pointer (some ⟨p4,0,none⟩),Value.pointer (some ⟨p9,0,none⟩)] k R:=
  Sy.execFn_use_heap (cfg:={ opq:=[33] }) (args:=[.one (.lit (.int .i64 (0))),.one (.lit (.int .i64 (2))),.one (.ptr 0 0),.one (.ptr 1 0)]) (vals:=[agg cs0,agg cs1,agg cs2,agg cs3,(Value.pointer (some ⟨p4,0,none⟩)),agg cs5,agg cs6,agg cs7,agg cs8,(Value.pointer (some ⟨p9,0,none⟩))]) (kinds:=[.seg 2,.seg 2,.seg 2,.seg 2,.any,.seg 2,.seg 2,.seg 2,.seg 2,.any]) (blks:=[p4,p9]) (heap:=[{ ty:=34,cells:=[.seg 0 2,.seg 1 2,.seg 2 2,.seg 3 2],pub:=true,pv:=4 },{ ty:=34,cells:=[.seg 5 2,.seg 6 2,.seg 7 2,.seg 8 2],pub:=true,pv:=9 }]) ox ⟨⟨cs0,rfl,hcs0⟩,⟨cs1,rfl,hcs1⟩,⟨cs2,rfl,hcs2⟩,⟨cs3,rfl,hcs3⟩,⟨rfl,rfl⟩,⟨cs5,rfl,hcs5⟩,⟨cs6,rfl,hcs6⟩,⟨cs7,rfl,hcs7⟩,⟨cs8,rfl,hcs8⟩,⟨rfl,rfl⟩,trivial⟩ ox ⟨⟨rfl,⟨cs0.toList++(cs1.toList++(cs2.toList++(cs3.toList++([])))),by kernel_rfl,hB4⟩,by kernel_rfl⟩,⟨rfl,⟨cs5.toList++(cs6.toList++(cs7.toList++(cs8.toList++([])))),by kernel_rfl,hB9⟩,by kernel_rfl⟩,trivial⟩ ox h
theorem aSx (hcs0:Seg 2 cs0) (hcs1:Seg 2 cs1) (hcs2:Seg 2 cs2) (hcs3:Seg 2 cs3) (hcs5:Seg 2 cs5) (hcs6:Seg 2 cs6) (hcs7:Seg 2 cs7) (hcs8:Seg 2 cs8) (hB4:Sy.Blk k p4 34 (cs0.toList++(cs1.toList++(cs2.toList++(cs3.toList++([]))))).toArray) (hB9:Sy.Blk k p9 34 (cs5.toList++(cs6.toList++(cs7.toList++(cs8.toList++([]))))).toArray)
 (h:Cl k 244 #[agg cs0,agg cs8] fun k1 r0=>Gt 2 r0 fun cs10=>
 Rt R k1 (agg cs10)) :
  CallsG Tryz.prog 306 #[int .i64 0,int .i64 3,Value.pointer (some ⟨p4,0,none⟩),Value.pointer (some ⟨p9,0,none⟩)] k R:=
  Sy.execFn_use_heap (cfg:={ opq:=[33] }) (args:=[.one (.lit (.int .i64 (0))),.one (.lit (.int .i64 (3))),.one (.ptr 0 0),.one (.ptr 1 0)]) (vals:=[agg cs0,agg cs1,agg cs2,agg cs3,(Value.pointer (some ⟨p4,0,none⟩)),agg cs5,agg cs6,agg cs7,agg cs8,(Value.pointer (some ⟨p9,0,none⟩))]) (kinds:=[.seg 2,.seg 2,.seg 2,.seg 2,.any,.seg 2,.seg 2,.seg 2,.seg 2,.any]) (blks:=[p4,p9]) (heap:=[{ ty:=34,cells:=[.seg 0 2,.seg 1 2,.seg 2 2,.seg 3 2],pub:=true,pv:=4 },{ ty:=34,cells:=[.seg 5 2,.seg 6 2,.seg 7 2,.seg 8 2],pub:=true,pv:=9 }]) ox ⟨⟨cs0,rfl,hcs0⟩,⟨cs1,rfl,hcs1⟩,⟨cs2,rfl,hcs2⟩,⟨cs3,rfl,hcs3⟩,⟨rfl,rfl⟩,⟨cs5,rfl,hcs5⟩,⟨cs6,rfl,hcs6⟩,⟨cs7,rfl,hcs7⟩,⟨cs8,rfl,hcs8⟩,⟨rfl,rfl⟩,trivial⟩ ox ⟨⟨rfl,⟨cs0.toList++(cs1.toList++(cs2.toList++(cs3.toList++([])))),by kernel_rfl,hB4⟩,by kernel_rfl⟩,⟨rfl,⟨cs5.toList++(cs6.toList++(cs7.toList++(cs8.toList++([])))),by kernel_rfl,hB9⟩,by kernel_rfl⟩,trivial⟩ ox h
theorem aSy (hcs0:Seg 2 cs0) (hcs1:Seg 2 cs1) (hcs2:Seg 2 cs2) (hcs3:Seg 2 cs3) (hcs5:Seg 2 cs5) (hcs6:Seg 2 cs6) (hcs7:Seg 2 cs7) (hcs8:Seg 2 cs8) (hB4:Sy.Blk k p4 34 (cs0.toList++(cs1.toList++(cs2.toList++(cs3.toList++([]))))).toArray) (hB9:Sy.Blk k p9 34 (cs5.toList++(cs6.toList++(cs7.toList++(cs8.toList++([]))))).toArray)
 (h:Cl k 244 #[agg cs1,agg cs5] fun k1 r0=>Gt 2 r0 fun cs10=>
 Rt R k1 (agg cs10)) :
  CallsG Tryz.prog 306 #[int .i64 1,int .i64 0,Value.pointer (some ⟨p4,0,none⟩),Value.pointer (some ⟨p9,0,none⟩)] k R:=
  Sy.execFn_use_heap (cfg:={ opq:=[33] }) (args:=[.one (.lit (.int .i64 (1))),.one (.lit (.int .i64 (0))),.one (.ptr 0 0),.one (.ptr 1 0)]) (vals:=[agg cs0,agg cs1,agg cs2,agg cs3,(Value.pointer (some ⟨p4,0,none⟩)),agg cs5,agg cs6,agg cs7,agg cs8,(Value.pointer (some ⟨p9,0,none⟩))]) (kinds:=[.seg 2,.seg 2,.seg 2,.seg 2,.any,.seg 2,.seg 2,.seg 2,.seg 2,.any]) (blks:=[p4,p9]) (heap:=[{ ty:=34,cells:=[.seg 0 2,.seg 1 2,.seg 2 2,.seg 3 2],pub:=true,pv:=4 },{ ty:=34,cells:=[.seg 5 2,.seg 6 2,.seg 7 2,.seg 8 2],pub:=true,pv:=9 }]) ox ⟨⟨cs0,rfl,hcs0⟩,⟨cs1,rfl,hcs1⟩,⟨cs2,rfl,hcs2⟩,⟨cs3,rfl,hcs3⟩,⟨rfl,rfl⟩,⟨cs5,rfl,hcs5⟩,⟨cs6,rfl,hcs6⟩,⟨cs7,rfl,hcs7⟩,⟨cs8,rfl,hcs8⟩,⟨rfl,rfl⟩,trivial⟩ ox ⟨⟨rfl,⟨cs0.toList++(cs1.toList++(cs2.toList++(cs3.toList++([])))),by kernel_rfl,hB4⟩,by kernel_rfl⟩,⟨rfl,⟨cs5.toList++(cs6.toList++(cs7.toList++(cs8.toList++([])))),by kernel_rfl,hB9⟩,by kernel_rfl⟩,trivial⟩ ox h
theorem aSz (hcs0:Seg 2 cs0) (hcs1:Seg 2 cs1) (hcs2:Seg 2 cs2) (hcs3:Seg 2 cs3) (hcs5:Seg 2 cs5) (hcs6:Seg 2 cs6) (hcs7:Seg 2 cs7) (hcs8:Seg 2 cs8) (hB4:Sy.Blk k p4 34 (cs0.toList++(cs1.toList++(cs2.toList++(cs3.toList++([]))))).toArray) (hB9:Sy.Blk k p9 34 (cs5.toList++(cs6.toList++(cs7.toList++(cs8.toList++([]))))).toArray)
 (h:Cl k 244 #[agg cs1,agg cs6] fun k1 r0=>Gt 2 r0 fun cs10=>
 Rt R k1 (agg cs10)) :
  CallsG Tryz.prog 306 #[int .i64 1,int .i64 1,Value.pointer (some ⟨p4,0,none⟩),Value.pointer (some ⟨p9,0,none⟩)] k R:=
  Sy.execFn_use_heap (cfg:={ opq:=[33] }) (args:=[.one (.lit (.int .i64 (1))),.one (.lit (.int .i64 (1))),.one (.ptr 0 0),.one (.ptr 1 0)]) (vals:=[agg cs0,agg cs1,agg cs2,agg cs3,(Value.pointer (some ⟨p4,0,none⟩)),agg cs5,agg cs6,agg cs7,agg cs8,(Value.pointer (some ⟨p9,0,none⟩))]) (kinds:=[.seg 2,.seg 2,.seg 2,.seg 2,.any,.seg 2,.seg 2,.seg 2,.seg 2,.any]) (blks:=[p4,p9]) (heap:=[{ ty:=34,cells:=[.seg 0 2,.seg 1 2,.seg 2 2,.seg 3 2],pub:=true,pv:=4 },{ ty:=34,cells:=[.seg 5 2,.seg 6 2,.seg 7 2,.seg 8 2],pub:=true,pv:=9 }]) ox ⟨⟨cs0,rfl,hcs0⟩,⟨cs1,rfl,hcs1⟩,⟨cs2,rfl,hcs2⟩,⟨cs3,rfl,hcs3⟩,⟨rfl,rfl⟩,⟨cs5,rfl,hcs5⟩,⟨cs6,rfl,hcs6⟩,⟨cs7,rfl,hcs7⟩,⟨cs8,rfl,hcs8⟩,⟨rfl,rfl⟩,trivial⟩ ox ⟨⟨rfl,⟨cs0.toList++(cs1.toList++(cs2.toList++(cs3.toList++([])))),by kernel_rfl,hB4⟩,by kernel_rfl⟩,⟨rfl,⟨cs5.toList++(cs6.toList++(cs7.toList++(cs8.toList++([])))),by kernel_rfl,hB9⟩,by kernel_rfl⟩,trivial⟩ ox h
theorem aTa (hcs0:Seg 2 cs0) (hcs1:Seg 2 cs1) (hcs2:Seg 2 cs2) (hcs3:Seg 2 cs3) (hcs5:Seg 2 cs5) (hcs6:Seg 2 cs6) (hcs7:Seg 2 cs7) (hcs8:Seg 2 cs8) (hB4:Sy.Blk k p4 34 (cs0.toList++(cs1.toList++(cs2.toList++(cs3.toList++([]))))).toArray) (hB9:Sy.Blk k p9 34 (cs5.toList++(cs6.toList++(cs7.toList++(cs8.toList++([]))))).toArray)
 (h:Cl k 244 #[agg cs1,agg cs7] fun k1 r0=>Gt 2 r0 fun cs10=>
 Rt R k1 (agg cs10)) :
  CallsG Tryz.prog 306 #[int .i64 1,int .i64 2,Value.pointer (some ⟨p4,0,none⟩),Value.pointer (some ⟨p9,0,none⟩)] k R:=
  Sy.execFn_use_heap (cfg:={ opq:=[33] }) (args:=[.one (.lit (.int .i64 (1))),.one (.lit (.int .i64 (2))),.one (.ptr 0 0),.one (.ptr 1 0)]) (vals:=[agg cs0,agg cs1,agg cs2,agg cs3,(Value.pointer (some ⟨p4,0,none⟩)),agg cs5,agg cs6,agg cs7,agg cs8,(Value.pointer (some ⟨p9,0,none⟩))]) (kinds:=[.seg 2,.seg 2,.seg 2,.seg 2,.any,.seg 2,.seg 2,.seg 2,.seg 2,.any]) (blks:=[p4,p9]) (heap:=[{ ty:=34,cells:=[.seg 0 2,.seg 1 2,.seg 2 2,.seg 3 2],pub:=true,pv:=4 },{ ty:=34,cells:=[.seg 5 2,.seg 6 2,.seg 7 2,.seg 8 2],pub:=true,pv:=9 }]) ox ⟨⟨cs0,rfl,hcs0⟩,⟨cs1,rfl,hcs1⟩,⟨cs2,rfl,hcs2⟩,⟨cs3,rfl,hcs3⟩,⟨rfl,rfl⟩,⟨cs5,rfl,hcs5⟩,⟨cs6,rfl,hcs6⟩,⟨cs7,rfl,hcs7⟩,⟨cs8,rfl,hcs8⟩,⟨rfl,rfl⟩,trivial⟩ ox ⟨⟨rfl,⟨cs0.toList++(cs1.toList++(cs2.toList++(cs3.toList++([])))),by kernel_rfl,hB4⟩,by kernel_rfl⟩,⟨rfl,⟨cs5.toList++(cs6.toList++(cs7.toList++(cs8.toList++([])))),by kernel_rfl,hB9⟩,by kernel_rfl⟩,trivial⟩ ox h
theorem aTb (hcs0:Seg 2 cs0) (hcs1:Seg 2 cs1) (hcs2:Seg 2 cs2) (hcs3:Seg 2 cs3) (hcs5:Seg 2 cs5) (hcs6:Seg 2 cs6) (hcs7:Seg 2 cs7) (hcs8:Seg 2 cs8) (hB4:Sy.Blk k p4 34 (cs0.toList++(cs1.toList++(cs2.toList++(cs3.toList++([]))))).toArray) (hB9:Sy.Blk k p9 34 (cs5.toList++(cs6.toList++(cs7.toList++(cs8.toList++([]))))).toArray)
 (h:Cl k 244 #[agg cs1,agg cs8] fun k1 r0=>Gt 2 r0 fun cs10=>
 Rt R k1 (agg cs10)) :
  CallsG Tryz.prog 306 #[int .i64 1,int .i64 3,Value.pointer (some ⟨p4,0,none⟩),Value.pointer (some ⟨p9,0,none⟩)] k R:=
  Sy.execFn_use_heap (cfg:={ opq:=[33] }) (args:=[.one (.lit (.int .i64 (1))),.one (.lit (.int .i64 (3))),.one (.ptr 0 0),.one (.ptr 1 0)]) (vals:=[agg cs0,agg cs1,agg cs2,agg cs3,(Value.pointer (some ⟨p4,0,none⟩)),agg cs5,agg cs6,agg cs7,agg cs8,(Value.pointer (some ⟨p9,0,none⟩))]) (kinds:=[.seg 2,.seg 2,.seg 2,.seg 2,.any,.seg 2,.seg 2,.seg 2,.seg 2,.any]) (blks:=[p4,p9]) (heap:=[{ ty:=34,cells:=[.seg 0 2,.seg 1 2,.seg 2 2,.seg 3 2],pub:=true,pv:=4 },{ ty:=34,cells:=[.seg 5 2,.seg 6 2,.seg 7 2,.seg 8 2],pub:=true,pv:=9 }]) ox ⟨⟨cs0,rfl,hcs0⟩,⟨cs1,rfl,hcs1⟩,⟨cs2,rfl,hcs2⟩,⟨cs3,rfl,hcs3⟩,⟨rfl,rfl⟩,⟨cs5,rfl,hcs5⟩,⟨cs6,rfl,hcs6⟩,⟨cs7,rfl,hcs7⟩,⟨cs8,rfl,hcs8⟩,⟨rfl,rfl⟩,trivial⟩ ox ⟨⟨rfl,⟨cs0.toList++(cs1.toList++(cs2.toList++(cs3.toList++([])))),by kernel_rfl,hB4⟩,by kernel_rfl⟩,⟨rfl,⟨cs5.toList++(cs6.toList++(cs7.toList++(cs8.toList++([])))),by kernel_rfl,hB9⟩,by kernel_rfl⟩,trivial⟩ ox h
theorem aTc (hcs0:Seg 2 cs0) (hcs1:Seg 2 cs1) (hcs2:Seg 2 cs2) (hcs3:Seg 2 cs3) (hcs5:Seg 2 cs5) (hcs6:Seg 2 cs6) (hcs7:Seg 2 cs7) (hcs8:Seg 2 cs8) (hB4:Sy.Blk k p4 34 (cs0.toList++(cs1.toList++(cs2.toList++(cs3.toList++([]))))).toArray) (hB9:Sy.Blk k p9 34 (cs5.toList++(cs6.toList++(cs7.toList++(cs8.toList++([]))))).toArray)
 (h:Cl k 244 #[agg cs2,agg cs5] fun k1 r0=>Gt 2 r0 fun cs10=>
 Rt R k1 (agg cs10)) :
  CallsG Tryz.prog 306 #[int .i64 2,int .i64 0,Value.pointer (some ⟨p4,0,none⟩),Value.pointer (some ⟨p9,0,none⟩)] k R:=
  Sy.execFn_use_heap (cfg:={ opq:=[33] }) (args:=[.one (.lit (.int .i64 (2))),.one (.lit (.int .i64 (0))),.one (.ptr 0 0),.one (.ptr 1 0)]) (vals:=[agg cs0,agg cs1,agg cs2,agg cs3,(Value.pointer (some ⟨p4,0,none⟩)),agg cs5,agg cs6,agg cs7,agg cs8,(Value.pointer (some ⟨p9,0,none⟩))]) (kinds:=[.seg 2,.seg 2,.seg 2,.seg 2,.any,.seg 2,.seg 2,.seg 2,.seg 2,.any]) (blks:=[p4,p9]) (heap:=[{ ty:=34,cells:=[.seg 0 2,.seg 1 2,.seg 2 2,.seg 3 2],pub:=true,pv:=4 },{ ty:=34,cells:=[.seg 5 2,.seg 6 2,.seg 7 2,.seg 8 2],pub:=true,pv:=9 }]) ox ⟨⟨cs0,rfl,hcs0⟩,⟨cs1,rfl,hcs1⟩,⟨cs2,rfl,hcs2⟩,⟨cs3,rfl,hcs3⟩,⟨rfl,rfl⟩,⟨cs5,rfl,hcs5⟩,⟨cs6,rfl,hcs6⟩,⟨cs7,rfl,hcs7⟩,⟨cs8,rfl,hcs8⟩,⟨rfl,rfl⟩,trivial⟩ ox ⟨⟨rfl,⟨cs0.toList++(cs1.toList++(cs2.toList++(cs3.toList++([])))),by kernel_rfl,hB4⟩,by kernel_rfl⟩,⟨rfl,⟨cs5.toList++(cs6.toList++(cs7.toList++(cs8.toList++([])))),by kernel_rfl,hB9⟩,by kernel_rfl⟩,trivial⟩ ox h
theorem aTd (hcs0:Seg 2 cs0) (hcs1:Seg 2 cs1) (hcs2:Seg 2 cs2) (hcs3:Seg 2 cs3) (hcs5:Seg 2 cs5) (hcs6:Seg 2 cs6) (hcs7:Seg 2 cs7) (hcs8:Seg 2 cs8) (hB4:Sy.Blk k p4 34 (cs0.toList++(cs1.toList++(cs2.toList++(cs3.toList++([]))))).toArray) (hB9:Sy.Blk k p9 34 (cs5.toList++(cs6.toList++(cs7.toList++(cs8.toList++([]))))).toArray)
 (h:Cl k 244 #[agg cs2,agg cs6] fun k1 r0=>Gt 2 r0 fun cs10=>
 Rt R k1 (agg cs10)) :
  CallsG Tryz.prog 306 #[int .i64 2,int .i64 1,Value.pointer (some ⟨p4,0,none⟩),Value.pointer (some ⟨p9,0,none⟩)] k R:=
  Sy.execFn_use_heap (cfg:={ opq:=[33] }) (args:=[.one (.lit (.int .i64 (2))),.one (.lit (.int .i64 (1))),.one (.ptr 0 0),.one (.ptr 1 0)]) (vals:=[agg cs0,agg cs1,agg cs2,agg cs3,(Value.pointer (some ⟨p4,0,none⟩)),agg cs5,agg cs6,agg cs7,agg cs8,(Value.pointer (some ⟨p9,0,none⟩))]) (kinds:=[.seg 2,.seg 2,.seg 2,.seg 2,.any,.seg 2,.seg 2,.seg 2,.seg 2,.any]) (blks:=[p4,p9]) (heap:=[{ ty:=34,cells:=[.seg 0 2,.seg 1 2,.seg 2 2,.seg 3 2],pub:=true,pv:=4 },{ ty:=34,cells:=[.seg 5 2,.seg 6 2,.seg 7 2,.seg 8 2],pub:=true,pv:=9 }]) ox ⟨⟨cs0,rfl,hcs0⟩,⟨cs1,rfl,hcs1⟩,⟨cs2,rfl,hcs2⟩,⟨cs3,rfl,hcs3⟩,⟨rfl,rfl⟩,⟨cs5,rfl,hcs5⟩,⟨cs6,rfl,hcs6⟩,⟨cs7,rfl,hcs7⟩,⟨cs8,rfl,hcs8⟩,⟨rfl,rfl⟩,trivial⟩ ox ⟨⟨rfl,⟨cs0.toList++(cs1.toList++(cs2.toList++(cs3.toList++([])))),by kernel_rfl,hB4⟩,by kernel_rfl⟩,⟨rfl,⟨cs5.toList++(cs6.toList++(cs7.toList++(cs8.toList++([])))),by kernel_rfl,hB9⟩,by kernel_rfl⟩,trivial⟩ ox h
theorem aTe (hcs0:Seg 2 cs0) (hcs1:Seg 2 cs1) (hcs2:Seg 2 cs2) (hcs3:Seg 2 cs3) (hcs5:Seg 2 cs5) (hcs6:Seg 2 cs6) (hcs7:Seg 2 cs7) (hcs8:Seg 2 cs8) (hB4:Sy.Blk k p4 34 (cs0.toList++(cs1.toList++(cs2.toList++(cs3.toList++([]))))).toArray) (hB9:Sy.Blk k p9 34 (cs5.toList++(cs6.toList++(cs7.toList++(cs8.toList++([]))))).toArray)
 (h:Cl k 244 #[agg cs2,agg cs7] fun k1 r0=>Gt 2 r0 fun cs10=>
 Rt R k1 (agg cs10)) :
  CallsG Tryz.prog 306 #[int .i64 2,int .i64 2,Value.pointer (some ⟨p4,0,none⟩),Value.pointer (some ⟨p9,0,none⟩)] k R:=
  Sy.execFn_use_heap (cfg:={ opq:=[33] }) (args:=[.one (.lit (.int .i64 (2))),.one (.lit (.int .i64 (2))),.one (.ptr 0 0),.one (.ptr 1 0)]) (vals:=[agg cs0,agg cs1,agg cs2,agg cs3,(Value.pointer (some ⟨p4,0,none⟩)),agg cs5,agg cs6,agg cs7,agg cs8,(Value.pointer (some ⟨p9,0,none⟩))]) (kinds:=[.seg 2,.seg 2,.seg 2,.seg 2,.any,.seg 2,.seg 2,.seg 2,.seg 2,.any]) (blks:=[p4,p9]) (heap:=[{ ty:=34,cells:=[.seg 0 2,.seg 1 2,.seg 2 2,.seg 3 2],pub:=true,pv:=4 },{ ty:=34,cells:=[.seg 5 2,.seg 6 2,.seg 7 2,.seg 8 2],pub:=true,pv:=9 }]) ox ⟨⟨cs0,rfl,hcs0⟩,⟨cs1,rfl,hcs1⟩,⟨cs2,rfl,hcs2⟩,⟨cs3,rfl,hcs3⟩,⟨rfl,rfl⟩,⟨cs5,rfl,hcs5⟩,⟨cs6,rfl,hcs6⟩,⟨cs7,rfl,hcs7⟩,⟨cs8,rfl,hcs8⟩,⟨rfl,rfl⟩,trivial⟩ ox ⟨⟨rfl,⟨cs0.toList++(cs1.toList++(cs2.toList++(cs3.toList++([])))),by kernel_rfl,hB4⟩,by kernel_rfl⟩,⟨rfl,⟨cs5.toList++(cs6.toList++(cs7.toList++(cs8.toList++([])))),by kernel_rfl,hB9⟩,by kernel_rfl⟩,trivial⟩ ox h
theorem aTf (hcs0:Seg 2 cs0) (hcs1:Seg 2 cs1) (hcs2:Seg 2 cs2) (hcs3:Seg 2 cs3) (hcs5:Seg 2 cs5) (hcs6:Seg 2 cs6) (hcs7:Seg 2 cs7) (hcs8:Seg 2 cs8) (hB4:Sy.Blk k p4 34 (cs0.toList++(cs1.toList++(cs2.toList++(cs3.toList++([]))))).toArray) (hB9:Sy.Blk k p9 34 (cs5.toList++(cs6.toList++(cs7.toList++(cs8.toList++([]))))).toArray)
 (h:Cl k 244 #[agg cs2,agg cs8] fun k1 r0=>Gt 2 r0 fun cs10=>
 Rt R k1 (agg cs10)) :
  CallsG Tryz.prog 306 #[int .i64 2,int .i64 3,Value.pointer (some ⟨p4,0,none⟩),Value.pointer (some ⟨p9,0,none⟩)] k R:=
  Sy.execFn_use_heap (cfg:={ opq:=[33] }) (args:=[.one (.lit (.int .i64 (2))),.one (.lit (.int .i64 (3))),.one (.ptr 0 0),.one (.ptr 1 0)]) (vals:=[agg cs0,agg cs1,agg cs2,agg cs3,(Value.pointer (some ⟨p4,0,none⟩)),agg cs5,agg cs6,agg cs7,agg cs8,(Value.pointer (some ⟨p9,0,none⟩))]) (kinds:=[.seg 2,.seg 2,.seg 2,.seg 2,.any,.seg 2,.seg 2,.seg 2,.seg 2,.any]) (blks:=[p4,p9]) (heap:=[{ ty:=34,cells:=[.seg 0 2,.seg 1 2,.seg 2 2,.seg 3 2],pub:=true,pv:=4 },{ ty:=34,cells:=[.seg 5 2,.seg 6 2,.seg 7 2,.seg 8 2],pub:=true,pv:=9 }]) ox ⟨⟨cs0,rfl,hcs0⟩,⟨cs1,rfl,hcs1⟩,⟨cs2,rfl,hcs2⟩,⟨cs3,rfl,hcs3⟩,⟨rfl,rfl⟩,⟨cs5,rfl,hcs5⟩,⟨cs6,rfl,hcs6⟩,⟨cs7,rfl,hcs7⟩,⟨cs8,rfl,hcs8⟩,⟨rfl,rfl⟩,trivial⟩ ox ⟨⟨rfl,⟨cs0.toList++(cs1.toList++(cs2.toList++(cs3.toList++([])))),by kernel_rfl,hB4⟩,by kernel_rfl⟩,⟨rfl,⟨cs5.toList++(cs6.toList++(cs7.toList++(cs8.toList++([])))),by kernel_rfl,hB9⟩,by kernel_rfl⟩,trivial⟩ ox h
theorem aTg (hcs0:Seg 2 cs0) (hcs1:Seg 2 cs1) (hcs2:Seg 2 cs2) (hcs3:Seg 2 cs3) (hcs5:Seg 2 cs5) (hcs6:Seg 2 cs6) (hcs7:Seg 2 cs7) (hcs8:Seg 2 cs8) (hB4:Sy.Blk k p4 34 (cs0.toList++(cs1.toList++(cs2.toList++(cs3.toList++([]))))).toArray) (hB9:Sy.Blk k p9 34 (cs5.toList++(cs6.toList++(cs7.toList++(cs8.toList++([]))))).toArray)
 (h:Cl k 244 #[agg cs3,agg cs5] fun k1 r0=>Gt 2 r0 fun cs10=>
 Rt R k1 (agg cs10)) :
  CallsG Tryz.prog 306 #[int .i64 3,int .i64 0,Value.pointer (some ⟨p4,0,none⟩),Value.pointer (some ⟨p9,0,none⟩)] k R:=
  Sy.execFn_use_heap (cfg:={ opq:=[33] }) (args:=[.one (.lit (.int .i64 (3))),.one (.lit (.int .i64 (0))),.one (.ptr 0 0),.one (.ptr 1 0)]) (vals:=[agg cs0,agg cs1,agg cs2,agg cs3,(Value.pointer (some ⟨p4,0,none⟩)),agg cs5,agg cs6,agg cs7,agg cs8,(Value.pointer (some ⟨p9,0,none⟩))]) (kinds:=[.seg 2,.seg 2,.seg 2,.seg 2,.any,.seg 2,.seg 2,.seg 2,.seg 2,.any]) (blks:=[p4,p9]) (heap:=[{ ty:=34,cells:=[.seg 0 2,.seg 1 2,.seg 2 2,.seg 3 2],pub:=true,pv:=4 },{ ty:=34,cells:=[.seg 5 2,.seg 6 2,.seg 7 2,.seg 8 2],pub:=true,pv:=9 }]) ox ⟨⟨cs0,rfl,hcs0⟩,⟨cs1,rfl,hcs1⟩,⟨cs2,rfl,hcs2⟩,⟨cs3,rfl,hcs3⟩,⟨rfl,rfl⟩,⟨cs5,rfl,hcs5⟩,⟨cs6,rfl,hcs6⟩,⟨cs7,rfl,hcs7⟩,⟨cs8,rfl,hcs8⟩,⟨rfl,rfl⟩,trivial⟩ ox ⟨⟨rfl,⟨cs0.toList++(cs1.toList++(cs2.toList++(cs3.toList++([])))),by kernel_rfl,hB4⟩,by kernel_rfl⟩,⟨rfl,⟨cs5.toList++(cs6.toList++(cs7.toList++(cs8.toList++([])))),by kernel_rfl,hB9⟩,by kernel_rfl⟩,trivial⟩ ox h
theorem aTh (hcs0:Seg 2 cs0) (hcs1:Seg 2 cs1) (hcs2:Seg 2 cs2) (hcs3:Seg 2 cs3) (hcs5:Seg 2 cs5) (hcs6:Seg 2 cs6) (hcs7:Seg 2 cs7) (hcs8:Seg 2 cs8) (hB4:Sy.Blk k p4 34 (cs0.toList++(cs1.toList++(cs2.toList++(cs3.toList++([]))))).toArray) (hB9:Sy.Blk k p9 34 (cs5.toList++(cs6.toList++(cs7.toList++(cs8.toList++([]))))).toArray)
 (h:Cl k 244 #[agg cs3,agg cs6] fun k1 r0=>Gt 2 r0 fun cs10=>
 Rt R k1 (agg cs10)) :
  CallsG Tryz.prog 306 #[int .i64 3,int .i64 1,Value.pointer (some ⟨p4,0,none⟩),Value.pointer (some ⟨p9,0,none⟩)] k R:=
  Sy.execFn_use_heap (cfg:={ opq:=[33] }) (args:=[.one (.lit (.int .i64 (3))),.one (.lit (.int .i64 (1))),.one (.ptr 0 0),.one (.ptr 1 0)]) (vals:=[agg cs0,agg cs1,agg cs2,agg cs3,(Value.pointer (some ⟨p4,0,none⟩)),agg cs5,agg cs6,agg cs7,agg cs8,(Value.pointer (some ⟨p9,0,none⟩))]) (kinds:=[.seg 2,.seg 2,.seg 2,.seg 2,.any,.seg 2,.seg 2,.seg 2,.seg 2,.any]) (blks:=[p4,p9]) (heap:=[{ ty:=34,cells:=[.seg 0 2,.seg 1 2,.seg 2 2,.seg 3 2],pub:=true,pv:=4 },{ ty:=34,cells:=[.seg 5 2,.seg 6 2,.seg 7 2,.seg 8 2],pub:=true,pv:=9 }]) ox ⟨⟨cs0,rfl,hcs0⟩,⟨cs1,rfl,hcs1⟩,⟨cs2,rfl,hcs2⟩,⟨cs3,rfl,hcs3⟩,⟨rfl,rfl⟩,⟨cs5,rfl,hcs5⟩,⟨cs6,rfl,hcs6⟩,⟨cs7,rfl,hcs7⟩,⟨cs8,rfl,hcs8⟩,⟨rfl,rfl⟩,trivial⟩ ox ⟨⟨rfl,⟨cs0.toList++(cs1.toList++(cs2.toList++(cs3.toList++([])))),by kernel_rfl,hB4⟩,by kernel_rfl⟩,⟨rfl,⟨cs5.toList++(cs6.toList++(cs7.toList++(cs8.toList++([])))),by kernel_rfl,hB9⟩,by kernel_rfl⟩,trivial⟩ ox h
theorem aTi (hcs0:Seg 2 cs0) (hcs1:Seg 2 cs1) (hcs2:Seg 2 cs2) (hcs3:Seg 2 cs3) (hcs5:Seg 2 cs5) (hcs6:Seg 2 cs6) (hcs7:Seg 2 cs7) (hcs8:Seg 2 cs8) (hB4:Sy.Blk k p4 34 (cs0.toList++(cs1.toList++(cs2.toList++(cs3.toList++([]))))).toArray) (hB9:Sy.Blk k p9 34 (cs5.toList++(cs6.toList++(cs7.toList++(cs8.toList++([]))))).toArray)
 (h:Cl k 244 #[agg cs3,agg cs7] fun k1 r0=>Gt 2 r0 fun cs10=>
 Rt R k1 (agg cs10)) :
  CallsG Tryz.prog 306 #[int .i64 3,int .i64 2,Value.pointer (some ⟨p4,0,none⟩),Value.pointer (some ⟨p9,0,none⟩)] k R:=
  Sy.execFn_use_heap (cfg:={ opq:=[33] }) (args:=[.one (.lit (.int .i64 (3))),.one (.lit (.int .i64 (2))),.one (.ptr 0 0),.one (.ptr 1 0)]) (vals:=[agg cs0,agg cs1,agg cs2,agg cs3,(Value.pointer (some ⟨p4,0,none⟩)),agg cs5,agg cs6,agg cs7,agg cs8,(Value.pointer (some ⟨p9,0,none⟩))]) (kinds:=[.seg 2,.seg 2,.seg 2,.seg 2,.any,.seg 2,.seg 2,.seg 2,.seg 2,.any]) (blks:=[p4,p9]) (heap:=[{ ty:=34,cells:=[.seg 0 2,.seg 1 2,.seg 2 2,.seg 3 2],pub:=true,pv:=4 },{ ty:=34,cells:=[.seg 5 2,.seg 6 2,.seg 7 2,.seg 8 2],pub:=true,pv:=9 }]) ox ⟨⟨cs0,rfl,hcs0⟩,⟨cs1,rfl,hcs1⟩,⟨cs2,rfl,hcs2⟩,⟨cs3,rfl,hcs3⟩,⟨rfl,rfl⟩,⟨cs5,rfl,hcs5⟩,⟨cs6,rfl,hcs6⟩,⟨cs7,rfl,hcs7⟩,⟨cs8,rfl,hcs8⟩,⟨rfl,rfl⟩,trivial⟩ ox ⟨⟨rfl,⟨cs0.toList++(cs1.toList++(cs2.toList++(cs3.toList++([])))),by kernel_rfl,hB4⟩,by kernel_rfl⟩,⟨rfl,⟨cs5.toList++(cs6.toList++(cs7.toList++(cs8.toList++([])))),by kernel_rfl,hB9⟩,by kernel_rfl⟩,trivial⟩ ox h
theorem aTj (hcs0:Seg 2 cs0) (hcs1:Seg 2 cs1) (hcs2:Seg 2 cs2) (hcs3:Seg 2 cs3) (hcs5:Seg 2 cs5) (hcs6:Seg 2 cs6) (hcs7:Seg 2 cs7) (hcs8:Seg 2 cs8) (hB4:Sy.Blk k p4 34 (cs0.toList++(cs1.toList++(cs2.toList++(cs3.toList++([]))))).toArray) (hB9:Sy.Blk k p9 34 (cs5.toList++(cs6.toList++(cs7.toList++(cs8.toList++([]))))).toArray)
 (h:Cl k 244 #[agg cs3,agg cs8] fun k1 r0=>Gt 2 r0 fun cs10=>
 Rt R k1 (agg cs10)) :
  CallsG Tryz.prog 306 #[int .i64 3,int .i64 3,Value.pointer (some ⟨p4,0,none⟩),Value.pointer (some ⟨p9,0,none⟩)] k R:=
  Sy.execFn_use_heap (cfg:={ opq:=[33] }) (args:=[.one (.lit (.int .i64 (3))),.one (.lit (.int .i64 (3))),.one (.ptr 0 0),.one (.ptr 1 0)]) (vals:=[agg cs0,agg cs1,agg cs2,agg cs3,(Value.pointer (some ⟨p4,0,none⟩)),agg cs5,agg cs6,agg cs7,agg cs8,(Value.pointer (some ⟨p9,0,none⟩))]) (kinds:=[.seg 2,.seg 2,.seg 2,.seg 2,.any,.seg 2,.seg 2,.seg 2,.seg 2,.any]) (blks:=[p4,p9]) (heap:=[{ ty:=34,cells:=[.seg 0 2,.seg 1 2,.seg 2 2,.seg 3 2],pub:=true,pv:=4 },{ ty:=34,cells:=[.seg 5 2,.seg 6 2,.seg 7 2,.seg 8 2],pub:=true,pv:=9 }]) ox ⟨⟨cs0,rfl,hcs0⟩,⟨cs1,rfl,hcs1⟩,⟨cs2,rfl,hcs2⟩,⟨cs3,rfl,hcs3⟩,⟨rfl,rfl⟩,⟨cs5,rfl,hcs5⟩,⟨cs6,rfl,hcs6⟩,⟨cs7,rfl,hcs7⟩,⟨cs8,rfl,hcs8⟩,⟨rfl,rfl⟩,trivial⟩ ox ⟨⟨rfl,⟨cs0.toList++(cs1.toList++(cs2.toList++(cs3.toList++([])))),by kernel_rfl,hB4⟩,by kernel_rfl⟩,⟨rfl,⟨cs5.toList++(cs6.toList++(cs7.toList++(cs8.toList++([])))),by kernel_rfl,hB9⟩,by kernel_rfl⟩,trivial⟩ ox h
theorem aKu 
 (h:Br ((n0:Int) == n1) (Rt R k (int .i64 n0)) (Br ((n1:Int) == 0) (Rt R k (int .i64 n0)) (Br ((n0:Int) == 0) (Rt R k (int .i64 n1)) (Cl k 364 #[(Value.pointer (some ⟨p2,0,none⟩)),(Value.pointer (some ⟨p3,0,none⟩))] fun k4 r3=>Gi r3 fun n4=>
 Rt R k4 (int .i64 (wrap .i64 (n0*n4))))))) :
  CallsG Tryz.prog 289 #[int .i64 n0,int .i64 n1,Value.func (.func 364) #[] #[(Value.pointer (some ⟨p2,0,none⟩)),(Value.pointer (some ⟨p3,0,none⟩))]] k R:=
  Sy.execFn_use_heap (cfg:={ opq:=[] }) (args:=[.one (.var 0),.one (.var 1),.one (.fn 364 [2,3])]) (vals:=[int .i64 n0,int .i64 n1,(Value.pointer (some ⟨p2,0,none⟩)),(Value.pointer (some ⟨p3,0,none⟩))]) (kinds:=[.int .i64,.int .i64,.any,.any]) (blks:=[]) (heap:=[]) ox ⟨⟨_,rfl⟩,⟨_,rfl⟩,⟨rfl,rfl⟩,⟨rfl,rfl⟩,trivial⟩ ox trivial ox h
theorem aKv 
 (h:Br ((n0:Int) == n1) (Rt R k (int .i64 n0)) (Br ((n1:Int) == 0) (Rt R k (int .i64 n0)) (Br ((n0:Int) == 0) (Rt R k (int .i64 n1)) (Cl k 291 #[(Value.pointer (some ⟨p2,0,none⟩)),(Value.pointer (some ⟨p3,0,none⟩)),(Value.pointer (some ⟨p4,0,none⟩)),(Value.pointer (some ⟨p5,0,none⟩))] fun k4 r3=>Gi r3 fun n6=>
 Rt R k4 (int .i64 (wrap .i64 (n0*n6))))))) :
  CallsG Tryz.prog 289 #[int .i64 n0,int .i64 n1,Value.func (.func 291) #[] #[(Value.pointer (some ⟨p2,0,none⟩)),(Value.pointer (some ⟨p3,0,none⟩)),(Value.pointer (some ⟨p4,0,none⟩)),(Value.pointer (some ⟨p5,0,none⟩))]] k R:=
  Sy.execFn_use_heap (cfg:={ opq:=[] }) (args:=[.one (.var 0),.one (.var 1),.one (.fn 291 [2,3,4,5])]) (vals:=[int .i64 n0,int .i64 n1,(Value.pointer (some ⟨p2,0,none⟩)),(Value.pointer (some ⟨p3,0,none⟩)),(Value.pointer (some ⟨p4,0,none⟩)),(Value.pointer (some ⟨p5,0,none⟩))]) (kinds:=[.int .i64,.int .i64,.any,.any,.any,.any]) (blks:=[]) (heap:=[]) ox ⟨⟨_,rfl⟩,⟨_,rfl⟩,⟨rfl,rfl⟩,⟨rfl,rfl⟩,⟨rfl,rfl⟩,⟨rfl,rfl⟩,trivial⟩ ox trivial ox h
theorem bAd (hcs0:Seg 2 cs0) (hcs2:Seg 2 cs2) (hB1:Sy.Blk k p1 33 (cs0.toList++([])).toArray) (hB3:Sy.Blk k p3 33 (cs2.toList++([])).toArray)
 (h:Cl k 244 #[agg cs0,agg cs0] fun k1 r0=>Gt 2 r0 fun cs4=>
 Cl k1 244 #[agg cs2,agg cs2] fun k3 r2=>Gt 2 r2 fun cs5=>
 Cl k3 292 #[agg cs5,int .u64 2] fun k5 r4=>Gt 2 r4 fun cs6=>
 Cl k5 204 #[agg cs6] fun k7 r6=>Gt 2 r6 fun cs7=>
 Cl k7 166 #[agg cs4,agg cs7] fun k9 r8=>Gt 2 r8 fun cs8=>
 Cl k9 223 #[agg cs8] fun k11 r10=>Gi r10 fun n9=>
 Rt R k11 (int .i64 n9)) :
  CallsG Tryz.prog 364 #[Value.pointer (some ⟨p1,0,none⟩),Value.pointer (some ⟨p3,0,none⟩)] k R:=
  Sy.execFn_use_heap (cfg:={ opq:=[33] }) (args:=[.one (.ptr 0 0),.one (.ptr 1 0)]) (vals:=[agg cs0,(Value.pointer (some ⟨p1,0,none⟩)),agg cs2,(Value.pointer (some ⟨p3,0,none⟩))]) (kinds:=[.seg 2,.any,.seg 2,.any]) (blks:=[p1,p3]) (heap:=[{ ty:=33,cells:=[.seg 0 2],pub:=true,pv:=1 },{ ty:=33,cells:=[.seg 2 2],pub:=true,pv:=3 }]) ox ⟨⟨cs0,rfl,hcs0⟩,⟨rfl,rfl⟩,⟨cs2,rfl,hcs2⟩,⟨rfl,rfl⟩,trivial⟩ ox ⟨⟨rfl,⟨cs0.toList++([]),by kernel_rfl,hB1⟩,by kernel_rfl⟩,⟨rfl,⟨cs2.toList++([]),by kernel_rfl,hB3⟩,by kernel_rfl⟩,trivial⟩ ox h
theorem bAe (hcs0:Seg 2 cs0) (hcs2:Seg 2 cs2) (hcs4:Seg 2 cs4) (hcs6:Seg 2 cs6) (hB1:Sy.Blk k p1 33 (cs0.toList++([])).toArray) (hB3:Sy.Blk k p3 33 (cs2.toList++([])).toArray) (hB5:Sy.Blk k p5 33 (cs4.toList++([])).toArray) (hB7:Sy.Blk k p7 33 (cs6.toList++([])).toArray)
 (h:Cl k 244 #[agg cs0,agg cs0] fun k1 r0=>Gt 2 r0 fun cs8=>
 Cl k1 244 #[agg cs2,agg cs2] fun k3 r2=>Gt 2 r2 fun cs9=>
 Cl k3 292 #[agg cs9,int .u64 2] fun k5 r4=>Gt 2 r4 fun cs10=>
 Cl k5 166 #[agg cs8,agg cs10] fun k7 r6=>Gt 2 r6 fun cs11=>
 Cl k7 244 #[agg cs4,agg cs4] fun k9 r8=>Gt 2 r8 fun cs12=>
 Cl k9 244 #[agg cs6,agg cs6] fun k11 r10=>Gt 2 r10 fun cs13=>
 Cl k11 292 #[agg cs13,int .u64 2] fun k13 r12=>Gt 2 r12 fun cs14=>
 Cl k13 166 #[agg cs12,agg cs14] fun k15 r14=>Gt 2 r14 fun cs15=>
 Cl k15 292 #[agg cs15,int .u64 3] fun k17 r16=>Gt 2 r16 fun cs16=>
 Cl k17 204 #[agg cs16] fun k19 r18=>Gt 2 r18 fun cs17=>
 Cl k19 166 #[agg cs11,agg cs17] fun k21 r20=>Gt 2 r20 fun cs18=>
 Cl k21 244 #[agg cs0,agg cs2] fun k23 r22=>Gt 2 r22 fun cs19=>
 Cl k23 244 #[agg cs4,agg cs6] fun k25 r24=>Gt 2 r24 fun cs20=>
 Cl k25 292 #[agg cs20,int .u64 3] fun k27 r26=>Gt 2 r26 fun cs21=>
 Cl k27 204 #[agg cs21] fun k29 r28=>Gt 2 r28 fun cs22=>
 Cl k29 166 #[agg cs19,agg cs22] fun k31 r30=>Gt 2 r30 fun cs23=>
 Cl k31 292 #[agg cs23,int .u64 2] fun k33 r32=>Gt 2 r32 fun cs24=>
 Cl k33 290 #[agg cs18,agg cs24] fun k35 r34=>Gi r34 fun n25=>
 Rt R k35 (int .i64 n25)) :
  CallsG Tryz.prog 291 #[Value.pointer (some ⟨p1,0,none⟩),Value.pointer (some ⟨p3,0,none⟩),Value.pointer (some ⟨p5,0,none⟩),Value.pointer (some ⟨p7,0,none⟩)] k R:=
  Sy.execFn_use_heap (cfg:={ opq:=[33] }) (args:=[.one (.ptr 0 0),.one (.ptr 1 0),.one (.ptr 2 0),.one (.ptr 3 0)]) (vals:=[agg cs0,(Value.pointer (some ⟨p1,0,none⟩)),agg cs2,(Value.pointer (some ⟨p3,0,none⟩)),agg cs4,(Value.pointer (some ⟨p5,0,none⟩)),agg cs6,(Value.pointer (some ⟨p7,0,none⟩))]) (kinds:=[.seg 2,.any,.seg 2,.any,.seg 2,.any,.seg 2,.any]) (blks:=[p1,p3,p5,p7]) (heap:=[{ ty:=33,cells:=[.seg 0 2],pub:=true,pv:=1 },{ ty:=33,cells:=[.seg 2 2],pub:=true,pv:=3 },{ ty:=33,cells:=[.seg 4 2],pub:=true,pv:=5 },{ ty:=33,cells:=[.seg 6 2],pub:=true,pv:=7 }]) ox ⟨⟨cs0,rfl,hcs0⟩,⟨rfl,rfl⟩,⟨cs2,rfl,hcs2⟩,⟨rfl,rfl⟩,⟨cs4,rfl,hcs4⟩,⟨rfl,rfl⟩,⟨cs6,rfl,hcs6⟩,⟨rfl,rfl⟩,trivial⟩ ox ⟨⟨rfl,⟨cs0.toList++([]),by kernel_rfl,hB1⟩,by kernel_rfl⟩,⟨rfl,⟨cs2.toList++([]),by kernel_rfl,hB3⟩,by kernel_rfl⟩,⟨rfl,⟨cs4.toList++([]),by kernel_rfl,hB5⟩,by kernel_rfl⟩,⟨rfl,⟨cs6.toList++([]),by kernel_rfl,hB7⟩,by kernel_rfl⟩,trivial⟩ ox h
end Go.Proofs.YtmifbgccpdmjpaaGreat

namespace Go.Proofs.YtmifbgccpdmjpaaGreat
open Go.RowKit Num
open Sy (Up Sees CallsG Seg)
section
variable {k:World}{R:World→Value→Prop}{K L:Nat}{cs cs':Array Value}{v v':Q4}
theorem Up.blk {k k':World}(u:Up k k') {p t:Nat}{cs:Array Value}(h:Sy.Blk k p t cs):Sy.Blk k' p t cs:=u.live p _ h (by intro e;unfold Sy.dead at e;injection e with e1 e2 e3;cases e3)
def Box4 (k:World) (p:Nat) (x0 x1 x2 x3:Int) (K:Nat):Prop:=
 ∃c0 c1 c2 c3:Array Value,Sy.Blk k p 34 (c0.toList++(c1.toList++(c2.toList++(c3.toList++([]))))).toArray∧IntV k c0 x0 K∧IntV k c1 x1 K∧IntV k c2 x2 K∧IntV k c3 x3 K
theorem Box4.up {k k':World}{p:Nat}{x0 x1 x2 x3:Int}(h:Box4 k p x0 x1 x2 x3 K) (u:Up k k'):Box4 k' p x0 x1 x2 x3 K:=by
 obtain⟨c0,c1,c2,c3,hb,h0,h1,h2,h3⟩:=h;exact⟨c0,c1,c2,c3,Up.blk u hb,h0.up u,h1.up u,h2.up u,h3.up u⟩
theorem aXw {p p':Nat}{x0 x1 x2 x3 y0 y1 y2 y3:Int}(hx:Box4 k p x0 x1 x2 x3 K) (hy:Box4 k p' y0 y1 y2 y3 K) (hK:K≤268435456) (C:∀k' ds,Up k k'→IntV k' ds (x0*y0) (2*K)→R k' (.agg ds)) :
 Cl k 306 #[.int .i64 0,.int .i64 0,.pointer (some ⟨p,0,none⟩),.pointer (some ⟨p',0,none⟩)] R:=by
 have e2:2*K=K+K:=oq
 rw [e2]at C;intro k0 u0;replace hx:=hx.up u0;replace hy:=hy.up u0;replace C:=fun k' ds u=>C k' ds (u0.trans u);obtain⟨c0,c1,c2,c3,hb,h0,h1,h2,h3⟩:=hx;obtain⟨d0,d1,d2,d3,hb',g0,g1,g2,g3⟩:=hy;refine aSu h0.seg h1.seg h2.seg h3.seg g0.seg g1.seg g2.seg g3.seg hb hb' ?_;refine bG h0 g0 oq oq ?_;intro k1 cA u1 a;refine⟨cA,a.seg,rfl,?_⟩;replace C:=fun k' ds u=>C k' ds (u1.trans u);intro k2 u2;replace a:=a.up u2;exact C _ _ u2 a
theorem aXx {p p':Nat}{x0 x1 x2 x3 y0 y1 y2 y3:Int}(hx:Box4 k p x0 x1 x2 x3 K) (hy:Box4 k p' y0 y1 y2 y3 K) (hK:K≤268435456) (C:∀k' ds,Up k k'→IntV k' ds (x0*y1) (2*K)→R k' (.agg ds)) :
 Cl k 306 #[.int .i64 0,.int .i64 1,.pointer (some ⟨p,0,none⟩),.pointer (some ⟨p',0,none⟩)] R:=by
 have e2:2*K=K+K:=oq
 rw [e2]at C;intro k0 u0;replace hx:=hx.up u0;replace hy:=hy.up u0;replace C:=fun k' ds u=>C k' ds (u0.trans u);obtain⟨c0,c1,c2,c3,hb,h0,h1,h2,h3⟩:=hx;obtain⟨d0,d1,d2,d3,hb',g0,g1,g2,g3⟩:=hy;refine aSv h0.seg h1.seg h2.seg h3.seg g0.seg g1.seg g2.seg g3.seg hb hb' ?_;refine bG h0 g1 oq oq ?_;intro k1 cA u1 a;refine⟨cA,a.seg,rfl,?_⟩;replace C:=fun k' ds u=>C k' ds (u1.trans u);intro k2 u2;replace a:=a.up u2;exact C _ _ u2 a
theorem aXy {p p':Nat}{x0 x1 x2 x3 y0 y1 y2 y3:Int}(hx:Box4 k p x0 x1 x2 x3 K) (hy:Box4 k p' y0 y1 y2 y3 K) (hK:K≤268435456) (C:∀k' ds,Up k k'→IntV k' ds (x0*y2) (2*K)→R k' (.agg ds)) :
 Cl k 306 #[.int .i64 0,.int .i64 2,.pointer (some ⟨p,0,none⟩),.pointer (some ⟨p',0,none⟩)] R:=by
 have e2:2*K=K+K:=oq
 rw [e2]at C;intro k0 u0;replace hx:=hx.up u0;replace hy:=hy.up u0;replace C:=fun k' ds u=>C k' ds (u0.trans u);obtain⟨c0,c1,c2,c3,hb,h0,h1,h2,h3⟩:=hx;obtain⟨d0,d1,d2,d3,hb',g0,g1,g2,g3⟩:=hy;refine aSw h0.seg h1.seg h2.seg h3.seg g0.seg g1.seg g2.seg g3.seg hb hb' ?_;refine bG h0 g2 oq oq ?_;intro k1 cA u1 a;refine⟨cA,a.seg,rfl,?_⟩;replace C:=fun k' ds u=>C k' ds (u1.trans u);intro k2 u2;replace a:=a.up u2;exact C _ _ u2 a
theorem aXz {p p':Nat}{x0 x1 x2 x3 y0 y1 y2 y3:Int}(hx:Box4 k p x0 x1 x2 x3 K) (hy:Box4 k p' y0 y1 y2 y3 K) (hK:K≤268435456) (C:∀k' ds,Up k k'→IntV k' ds (x0*y3) (2*K)→R k' (.agg ds)) :
 Cl k 306 #[.int .i64 0,.int .i64 3,.pointer (some ⟨p,0,none⟩),.pointer (some ⟨p',0,none⟩)] R:=by
 have e2:2*K=K+K:=oq
 rw [e2]at C;intro k0 u0;replace hx:=hx.up u0;replace hy:=hy.up u0;replace C:=fun k' ds u=>C k' ds (u0.trans u);obtain⟨c0,c1,c2,c3,hb,h0,h1,h2,h3⟩:=hx;obtain⟨d0,d1,d2,d3,hb',g0,g1,g2,g3⟩:=hy;refine aSx h0.seg h1.seg h2.seg h3.seg g0.seg g1.seg g2.seg g3.seg hb hb' ?_;refine bG h0 g3 oq oq ?_;intro k1 cA u1 a;refine⟨cA,a.seg,rfl,?_⟩;replace C:=fun k' ds u=>C k' ds (u1.trans u);intro k2 u2;replace a:=a.up u2;exact C _ _ u2 a
theorem aYa {p p':Nat}{x0 x1 x2 x3 y0 y1 y2 y3:Int}(hx:Box4 k p x0 x1 x2 x3 K) (hy:Box4 k p' y0 y1 y2 y3 K) (hK:K≤268435456) (C:∀k' ds,Up k k'→IntV k' ds (x1*y0) (2*K)→R k' (.agg ds)) :
 Cl k 306 #[.int .i64 1,.int .i64 0,.pointer (some ⟨p,0,none⟩),.pointer (some ⟨p',0,none⟩)] R:=by
 have e2:2*K=K+K:=oq
 rw [e2]at C;intro k0 u0;replace hx:=hx.up u0;replace hy:=hy.up u0;replace C:=fun k' ds u=>C k' ds (u0.trans u);obtain⟨c0,c1,c2,c3,hb,h0,h1,h2,h3⟩:=hx;obtain⟨d0,d1,d2,d3,hb',g0,g1,g2,g3⟩:=hy;refine aSy h0.seg h1.seg h2.seg h3.seg g0.seg g1.seg g2.seg g3.seg hb hb' ?_;refine bG h1 g0 oq oq ?_;intro k1 cA u1 a;refine⟨cA,a.seg,rfl,?_⟩;replace C:=fun k' ds u=>C k' ds (u1.trans u);intro k2 u2;replace a:=a.up u2;exact C _ _ u2 a
theorem aYb {p p':Nat}{x0 x1 x2 x3 y0 y1 y2 y3:Int}(hx:Box4 k p x0 x1 x2 x3 K) (hy:Box4 k p' y0 y1 y2 y3 K) (hK:K≤268435456) (C:∀k' ds,Up k k'→IntV k' ds (x1*y1) (2*K)→R k' (.agg ds)) :
 Cl k 306 #[.int .i64 1,.int .i64 1,.pointer (some ⟨p,0,none⟩),.pointer (some ⟨p',0,none⟩)] R:=by
 have e2:2*K=K+K:=oq
 rw [e2]at C;intro k0 u0;replace hx:=hx.up u0;replace hy:=hy.up u0;replace C:=fun k' ds u=>C k' ds (u0.trans u);obtain⟨c0,c1,c2,c3,hb,h0,h1,h2,h3⟩:=hx;obtain⟨d0,d1,d2,d3,hb',g0,g1,g2,g3⟩:=hy;refine aSz h0.seg h1.seg h2.seg h3.seg g0.seg g1.seg g2.seg g3.seg hb hb' ?_;refine bG h1 g1 oq oq ?_;intro k1 cA u1 a;refine⟨cA,a.seg,rfl,?_⟩;replace C:=fun k' ds u=>C k' ds (u1.trans u);intro k2 u2;replace a:=a.up u2;exact C _ _ u2 a
theorem aYc {p p':Nat}{x0 x1 x2 x3 y0 y1 y2 y3:Int}(hx:Box4 k p x0 x1 x2 x3 K) (hy:Box4 k p' y0 y1 y2 y3 K) (hK:K≤268435456) (C:∀k' ds,Up k k'→IntV k' ds (x1*y2) (2*K)→R k' (.agg ds)) :
 Cl k 306 #[.int .i64 1,.int .i64 2,.pointer (some ⟨p,0,none⟩),.pointer (some ⟨p',0,none⟩)] R:=by
 have e2:2*K=K+K:=oq
 rw [e2]at C;intro k0 u0;replace hx:=hx.up u0;replace hy:=hy.up u0;replace C:=fun k' ds u=>C k' ds (u0.trans u);obtain⟨c0,c1,c2,c3,hb,h0,h1,h2,h3⟩:=hx;obtain⟨d0,d1,d2,d3,hb',g0,g1,g2,g3⟩:=hy;refine aTa h0.seg h1.seg h2.seg h3.seg g0.seg g1.seg g2.seg g3.seg hb hb' ?_;refine bG h1 g2 oq oq ?_;intro k1 cA u1 a;refine⟨cA,a.seg,rfl,?_⟩;replace C:=fun k' ds u=>C k' ds (u1.trans u);intro k2 u2;replace a:=a.up u2;exact C _ _ u2 a
theorem aYd {p p':Nat}{x0 x1 x2 x3 y0 y1 y2 y3:Int}(hx:Box4 k p x0 x1 x2 x3 K) (hy:Box4 k p' y0 y1 y2 y3 K) (hK:K≤268435456) (C:∀k' ds,Up k k'→IntV k' ds (x1*y3) (2*K)→R k' (.agg ds)) :
 Cl k 306 #[.int .i64 1,.int .i64 3,.pointer (some ⟨p,0,none⟩),.pointer (some ⟨p',0,none⟩)] R:=by
 have e2:2*K=K+K:=oq
 rw [e2]at C;intro k0 u0;replace hx:=hx.up u0;replace hy:=hy.up u0;replace C:=fun k' ds u=>C k' ds (u0.trans u);obtain⟨c0,c1,c2,c3,hb,h0,h1,h2,h3⟩:=hx;obtain⟨d0,d1,d2,d3,hb',g0,g1,g2,g3⟩:=hy;refine aTb h0.seg h1.seg h2.seg h3.seg g0.seg g1.seg g2.seg g3.seg hb hb' ?_;refine bG h1 g3 oq oq ?_;intro k1 cA u1 a;refine⟨cA,a.seg,rfl,?_⟩;replace C:=fun k' ds u=>C k' ds (u1.trans u);intro k2 u2;replace a:=a.up u2;exact C _ _ u2 a
theorem aYe {p p':Nat}{x0 x1 x2 x3 y0 y1 y2 y3:Int}(hx:Box4 k p x0 x1 x2 x3 K) (hy:Box4 k p' y0 y1 y2 y3 K) (hK:K≤268435456) (C:∀k' ds,Up k k'→IntV k' ds (x2*y0) (2*K)→R k' (.agg ds)) :
 Cl k 306 #[.int .i64 2,.int .i64 0,.pointer (some ⟨p,0,none⟩),.pointer (some ⟨p',0,none⟩)] R:=by
 have e2:2*K=K+K:=oq
 rw [e2]at C;intro k0 u0;replace hx:=hx.up u0;replace hy:=hy.up u0;replace C:=fun k' ds u=>C k' ds (u0.trans u);obtain⟨c0,c1,c2,c3,hb,h0,h1,h2,h3⟩:=hx;obtain⟨d0,d1,d2,d3,hb',g0,g1,g2,g3⟩:=hy;refine aTc h0.seg h1.seg h2.seg h3.seg g0.seg g1.seg g2.seg g3.seg hb hb' ?_;refine bG h2 g0 oq oq ?_;intro k1 cA u1 a;refine⟨cA,a.seg,rfl,?_⟩;replace C:=fun k' ds u=>C k' ds (u1.trans u);intro k2 u2;replace a:=a.up u2;exact C _ _ u2 a
theorem aYf {p p':Nat}{x0 x1 x2 x3 y0 y1 y2 y3:Int}(hx:Box4 k p x0 x1 x2 x3 K) (hy:Box4 k p' y0 y1 y2 y3 K) (hK:K≤268435456) (C:∀k' ds,Up k k'→IntV k' ds (x2*y1) (2*K)→R k' (.agg ds)) :
 Cl k 306 #[.int .i64 2,.int .i64 1,.pointer (some ⟨p,0,none⟩),.pointer (some ⟨p',0,none⟩)] R:=by
 have e2:2*K=K+K:=oq
 rw [e2]at C;intro k0 u0;replace hx:=hx.up u0;replace hy:=hy.up u0;replace C:=fun k' ds u=>C k' ds (u0.trans u);obtain⟨c0,c1,c2,c3,hb,h0,h1,h2,h3⟩:=hx;obtain⟨d0,d1,d2,d3,hb',g0,g1,g2,g3⟩:=hy;refine aTd h0.seg h1.seg h2.seg h3.seg g0.seg g1.seg g2.seg g3.seg hb hb' ?_;refine bG h2 g1 oq oq ?_;intro k1 cA u1 a;refine⟨cA,a.seg,rfl,?_⟩;replace C:=fun k' ds u=>C k' ds (u1.trans u);intro k2 u2;replace a:=a.up u2;exact C _ _ u2 a
theorem aYg {p p':Nat}{x0 x1 x2 x3 y0 y1 y2 y3:Int}(hx:Box4 k p x0 x1 x2 x3 K) (hy:Box4 k p' y0 y1 y2 y3 K) (hK:K≤268435456) (C:∀k' ds,Up k k'→IntV k' ds (x2*y2) (2*K)→R k' (.agg ds)) :
 Cl k 306 #[.int .i64 2,.int .i64 2,.pointer (some ⟨p,0,none⟩),.pointer (some ⟨p',0,none⟩)] R:=by
 have e2:2*K=K+K:=oq
 rw [e2]at C;intro k0 u0;replace hx:=hx.up u0;replace hy:=hy.up u0;replace C:=fun k' ds u=>C k' ds (u0.trans u);obtain⟨c0,c1,c2,c3,hb,h0,h1,h2,h3⟩:=hx;obtain⟨d0,d1,d2,d3,hb',g0,g1,g2,g3⟩:=hy;refine aTe h0.seg h1.seg h2.seg h3.seg g0.seg g1.seg g2.seg g3.seg hb hb' ?_;refine bG h2 g2 oq oq ?_;intro k1 cA u1 a;refine⟨cA,a.seg,rfl,?_⟩;replace C:=fun k' ds u=>C k' ds (u1.trans u);intro k2 u2;replace a:=a.up u2;exact C _ _ u2 a
theorem aYh {p p':Nat}{x0 x1 x2 x3 y0 y1 y2 y3:Int}(hx:Box4 k p x0 x1 x2 x3 K) (hy:Box4 k p' y0 y1 y2 y3 K) (hK:K≤268435456) (C:∀k' ds,Up k k'→IntV k' ds (x2*y3) (2*K)→R k' (.agg ds)) :
 Cl k 306 #[.int .i64 2,.int .i64 3,.pointer (some ⟨p,0,none⟩),.pointer (some ⟨p',0,none⟩)] R:=by
 have e2:2*K=K+K:=oq
 rw [e2]at C;intro k0 u0;replace hx:=hx.up u0;replace hy:=hy.up u0;replace C:=fun k' ds u=>C k' ds (u0.trans u);obtain⟨c0,c1,c2,c3,hb,h0,h1,h2,h3⟩:=hx;obtain⟨d0,d1,d2,d3,hb',g0,g1,g2,g3⟩:=hy;refine aTf h0.seg h1.seg h2.seg h3.seg g0.seg g1.seg g2.seg g3.seg hb hb' ?_;refine bG h2 g3 oq oq ?_;intro k1 cA u1 a;refine⟨cA,a.seg,rfl,?_⟩;replace C:=fun k' ds u=>C k' ds (u1.trans u);intro k2 u2;replace a:=a.up u2;exact C _ _ u2 a
theorem aYi {p p':Nat}{x0 x1 x2 x3 y0 y1 y2 y3:Int}(hx:Box4 k p x0 x1 x2 x3 K) (hy:Box4 k p' y0 y1 y2 y3 K) (hK:K≤268435456) (C:∀k' ds,Up k k'→IntV k' ds (x3*y0) (2*K)→R k' (.agg ds)) :
 Cl k 306 #[.int .i64 3,.int .i64 0,.pointer (some ⟨p,0,none⟩),.pointer (some ⟨p',0,none⟩)] R:=by
 have e2:2*K=K+K:=oq
 rw [e2]at C;intro k0 u0;replace hx:=hx.up u0;replace hy:=hy.up u0;replace C:=fun k' ds u=>C k' ds (u0.trans u);obtain⟨c0,c1,c2,c3,hb,h0,h1,h2,h3⟩:=hx;obtain⟨d0,d1,d2,d3,hb',g0,g1,g2,g3⟩:=hy;refine aTg h0.seg h1.seg h2.seg h3.seg g0.seg g1.seg g2.seg g3.seg hb hb' ?_;refine bG h3 g0 oq oq ?_;intro k1 cA u1 a;refine⟨cA,a.seg,rfl,?_⟩;replace C:=fun k' ds u=>C k' ds (u1.trans u);intro k2 u2;replace a:=a.up u2;exact C _ _ u2 a
theorem aYj {p p':Nat}{x0 x1 x2 x3 y0 y1 y2 y3:Int}(hx:Box4 k p x0 x1 x2 x3 K) (hy:Box4 k p' y0 y1 y2 y3 K) (hK:K≤268435456) (C:∀k' ds,Up k k'→IntV k' ds (x3*y1) (2*K)→R k' (.agg ds)) :
 Cl k 306 #[.int .i64 3,.int .i64 1,.pointer (some ⟨p,0,none⟩),.pointer (some ⟨p',0,none⟩)] R:=by
 have e2:2*K=K+K:=oq
 rw [e2]at C;intro k0 u0;replace hx:=hx.up u0;replace hy:=hy.up u0;replace C:=fun k' ds u=>C k' ds (u0.trans u);obtain⟨c0,c1,c2,c3,hb,h0,h1,h2,h3⟩:=hx;obtain⟨d0,d1,d2,d3,hb',g0,g1,g2,g3⟩:=hy;refine aTh h0.seg h1.seg h2.seg h3.seg g0.seg g1.seg g2.seg g3.seg hb hb' ?_;refine bG h3 g1 oq oq ?_;intro k1 cA u1 a;refine⟨cA,a.seg,rfl,?_⟩;replace C:=fun k' ds u=>C k' ds (u1.trans u);intro k2 u2;replace a:=a.up u2;exact C _ _ u2 a
theorem aYk {p p':Nat}{x0 x1 x2 x3 y0 y1 y2 y3:Int}(hx:Box4 k p x0 x1 x2 x3 K) (hy:Box4 k p' y0 y1 y2 y3 K) (hK:K≤268435456) (C:∀k' ds,Up k k'→IntV k' ds (x3*y2) (2*K)→R k' (.agg ds)) :
 Cl k 306 #[.int .i64 3,.int .i64 2,.pointer (some ⟨p,0,none⟩),.pointer (some ⟨p',0,none⟩)] R:=by
 have e2:2*K=K+K:=oq
 rw [e2]at C;intro k0 u0;replace hx:=hx.up u0;replace hy:=hy.up u0;replace C:=fun k' ds u=>C k' ds (u0.trans u);obtain⟨c0,c1,c2,c3,hb,h0,h1,h2,h3⟩:=hx;obtain⟨d0,d1,d2,d3,hb',g0,g1,g2,g3⟩:=hy;refine aTi h0.seg h1.seg h2.seg h3.seg g0.seg g1.seg g2.seg g3.seg hb hb' ?_;refine bG h3 g2 oq oq ?_;intro k1 cA u1 a;refine⟨cA,a.seg,rfl,?_⟩;replace C:=fun k' ds u=>C k' ds (u1.trans u);intro k2 u2;replace a:=a.up u2;exact C _ _ u2 a
theorem aYl {p p':Nat}{x0 x1 x2 x3 y0 y1 y2 y3:Int}(hx:Box4 k p x0 x1 x2 x3 K) (hy:Box4 k p' y0 y1 y2 y3 K) (hK:K≤268435456) (C:∀k' ds,Up k k'→IntV k' ds (x3*y3) (2*K)→R k' (.agg ds)) :
 Cl k 306 #[.int .i64 3,.int .i64 3,.pointer (some ⟨p,0,none⟩),.pointer (some ⟨p',0,none⟩)] R:=by
 have e2:2*K=K+K:=oq
 rw [e2]at C;intro k0 u0;replace hx:=hx.up u0;replace hy:=hy.up u0;replace C:=fun k' ds u=>C k' ds (u0.trans u);obtain⟨c0,c1,c2,c3,hb,h0,h1,h2,h3⟩:=hx;obtain⟨d0,d1,d2,d3,hb',g0,g1,g2,g3⟩:=hy;refine aTj h0.seg h1.seg h2.seg h3.seg g0.seg g1.seg g2.seg g3.seg hb hb' ?_;refine bG h3 g3 oq oq ?_;intro k1 cA u1 a;refine⟨cA,a.seg,rfl,?_⟩;replace C:=fun k' ds u=>C k' ds (u1.trans u);intro k2 u2;replace a:=a.up u2;exact C _ _ u2 a
theorem dO {c0 c1 c2 c3 c0' c1' c2' c3':Array Value}{x0 x1 x2 x3 y0 y1 y2 y3:Int}(i0:IntV k c0 x0 K) (i1:IntV k c1 x1 K) (i2:IntV k c2 x2 K) (i3:IntV k c3 x3 K) (j0:IntV k c0' y0 K) (j1:IntV k c1' y1 K) (j2:IntV k c2' y2 K) (j3:IntV k c3' y3 K) (hK:K≤268435456)
 (C:∀k' d0 d1 d2 d3,Up k k'→IntV k' d0 (x0*y0+x1*y1*(2:Nat)+x2*y2*(3:Nat)+x3*y3*(6:Nat)) (2*K+4)→IntV k' d1 (x0*y1+x1*y0+(x2*y3+x3*y2)*(3:Nat)) (2*K+4)→IntV k' d2 (x0*y2+x2*y0+(x1*y3+x3*y1)*(2:Nat)) (2*K+4)→IntV k' d3 (x0*y3+x3*y0+x1*y2+x2*y1) (2*K+4)→R k' (.agg (d0.toList++(d1.toList++(d2.toList++(d3.toList++([]))))).toArray)) :
 Cl k 198 #[.agg (c0.toList++(c1.toList++(c2.toList++(c3.toList++([]))))).toArray,.agg (c0'.toList++(c1'.toList++(c2'.toList++(c3'.toList++([]))))).toArray] R:=by
 intro k0 u0;replace i0:=i0.up u0;replace i1:=i1.up u0;replace i2:=i2.up u0;replace i3:=i3.up u0;replace j0:=j0.up u0;replace j1:=j1.up u0;replace j2:=j2.up u0;replace j3:=j3.up u0;replace C:=fun k' d0 d1 d2 d3 u=>C k' d0 d1 d2 d3 (u0.trans u);refine aDf i0.seg i1.seg i2.seg i3.seg j0.seg j1.seg j2.seg j3.seg ?_;intro p kA uA hA;replace C:=fun k' d0 d1 d2 d3 u=>C k' d0 d1 d2 d3 (uA.trans u);have bx:Box4 kA p x0 x1 x2 x3 K:=⟨c0,c1,c2,c3,hA,i0.up uA,i1.up uA,i2.up uA,i3.up uA⟩;intro p' kB uB hB;replace C:=fun k' d0 d1 d2 d3 u=>C k' d0 d1 d2 d3 (uB.trans u);replace uA:=uA.trans uB;have bz:Box4 kB p' y0 y1 y2 y3 K:=⟨c0',c1',c2',c3',hB,j0.up uA,j1.up uA,j2.up uA,j3.up uA⟩;replace bx:=bx.up uB;clear hA hB i0 i1 i2 i3 j0 j1 j2 j3;refine aXw bx bz oq ?_;intro k1 ea1 u1 a1;refine⟨ea1,a1.seg,rfl,?_⟩;replace bx:=bx.up u1;replace bz:=bz.up u1;replace C:=fun k' d0 d1 d2 d3 u=>C k' d0 d1 d2 d3 (u1.trans u);refine aYb bx bz oq ?_;intro k2 ea2 u2 a2;refine⟨ea2,a2.seg,rfl,?_⟩;replace bx:=bx.up u2;replace bz:=bz.up u2;replace a1:=a1.up u2;replace C:=fun k' d0 d1 d2 d3 u=>C k' d0 d1 d2 d3 (u2.trans u);refine gS (m:=2) a2 oq oq ?_;intro k3 ea3 u3 a3;refine⟨ea3,a3.seg,rfl,?_⟩;replace bx:=bx.up u3;replace bz:=bz.up u3;replace a1:=a1.up u3;replace C:=fun k' d0 d1 d2 d3 u=>C k' d0 d1 d2 d3 (u3.trans u);refine cG a1 a3 (M:=2*K+1) oq oq oq ?_;intro k4 ea4 u4 a4;refine⟨ea4,a4.seg,rfl,?_⟩;replace bx:=bx.up u4;replace bz:=bz.up u4;replace C:=fun k' d0 d1 d2 d3 u=>C k' d0 d1 d2 d3 (u4.trans u);refine aYg bx bz oq ?_;intro k5 ea5 u5 a5;refine⟨ea5,a5.seg,rfl,?_⟩;replace bx:=bx.up u5;replace bz:=bz.up u5;replace a4:=a4.up u5;replace C:=fun k' d0 d1 d2 d3 u=>C k' d0 d1 d2 d3 (u5.trans u);refine gS (m:=3) a5 oq oq ?_;intro k6 ea6 u6 a6;refine⟨ea6,a6.seg,rfl,?_⟩;replace bx:=bx.up u6;replace bz:=bz.up u6;replace a4:=a4.up u6;replace C:=fun k' d0 d1 d2 d3 u=>C k' d0 d1 d2 d3 (u6.trans u);refine cG a4 a6 (M:=2*K+2) oq oq oq ?_;intro k7 ea7 u7 a7;refine⟨ea7,a7.seg,rfl,?_⟩;replace bx:=bx.up u7;replace bz:=bz.up u7;replace C:=fun k' d0 d1 d2 d3 u=>C k' d0 d1 d2 d3 (u7.trans u);refine aYl bx bz oq ?_;intro k8 ea8 u8 a8;refine⟨ea8,a8.seg,rfl,?_⟩;replace bx:=bx.up u8;replace bz:=bz.up u8;replace a7:=a7.up u8;replace C:=fun k' d0 d1 d2 d3 u=>C k' d0 d1 d2 d3 (u8.trans u);refine gS (m:=6) a8 oq oq ?_;intro k9 ea9 u9 a9;refine⟨ea9,a9.seg,rfl,?_⟩;replace bx:=bx.up u9;replace bz:=bz.up u9;replace a7:=a7.up u9;replace C:=fun k' d0 d1 d2 d3 u=>C k' d0 d1 d2 d3 (u9.trans u);refine cG a7 a9 (M:=2*K+3) oq oq oq ?_;intro k10 ea10 u10 a10;refine⟨ea10,a10.seg,rfl,?_⟩;replace bx:=bx.up u10;replace bz:=bz.up u10;replace C:=fun k' d0 d1 d2 d3 u=>C k' d0 d1 d2 d3 (u10.trans u);refine aXx bx bz oq ?_;intro k11 ea11 u11 a11;refine⟨ea11,a11.seg,rfl,?_⟩;replace bx:=bx.up u11;replace bz:=bz.up u11;replace a10:=a10.up u11
 replace C:=fun k' d0 d1 d2 d3 u=>C k' d0 d1 d2 d3 (u11.trans u);refine aYa bx bz oq ?_;intro k12 ea12 u12 a12;refine⟨ea12,a12.seg,rfl,?_⟩;replace bx:=bx.up u12;replace bz:=bz.up u12;replace a10:=a10.up u12;replace a11:=a11.up u12;replace C:=fun k' d0 d1 d2 d3 u=>C k' d0 d1 d2 d3 (u12.trans u);refine cG a11 a12 (M:=2*K+0) oq oq oq ?_;intro k13 ea13 u13 a13;refine⟨ea13,a13.seg,rfl,?_⟩;replace bx:=bx.up u13;replace bz:=bz.up u13;replace a10:=a10.up u13;replace C:=fun k' d0 d1 d2 d3 u=>C k' d0 d1 d2 d3 (u13.trans u);refine aYh bx bz oq ?_;intro k14 ea14 u14 a14;refine⟨ea14,a14.seg,rfl,?_⟩;replace bx:=bx.up u14;replace bz:=bz.up u14;replace a10:=a10.up u14;replace a13:=a13.up u14;replace C:=fun k' d0 d1 d2 d3 u=>C k' d0 d1 d2 d3 (u14.trans u);refine aYk bx bz oq ?_;intro k15 ea15 u15 a15;refine⟨ea15,a15.seg,rfl,?_⟩;replace bx:=bx.up u15;replace bz:=bz.up u15;replace a10:=a10.up u15;replace a13:=a13.up u15;replace a14:=a14.up u15;replace C:=fun k' d0 d1 d2 d3 u=>C k' d0 d1 d2 d3 (u15.trans u);refine cG a14 a15 (M:=2*K+0) oq oq oq ?_;intro k16 ea16 u16 a16;refine⟨ea16,a16.seg,rfl,?_⟩;replace bx:=bx.up u16;replace bz:=bz.up u16;replace a10:=a10.up u16;replace a13:=a13.up u16;replace C:=fun k' d0 d1 d2 d3 u=>C k' d0 d1 d2 d3 (u16.trans u);refine gS (m:=3) a16 oq oq ?_;intro k17 ea17 u17 a17;refine⟨ea17,a17.seg,rfl,?_⟩;replace bx:=bx.up u17;replace bz:=bz.up u17;replace a10:=a10.up u17;replace a13:=a13.up u17;replace C:=fun k' d0 d1 d2 d3 u=>C k' d0 d1 d2 d3 (u17.trans u);refine cG a13 a17 (M:=2*K+2) oq oq oq ?_;intro k18 ea18 u18 a18;refine⟨ea18,a18.seg,rfl,?_⟩;replace bx:=bx.up u18;replace bz:=bz.up u18;replace a10:=a10.up u18;replace C:=fun k' d0 d1 d2 d3 u=>C k' d0 d1 d2 d3 (u18.trans u);refine aXy bx bz oq ?_;intro k19 ea19 u19 a19;refine⟨ea19,a19.seg,rfl,?_⟩;replace bx:=bx.up u19;replace bz:=bz.up u19;replace a10:=a10.up u19;replace a18:=a18.up u19;replace C:=fun k' d0 d1 d2 d3 u=>C k' d0 d1 d2 d3 (u19.trans u);refine aYe bx bz oq ?_;intro k20 ea20 u20 a20;refine⟨ea20,a20.seg,rfl,?_⟩;replace bx:=bx.up u20;replace bz:=bz.up u20;replace a10:=a10.up u20;replace a18:=a18.up u20;replace a19:=a19.up u20;replace C:=fun k' d0 d1 d2 d3 u=>C k' d0 d1 d2 d3 (u20.trans u);refine cG a19 a20 (M:=2*K+0) oq oq oq ?_;intro k21 ea21 u21 a21;refine⟨ea21,a21.seg,rfl,?_⟩;replace bx:=bx.up u21;replace bz:=bz.up u21;replace a10:=a10.up u21;replace a18:=a18.up u21;replace C:=fun k' d0 d1 d2 d3 u=>C k' d0 d1 d2 d3 (u21.trans u);refine aYd bx bz oq ?_;intro k22 ea22 u22 a22;refine⟨ea22,a22.seg,rfl,?_⟩;replace bx:=bx.up u22;replace bz:=bz.up u22;replace a10:=a10.up u22;replace a18:=a18.up u22;replace a21:=a21.up u22;replace C:=fun k' d0 d1 d2 d3 u=>C k' d0 d1 d2 d3 (u22.trans u);refine aYj bx bz oq ?_;intro k23 ea23 u23 a23;refine⟨ea23,a23.seg,rfl,?_⟩;replace bx:=bx.up u23
 replace bz:=bz.up u23;replace a10:=a10.up u23;replace a18:=a18.up u23;replace a21:=a21.up u23;replace a22:=a22.up u23;replace C:=fun k' d0 d1 d2 d3 u=>C k' d0 d1 d2 d3 (u23.trans u);refine cG a22 a23 (M:=2*K+0) oq oq oq ?_;intro k24 ea24 u24 a24;refine⟨ea24,a24.seg,rfl,?_⟩;replace bx:=bx.up u24;replace bz:=bz.up u24;replace a10:=a10.up u24;replace a18:=a18.up u24;replace a21:=a21.up u24;replace C:=fun k' d0 d1 d2 d3 u=>C k' d0 d1 d2 d3 (u24.trans u);refine gS (m:=2) a24 oq oq ?_;intro k25 ea25 u25 a25;refine⟨ea25,a25.seg,rfl,?_⟩;replace bx:=bx.up u25;replace bz:=bz.up u25;replace a10:=a10.up u25;replace a18:=a18.up u25;replace a21:=a21.up u25;replace C:=fun k' d0 d1 d2 d3 u=>C k' d0 d1 d2 d3 (u25.trans u);refine cG a21 a25 (M:=2*K+2) oq oq oq ?_;intro k26 ea26 u26 a26;refine⟨ea26,a26.seg,rfl,?_⟩;replace bx:=bx.up u26;replace bz:=bz.up u26;replace a10:=a10.up u26;replace a18:=a18.up u26;replace C:=fun k' d0 d1 d2 d3 u=>C k' d0 d1 d2 d3 (u26.trans u);refine aXz bx bz oq ?_;intro k27 ea27 u27 a27;refine⟨ea27,a27.seg,rfl,?_⟩;replace bx:=bx.up u27;replace bz:=bz.up u27;replace a10:=a10.up u27;replace a18:=a18.up u27;replace a26:=a26.up u27;replace C:=fun k' d0 d1 d2 d3 u=>C k' d0 d1 d2 d3 (u27.trans u);refine aYi bx bz oq ?_;intro k28 ea28 u28 a28;refine⟨ea28,a28.seg,rfl,?_⟩;replace bx:=bx.up u28;replace bz:=bz.up u28;replace a10:=a10.up u28;replace a18:=a18.up u28;replace a26:=a26.up u28;replace a27:=a27.up u28;replace C:=fun k' d0 d1 d2 d3 u=>C k' d0 d1 d2 d3 (u28.trans u);refine cG a27 a28 (M:=2*K+0) oq oq oq ?_;intro k29 ea29 u29 a29;refine⟨ea29,a29.seg,rfl,?_⟩;replace bx:=bx.up u29;replace bz:=bz.up u29;replace a10:=a10.up u29;replace a18:=a18.up u29;replace a26:=a26.up u29;replace C:=fun k' d0 d1 d2 d3 u=>C k' d0 d1 d2 d3 (u29.trans u);refine aYc bx bz oq ?_;intro k30 ea30 u30 a30;refine⟨ea30,a30.seg,rfl,?_⟩;replace bx:=bx.up u30;replace bz:=bz.up u30;replace a10:=a10.up u30;replace a18:=a18.up u30;replace a26:=a26.up u30;replace a29:=a29.up u30;replace C:=fun k' d0 d1 d2 d3 u=>C k' d0 d1 d2 d3 (u30.trans u);refine cG a29 a30 (M:=2*K+1) oq oq oq ?_;intro k31 ea31 u31 a31;refine⟨ea31,a31.seg,rfl,?_⟩;replace bx:=bx.up u31;replace bz:=bz.up u31;replace a10:=a10.up u31;replace a18:=a18.up u31;replace a26:=a26.up u31;replace C:=fun k' d0 d1 d2 d3 u=>C k' d0 d1 d2 d3 (u31.trans u);refine aYf bx bz oq ?_;intro k32 ea32 u32 a32;refine⟨ea32,a32.seg,rfl,?_⟩;replace a10:=a10.up u32;replace a18:=a18.up u32;replace a26:=a26.up u32;replace a31:=a31.up u32;replace C:=fun k' d0 d1 d2 d3 u=>C k' d0 d1 d2 d3 (u32.trans u);refine cG a31 a32 (M:=2*K+2) oq oq oq ?_;intro k33 ea33 u33 a33;refine⟨ea33,a33.seg,rfl,?_⟩;replace a10:=a10.up u33;replace a18:=a18.up u33;replace a26:=a26.up u33;replace C:=fun k' d0 d1 d2 d3 u=>C k' d0 d1 d2 d3 (u33.trans u);intro k34 u34
 replace a10:=a10.up u34;replace a18:=a18.up u34;replace a26:=a26.up u34;replace a33:=a33.up u34;exact C _ _ _ _ _ u34 (a10.mono oq) (a18.mono oq) (a26.mono oq) (a33.mono oq)
theorem aUh (x0 x1 x2 x3 y0 y1 y2 y3:Int) {m n:Nat}(hm:0<m) (hn:0<n):mkQ (x0*y0+x1*y1*(2:Nat)+x2*y2*(3:Nat)+x3*y3*(6:Nat)) (x0*y1+x1*y0+(x2*y3+x3*y2)*(3:Nat)) (x0*y2+x2*y0+(x1*y3+x3*y1)*(2:Nat)) (x0*y3+x3*y0+x1*y2+x2*y1) (m*n)=(mkQ x0 x1 x2 x3 m).mul (mkQ y0 y1 y2 y3 n):=by
 have h:=zw hm hn;unfold mkQ Q4.mul;simp only [aIf _ _ h,qE _ _ h,aCv];rfl
theorem kC (hx:SurdV k cs v K) (hy:SurdV k cs' v' K) (hK1:1≤K) (hK:K≤268435456) (C:∀k' ds,Up k k'→SurdV k' ds (v.mul v') (2*K+4)→R k' (.agg ds)) :
 Cl k 91 #[.agg cs,.agg cs'] R:=by
 obtain⟨c0,c1,c2,c3,D,d,e,x0,x1,x2,x3,m,rfl,hm,hg,rfl,i0,i1,i2,i3,lx,hd⟩:=hx;obtain⟨c0',c1',c2',c3',D',d',e',y0,y1,y2,y3,n,rfl,hn,hg',rfl,j0,j1,j2,j3,ly,hd'⟩:=hy;intro k0 u0;replace i0:=i0.up u0;replace i1:=i1.up u0;replace i2:=i2.up u0;replace i3:=i3.up u0;replace lx:=lx.up u0;replace j0:=j0.up u0;replace j1:=j1.up u0;replace j2:=j2.up u0;replace j3:=j3.up u0;replace ly:=ly.up u0;replace C:=fun k' ds u=>C k' ds (u0.trans u);refine aSo i0.seg i1.seg i2.seg i3.seg j0.seg j1.seg j2.seg j3.seg ?_;refine dO i0 i1 i2 i3 j0 j1 j2 j3 oq ?_;intro k1 d0 d1 d2 d3 u1 z0 z1 z2 z3;refine⟨d0,z0.seg,d1,z1.seg,d2,z2.seg,d3,z3.seg,rfl,?_⟩;replace lx:=lx.up u1;replace ly:=ly.up u1;replace C:=fun k' ds u=>C k' ds (u1.trans u);refine bS lx hm (L:=K) hd hK1 oq ?_;intro k2 D1 q1 e1 u2 lx' hd1;refine⟨D1,q1,e1,rfl,?_⟩;replace ly:=ly.up u2;replace z0:=z0.up u2;replace z1:=z1.up u2;replace z2:=z2.up u2;replace z3:=z3.up u2;replace C:=fun k' ds u=>C k' ds (u2.trans u);refine bS ly hn (L:=K) hd' hK1 oq ?_;intro k3 D2 q2 e2 u3 ly' hd2;refine⟨D2,q2,e2,rfl,?_⟩;replace z0:=z0.up u3;replace z1:=z1.up u3;replace z2:=z2.up u3;replace z3:=z3.up u3;replace lx':=lx'.up u3;replace C:=fun k' ds u=>C k' ds (u3.trans u);refine lV lx' ly' oq oq ?_;intro k4 D3 q3 e3 u4 lm hd3;refine⟨D3,q3,e3,rfl,?_⟩;replace z0:=z0.up u4;replace z1:=z1.up u4;replace z2:=z2.up u4;replace z3:=z3.up u4;replace C:=fun k' ds u=>C k' ds (u4.trans u);refine aEi z0 z1 z2 z3 lm (zw hm hn) oq oq ?_;intro k17 ds u17 hs;obtain⟨c0,c1,c2,c3,D,d,e,hcs,h9⟩:=hs.cells;refine⟨c0,h9.1,c1,h9.2.1,c2,h9.2.2.1,c3,h9.2.2.2,D,d,e,by rw [hcs];rfl,?_⟩;intro k18 u18;have:=C k18 ds (u17.trans u18) (by rw [←aUh x0 x1 x2 x3 y0 y1 y2 y3 hm hn];exact hs.up u18);rw [hcs]at this;exact this
theorem RatV.intV {q:Rat}(h:RatV k cs q K):∃c0 A n c,cs=(c0.toList++((.slice A n c) :: [])).toArray∧IntV k c0 q.num K∧LimR k A n c (if q.den=1 then 0 else q.den)∧n≤K:=by
 obtain⟨g,A,n,c,D,d,e,rfl,h,h1,h2⟩:=h;exact⟨#[.bool g,.slice A n c],D,d,e,rfl,⟨g,A,n,c,rfl,h.num,h1⟩,h.den,h2⟩
theorem IntV.nil:IntV k #[.bool false,.slice none 0 0] 0 K:=⟨false,none,0,0,rfl,⟨rfl,LimR.nil⟩,zk _⟩
theorem aSk (hx:SurdV k cs v K) (hK1:1≤K) (hK:K≤268435456) (C:∀k' d0 d1 d2 d3,Up k k'→RatV k' d0 v.a K→RatV k' d1 v.b K→RatV k' d2 v.c K→RatV k' d3 v.d K→R k' (.agg (d0.toList++(d1.toList++(d2.toList++(d3.toList++([]))))).toArray)) :
 Cl k 110 #[.agg cs] R:=by
 obtain⟨c0,c1,c2,c3,D,d,e,x0,x1,x2,x3,m,rfl,hm,hg,rfl,i0,i1,i2,i3,lx,hd⟩:=hx;intro k0 u0;replace i0:=i0.up u0;replace i1:=i1.up u0;replace i2:=i2.up u0;replace i3:=i3.up u0;replace lx:=lx.up u0;replace C:=fun k' d0 d1 d2 d3 u=>C k' d0 d1 d2 d3 (u0.trans u);refine aKz i0.seg i1.seg i2.seg i3.seg ?_;refine bS lx hm (L:=K) hd hK1 oq ?_;intro k1 D0 q0 e0 u1 l0 w0;refine⟨D0,q0,e0,rfl,?_⟩;replace i0:=i0.up u1;replace i1:=i1.up u1;replace i2:=i2.up u1;replace i3:=i3.up u1;replace lx:=lx.up u1;replace C:=fun k' d0 d1 d2 d3 u=>C k' d0 d1 d2 d3 (u1.trans u);refine xD i0 l0 hm oq w0 ?_;intro k2 cA0 u2 r0;refine⟨cA0,r0.seg,rfl,?_⟩;replace i1:=i1.up u2;replace i2:=i2.up u2;replace i3:=i3.up u2;replace lx:=lx.up u2;replace C:=fun k' d0 d1 d2 d3 u=>C k' d0 d1 d2 d3 (u2.trans u);refine bS lx hm (L:=K) hd hK1 oq ?_;intro k3 D1 q1 e1 u3 l1 w1;refine⟨D1,q1,e1,rfl,?_⟩;replace i1:=i1.up u3;replace i2:=i2.up u3;replace i3:=i3.up u3;replace lx:=lx.up u3;replace r0:=r0.up u3;replace C:=fun k' d0 d1 d2 d3 u=>C k' d0 d1 d2 d3 (u3.trans u);refine xD i1 l1 hm oq w1 ?_;intro k4 cA1 u4 r1;refine⟨cA1,r1.seg,rfl,?_⟩;replace i2:=i2.up u4;replace i3:=i3.up u4;replace lx:=lx.up u4;replace r0:=r0.up u4;replace C:=fun k' d0 d1 d2 d3 u=>C k' d0 d1 d2 d3 (u4.trans u);refine bS lx hm (L:=K) hd hK1 oq ?_;intro k5 D2 q2 e2 u5 l2 w2;refine⟨D2,q2,e2,rfl,?_⟩;replace i2:=i2.up u5;replace i3:=i3.up u5;replace lx:=lx.up u5;replace r0:=r0.up u5;replace r1:=r1.up u5;replace C:=fun k' d0 d1 d2 d3 u=>C k' d0 d1 d2 d3 (u5.trans u);refine xD i2 l2 hm oq w2 ?_;intro k6 cA2 u6 r2;refine⟨cA2,r2.seg,rfl,?_⟩;replace i3:=i3.up u6;replace lx:=lx.up u6;replace r0:=r0.up u6;replace r1:=r1.up u6;replace C:=fun k' d0 d1 d2 d3 u=>C k' d0 d1 d2 d3 (u6.trans u);refine bS lx hm (L:=K) hd hK1 oq ?_;intro k7 D3 q3 e3 u7 l3 w3;refine⟨D3,q3,e3,rfl,?_⟩;replace i3:=i3.up u7;replace r0:=r0.up u7;replace r1:=r1.up u7;replace r2:=r2.up u7;replace C:=fun k' d0 d1 d2 d3 u=>C k' d0 d1 d2 d3 (u7.trans u);refine xD i3 l3 hm oq w3 ?_;intro k8 cA3 u8 r3;refine⟨cA3,r3.seg,rfl,?_⟩;replace r0:=r0.up u8;replace r1:=r1.up u8;replace r2:=r2.up u8;replace C:=fun k' d0 d1 d2 d3 u=>C k' d0 d1 d2 d3 (u8.trans u);intro k9 u9;replace r0:=r0.up u9;replace r1:=r1.up u9;replace r2:=r2.up u9;replace r3:=r3.up u9;exact C _ _ _ _ _ u9 r0 r1 r2 r3
theorem jF (q:Rat) {M:Nat}(hd:q.den ∣ M) (hM:0<M):mkRat (q.num*((M/q.den:Nat):Int)) M=q:=by
 obtain⟨t,rfl⟩:=hd;rw [Nat.mul_div_cancel_left _ q.den_pos];have ht:t≠0:=by intro e;subst e;omega
 rw [Rat.mkRat_mul_right ht,Rat.mkRat_self]
theorem aNa (q0 q1 q2 q3:Rat):mkQ (q0.num*((1*q0.den*q1.den*q2.den*q3.den/q0.den:Nat):Int)) (q1.num*((1*q0.den*q1.den*q2.den*q3.den/q1.den:Nat):Int)) (q2.num*((1*q0.den*q1.den*q2.den*q3.den/q2.den:Nat):Int)) (q3.num*((1*q0.den*q1.den*q2.den*q3.den/q3.den:Nat):Int)) (1*q0.den*q1.den*q2.den*q3.den)=⟨q0,q1,q2,q3⟩:=by
 have hpos:0<1*q0.den*q1.den*q2.den*q3.den:=by
  rw [zy];exact zw (zw (zw q0.den_pos q1.den_pos) q2.den_pos) q3.den_pos
 have h0:q0.den ∣ 1*q0.den*q1.den*q2.den*q3.den:=⟨q1.den*q2.den*q3.den,by rw [zy];simp only [jh]⟩;have h1:q1.den ∣ 1*q0.den*q1.den*q2.den*q3.den:=⟨q0.den*q2.den*q3.den,by rw [zy,qx q0.den q1.den];simp only [jh]⟩;have h2:q2.den ∣ 1*q0.den*q1.den*q2.den*q3.den:=⟨q0.den*q1.den*q3.den,by rw [zy,qx (q0.den*q1.den) q2.den];simp only [jh]⟩;have h3:q3.den ∣ 1*q0.den*q1.den*q2.den*q3.den:=⟨q0.den*q1.den*q2.den,by rw [zy,qx (q0.den*q1.den*q2.den) q3.den]⟩;unfold mkQ;rw [jF q0 h0 hpos,jF q1 h1 hpos,jF q2 h2 hpos,jF q3 h3 hpos]
theorem aXn {c0 c1 c2 c3:Array Value}{q0 q1 q2 q3:Rat}(h0:RatV k c0 q0 K) (h1:RatV k c1 q1 K) (h2:RatV k c2 q2 K) (h3:RatV k c3 q3 K) (hK1:1≤K) (hK:K≤134217728)
 (C:∀k' ds,Up k k'→SurdV k' ds ⟨q0,q1,q2,q3⟩ (5*K+1)→R k' (.agg ds)) :
 Cl k 88 #[.agg (c0.toList++(c1.toList++(c2.toList++(c3.toList++([]))))).toArray] R:=by
 obtain⟨a0,A0,m0,d0,rfl,i0,l0,n0⟩:=h0.intV;obtain⟨a1,A1,m1,d1,rfl,i1,l1,n1⟩:=h1.intV;obtain⟨a2,A2,m2,d2,rfl,i2,l2,n2⟩:=h2.intV;obtain⟨a3,A3,m3,d3,rfl,i3,l3,n3⟩:=h3.intV;have hcells:((a0.toList++((Value.slice A0 m0 d0) :: [])).toArray.toList++((a1.toList++((Value.slice A1 m1 d1) :: [])).toArray.toList++((a2.toList++((Value.slice A2 m2 d2) :: [])).toArray.toList++((a3.toList++((Value.slice A3 m3 d3) :: [])).toArray.toList++([]))))).toArray
  = (a0.toList++((Value.slice A0 m0 d0) :: (a1.toList++((Value.slice A1 m1 d1) :: (a2.toList++((Value.slice A2 m2 d2) :: (a3.toList++((Value.slice A3 m3 d3) :: ([]))))))))).toArray:=by
  simp
 rw [hcells];clear hcells;intro k0 u0;replace i0:=i0.up u0;replace i1:=i1.up u0;replace i2:=i2.up u0;replace i3:=i3.up u0;replace l0:=l0.up u0;replace l1:=l1.up u0;replace l2:=l2.up u0;replace l3:=l3.up u0;replace C:=fun k' ds u=>C k' ds (u0.trans u);refine aSi i0.seg i1.seg i2.seg i3.seg ?_;refine pR (x:=1) oq ?_;intro k1 Dw qw ew u1 w0 hw0;refine⟨Dw,qw,ew,rfl,?_⟩;replace i0:=i0.up u1;replace i1:=i1.up u1;replace i2:=i2.up u1;replace i3:=i3.up u1;replace l0:=l0.up u1;replace l1:=l1.up u1;replace l2:=l2.up u1;replace l3:=l3.up u1;replace C:=fun k' ds u=>C k' ds (u1.trans u);refine bS l0 (q0.den_pos) (L:=K) n0 hK1 oq ?_;intro k2 D0 s0 e0 u2 y0 z0;refine⟨D0,s0,e0,rfl,?_⟩;replace i0:=i0.up u2;replace i1:=i1.up u2;replace i2:=i2.up u2;replace i3:=i3.up u2;replace l0:=l0.up u2;replace l1:=l1.up u2;replace l2:=l2.up u2;replace l3:=l3.up u2;replace w0:=w0.up u2;replace C:=fun k' ds u=>C k' ds (u2.trans u);refine lV w0 y0 oq oq ?_;intro k3 E0 t0 g0 u3 w1 hw1;refine⟨E0,t0,g0,rfl,?_⟩;replace i0:=i0.up u3;replace i1:=i1.up u3;replace i2:=i2.up u3;replace i3:=i3.up u3;replace l0:=l0.up u3;replace l1:=l1.up u3;replace l2:=l2.up u3;replace l3:=l3.up u3;replace C:=fun k' ds u=>C k' ds (u3.trans u);refine bS l1 (q1.den_pos) (L:=K) n1 hK1 oq ?_;intro k4 D1 s1 e1 u4 y1 z1;refine⟨D1,s1,e1,rfl,?_⟩;replace i0:=i0.up u4;replace i1:=i1.up u4;replace i2:=i2.up u4;replace i3:=i3.up u4;replace l0:=l0.up u4;replace l1:=l1.up u4;replace l2:=l2.up u4;replace l3:=l3.up u4;replace w1:=w1.up u4;replace C:=fun k' ds u=>C k' ds (u4.trans u);refine lV w1 y1 oq oq ?_;intro k5 E1 t1 g1 u5 w2 hw2;refine⟨E1,t1,g1,rfl,?_⟩;replace i0:=i0.up u5;replace i1:=i1.up u5;replace i2:=i2.up u5;replace i3:=i3.up u5;replace l0:=l0.up u5;replace l1:=l1.up u5;replace l2:=l2.up u5;replace l3:=l3.up u5;replace C:=fun k' ds u=>C k' ds (u5.trans u);refine bS l2 (q2.den_pos) (L:=K) n2 hK1 oq ?_;intro k6 D2 s2 e2 u6 y2 z2;refine⟨D2,s2,e2,rfl,?_⟩;replace i0:=i0.up u6;replace i1:=i1.up u6;replace i2:=i2.up u6;replace i3:=i3.up u6;replace l0:=l0.up u6;replace l1:=l1.up u6;replace l2:=l2.up u6;replace l3:=l3.up u6;replace w2:=w2.up u6;replace C:=fun k' ds u=>C k' ds (u6.trans u);refine lV w2 y2 oq oq ?_;intro k7 E2 t2 g2 u7 w3 hw3;refine⟨E2,t2,g2,rfl,?_⟩;replace i0:=i0.up u7;replace i1:=i1.up u7;replace i2:=i2.up u7;replace i3:=i3.up u7;replace l0:=l0.up u7;replace l1:=l1.up u7;replace l2:=l2.up u7;replace l3:=l3.up u7;replace C:=fun k' ds u=>C k' ds (u7.trans u);refine bS l3 (q3.den_pos) (L:=K) n3 hK1 oq ?_;intro k8 D3 s3 e3 u8 y3 z3;refine⟨D3,s3,e3,rfl,?_⟩;replace i0:=i0.up u8;replace i1:=i1.up u8;replace i2:=i2.up u8;replace i3:=i3.up u8;replace l0:=l0.up u8;replace l1:=l1.up u8;replace l2:=l2.up u8;replace l3:=l3.up u8;replace w3:=w3.up u8;replace C:=fun k' ds u=>C k' ds (u8.trans u);refine lV w3 y3 oq oq ?_;intro k9 E3 t3 g3 u9 w4 hw4;refine⟨E3,t3,g3,rfl,?_⟩
 replace i0:=i0.up u9;replace i1:=i1.up u9;replace i2:=i2.up u9;replace i3:=i3.up u9;replace l0:=l0.up u9;replace l1:=l1.up u9;replace l2:=l2.up u9;replace l3:=l3.up u9;replace C:=fun k' ds u=>C k' ds (u9.trans u);refine bS l0 (q0.den_pos) (L:=K) n0 hK1 oq ?_;intro k10 F0 m0 o0 u10 yy0 zz0;refine⟨F0,m0,o0,rfl,?_⟩;replace i0:=i0.up u10;replace i1:=i1.up u10;replace i2:=i2.up u10;replace i3:=i3.up u10;replace l1:=l1.up u10;replace l2:=l2.up u10;replace l3:=l3.up u10;replace w4:=w4.up u10;replace C:=fun k' ds u=>C k' ds (u10.trans u);refine fC w4 yy0 (q0.den_pos) oq oq ?_;intro k11 G0 v0 x0 H0 a0 b0 u11 dv0 rm0 hq0 hr0;refine⟨G0,v0,x0,H0,a0,b0,rfl,?_⟩;replace i0:=i0.up u11;replace i1:=i1.up u11;replace i2:=i2.up u11;replace i3:=i3.up u11;replace l1:=l1.up u11;replace l2:=l2.up u11;replace l3:=l3.up u11;replace w4:=w4.up u11;replace C:=fun k' ds u=>C k' ds (u11.trans u);refine dN i0 dv0 (L:=4*K+1) oq oq oq ?_;intro k12 cS0 u12 sc0;refine⟨cS0,sc0.seg,rfl,?_⟩;replace i1:=i1.up u12;replace i2:=i2.up u12;replace i3:=i3.up u12;replace l1:=l1.up u12;replace l2:=l2.up u12;replace l3:=l3.up u12;replace w4:=w4.up u12;replace C:=fun k' ds u=>C k' ds (u12.trans u);refine bS l1 (q1.den_pos) (L:=K) n1 hK1 oq ?_;intro k13 F1 m1 o1 u13 yy1 zz1;refine⟨F1,m1,o1,rfl,?_⟩;replace i1:=i1.up u13;replace i2:=i2.up u13;replace i3:=i3.up u13;replace l2:=l2.up u13;replace l3:=l3.up u13;replace w4:=w4.up u13;replace sc0:=sc0.up u13;replace C:=fun k' ds u=>C k' ds (u13.trans u);refine fC w4 yy1 (q1.den_pos) oq oq ?_;intro k14 G1 v1 x1 H1 a1 b1 u14 dv1 rm1 hq1 hr1;refine⟨G1,v1,x1,H1,a1,b1,rfl,?_⟩;replace i1:=i1.up u14;replace i2:=i2.up u14;replace i3:=i3.up u14;replace l2:=l2.up u14;replace l3:=l3.up u14;replace w4:=w4.up u14;replace sc0:=sc0.up u14;replace C:=fun k' ds u=>C k' ds (u14.trans u);refine dN i1 dv1 (L:=4*K+1) oq oq oq ?_;intro k15 cS1 u15 sc1;refine⟨cS1,sc1.seg,rfl,?_⟩;replace i2:=i2.up u15;replace i3:=i3.up u15;replace l2:=l2.up u15;replace l3:=l3.up u15;replace w4:=w4.up u15;replace sc0:=sc0.up u15;replace C:=fun k' ds u=>C k' ds (u15.trans u);refine bS l2 (q2.den_pos) (L:=K) n2 hK1 oq ?_;intro k16 F2 m2 o2 u16 yy2 zz2;refine⟨F2,m2,o2,rfl,?_⟩;replace i2:=i2.up u16;replace i3:=i3.up u16;replace l3:=l3.up u16;replace w4:=w4.up u16;replace sc0:=sc0.up u16;replace sc1:=sc1.up u16;replace C:=fun k' ds u=>C k' ds (u16.trans u);refine fC w4 yy2 (q2.den_pos) oq oq ?_;intro k17 G2 v2 x2 H2 a2 b2 u17 dv2 rm2 hq2 hr2;refine⟨G2,v2,x2,H2,a2,b2,rfl,?_⟩;replace i2:=i2.up u17;replace i3:=i3.up u17;replace l3:=l3.up u17;replace w4:=w4.up u17;replace sc0:=sc0.up u17;replace sc1:=sc1.up u17;replace C:=fun k' ds u=>C k' ds (u17.trans u);refine dN i2 dv2 (L:=4*K+1) oq oq oq ?_;intro k18 cS2 u18 sc2;refine⟨cS2,sc2.seg,rfl,?_⟩;replace i3:=i3.up u18;replace l3:=l3.up u18;replace w4:=w4.up u18;replace sc0:=sc0.up u18
 replace sc1:=sc1.up u18;replace C:=fun k' ds u=>C k' ds (u18.trans u);refine bS l3 (q3.den_pos) (L:=K) n3 hK1 oq ?_;intro k19 F3 m3 o3 u19 yy3 zz3;refine⟨F3,m3,o3,rfl,?_⟩;replace i3:=i3.up u19;replace w4:=w4.up u19;replace sc0:=sc0.up u19;replace sc1:=sc1.up u19;replace sc2:=sc2.up u19;replace C:=fun k' ds u=>C k' ds (u19.trans u);refine fC w4 yy3 (q3.den_pos) oq oq ?_;intro k20 G3 v3 x3 H3 a3 b3 u20 dv3 rm3 hq3 hr3;refine⟨G3,v3,x3,H3,a3,b3,rfl,?_⟩;replace i3:=i3.up u20;replace w4:=w4.up u20;replace sc0:=sc0.up u20;replace sc1:=sc1.up u20;replace sc2:=sc2.up u20;replace C:=fun k' ds u=>C k' ds (u20.trans u);refine dN i3 dv3 (L:=4*K+1) oq oq oq ?_;intro k21 cS3 u21 sc3;refine⟨cS3,sc3.seg,rfl,?_⟩;replace w4:=w4.up u21;replace sc0:=sc0.up u21;replace sc1:=sc1.up u21;replace sc2:=sc2.up u21;replace C:=fun k' ds u=>C k' ds (u21.trans u);have hpos:0<1*q0.den*q1.den*q2.den*q3.den:=by
  rw [zy];exact zw (zw (zw q0.den_pos q1.den_pos) q2.den_pos) q3.den_pos
 refine aEi (K:=5*K+1) (sc0.mono oq) (sc1.mono oq) (sc2.mono oq) (sc3.mono oq) w4 hpos oq oq ?_;intro k17 ds u17 hs;obtain⟨c0,c1,c2,c3,D,d,e,hcs,h9⟩:=hs.cells;refine⟨c0,h9.1,c1,h9.2.1,c2,h9.2.2.1,c3,h9.2.2.2,D,d,e,by rw [hcs];rfl,?_⟩;intro k18 u18
 have:=C k18 ds (u17.trans u18) (by
  have e:=hs.up u18;rw [aNa]at e
  exact e)
 rw [hcs]at this;exact this
end
end Go.Proofs.YtmifbgccpdmjpaaGreat

namespace Go.Proofs.YtmifbgccpdmjpaaGreat.Plain
open IntKind (wrap)
theorem wJ {x y:Int}(hx:x=0∨x=1∨x=-1) (hy:y=0∨y=1∨y=-1):wrap .i64 (x*y)=x*y:=by
 rcases hx with rfl|rfl|rfl <;> rcases hy with rfl|rfl|rfl <;> decide
def cQ (s t q:Int):Int:=if s=t then s else if t=0 then s else if s=0 then t else s*q
structure Q2 where
 re:Rat
 im:Rat
theorem Q2.ext' {x y:Q2}(h1:x.re=y.re) (h2:x.im=y.im):x=y:=by cases x;cases y;simp_all
instance:Add Q2:=⟨fun x y=>⟨x.re+y.re,x.im+y.im⟩⟩
instance:Mul Q2:=⟨fun x y=>⟨x.re*y.re+2*(x.im*y.im),x.re*y.im+x.im*y.re⟩⟩
instance:Neg Q2:=⟨fun x=>⟨-x.re,-x.im⟩⟩
instance:Sub Q2:=⟨fun x y=>⟨x.re-y.re,x.im-y.im⟩⟩
instance:OfNat Q2 0:=⟨⟨0,0⟩⟩
theorem Q2.zero_re:(0:Q2).re=0:=rfl
theorem Q2.zero_im:(0:Q2).im=0:=rfl
instance:OfNat Q2 1:=⟨⟨1,0⟩⟩
theorem Q2.one_re:(1:Q2).re=1:=rfl
theorem Q2.one_im:(1:Q2).im=0:=rfl
instance:OfNat Q2 2:=⟨⟨2,0⟩⟩
instance:OfNat Q2 3:=⟨⟨3,0⟩⟩
theorem Q2.three_re:(3:Q2).re=3:=rfl
theorem Q2.three_im:(3:Q2).im=0:=rfl
theorem Q2.add_re (x y:Q2):(x+y).re=x.re+y.re:=rfl
theorem Q2.add_im (x y:Q2):(x+y).im=x.im+y.im:=rfl
theorem Q2.neg_re (x:Q2):(-x).re=-x.re:=rfl
theorem Q2.neg_im (x:Q2):(-x).im=-x.im:=rfl
theorem Q2.sub_re (x y:Q2):(x-y).re=x.re-y.re:=rfl
theorem Q2.sub_im (x y:Q2):(x-y).im=x.im-y.im:=rfl
theorem Q2.mul_re (x y:Q2):(x*y).re=x.re*y.re+2*(x.im*y.im):=rfl
theorem Q2.mul_im (x y:Q2):(x*y).im=x.re*y.im+x.im*y.re:=rfl
structure Q23 where
 re:Q2
 im:Q2
theorem Q23.ext' {x y:Q23}(h1:x.re=y.re) (h2:x.im=y.im):x=y:=by cases x;cases y;simp_all
instance:Add Q23:=⟨fun x y=>⟨x.re+y.re,x.im+y.im⟩⟩
instance:Mul Q23:=⟨fun x y=>⟨x.re*y.re+3*(x.im*y.im),x.re*y.im+x.im*y.re⟩⟩
instance:Neg Q23:=⟨fun x=>⟨-x.re,-x.im⟩⟩
instance:Sub Q23:=⟨fun x y=>⟨x.re-y.re,x.im-y.im⟩⟩
instance:OfNat Q23 0:=⟨⟨0,0⟩⟩
theorem Q23.zero_re:(0:Q23).re=0:=rfl
theorem Q23.zero_im:(0:Q23).im=0:=rfl
instance:OfNat Q23 1:=⟨⟨1,0⟩⟩
theorem Q23.one_re:(1:Q23).re=1:=rfl
theorem Q23.one_im:(1:Q23).im=0:=rfl
theorem Q23.add_re (x y:Q23):(x+y).re=x.re+y.re:=rfl
theorem Q23.add_im (x y:Q23):(x+y).im=x.im+y.im:=rfl
theorem Q23.neg_re (x:Q23):(-x).re=-x.re:=rfl
theorem Q23.neg_im (x:Q23):(-x).im=-x.im:=rfl
theorem Q23.sub_re (x y:Q23):(x-y).re=x.re-y.re:=rfl
theorem Q23.sub_im (x y:Q23):(x-y).im=x.im-y.im:=rfl
theorem Q23.mul_re (x y:Q23):(x*y).re=x.re*y.re+3*(x.im*y.im):=rfl
theorem Q23.mul_im (x y:Q23):(x*y).im=x.re*y.im+x.im*y.re:=rfl
namespace A
def pos (x:Rat):Prop:=0<x
theorem kV:(1:Rat)≠0:=oz
theorem inv (x:Rat) (h:x≠0):∃y,x*y=1:=⟨x⁻¹,Rat.mul_inv_cancel x h⟩
theorem tri (x:Rat):x=0∨pos x∨pos (-x):=by unfold pos;grind
theorem zero:¬ pos (0:Rat):=by unfold pos;decide
theorem add {x y:Rat}(h:pos x) (h':pos y):pos (x+y):=by unfold pos at *;grind
theorem mul {x y:Rat}(h:pos x) (h':pos y):pos (x*y):=Rat.mul_pos h h'
theorem cW {x:Rat}(h:pos x):¬ pos (-x):=fun h'=>zero (by have:=add h h';rwa [show x+-x=0 by grind]at this)
theorem nA {x:Rat}(h:pos x):x≠0:=fun e=>zero (e▸h)
theorem fQ {x:Rat}(h:x≠0):pos (x*x):=by
 rcases tri x with h1|h1|h1
 ·exact absurd h1 h
 ·exact mul h1 h1
 ·have:=mul h1 h1
  rwa [show -x*-x=x*x by grind]at this
theorem oD:pos (1:Rat):=by
 have:=fQ (x:=1) kV
 rwa [show (1:Rat)*1=1 by grind]at this
theorem lE {a b:Rat}(h:a-b=0):a=b:=by
 have e:a=(a-b)+b:=by grind
 rw [e,h];grind
theorem fP {a b:Rat}(ha:pos a) (h:pos (a*a-b*b)):pos (a+b):=by
 rcases tri (a+b) with h1|h1|h1
 ·exfalso;rw [show a*a-b*b=(a+b)*(a-b) by grind,h1,show (0:Rat)*(a-b)=0 by grind]at h;exact zero h
 ·exact h1
 ·exfalso;have h2:pos (a-b):=by
   have:=add (add ha ha) h1
   rwa [show a+a+-(a+b)=a-b by grind]at this
  have:=mul h1 h2;rw [show -(a+b)*(a-b)=-(a*a-b*b) by grind]at this;exact cW h this
theorem mZ {a b:Rat}(ha:pos a) (h:pos (a*b)):pos b:=by
 rcases tri b with h1|h1|h1
 ·exfalso;rw [h1,show a*(0:Rat)=0 by grind]at h;exact zero h
 ·exact h1
 ·exfalso;have:=mul ha h1;rw [show a*-b=-(a*b) by grind]at this;exact cW h this
theorem mT {a b:Rat}(ha:a≠0) (hb:b≠0):a*b≠0:=by
 obtain⟨y,hy⟩:=inv a ha;intro h;apply hb;have e:b=1*b:=by grind
 rw [e,←hy,show a*y*b=(a*b)*y by grind,h];grind
open Classical in
noncomputable def sg (x:Rat):Int:=if pos x then 1 else if pos (-x) then -1 else 0
theorem eS {x:Rat}(h:pos x):sg x=1:=by unfold sg;rw [od h]
theorem fS {x:Rat}(h:pos (-x)):sg x=-1:=by
 unfold sg;rw [oh (fun h'=>cW h' h),od h]
theorem sg_zero:sg (0:Rat)=0:=by
 unfold sg;rw [oh zero,oh (by rw [show -(0:Rat)=0 by grind];exact zero)]
theorem aS (x:Rat):(sg x=0∧x=0)∨(sg x=1∧pos x)∨(sg x=-1∧pos (-x)):=by
 rcases tri x with h|h|h
 ·exact .inl ⟨h▸sg_zero,h⟩
 ·exact .inr (.inl ⟨eS h,h⟩)
 ·exact .inr (.inr ⟨fS h,h⟩)
end A
theorem nY {x:Rat}(h:0<x):0<x.num:=by
 have h1:0≤x.num:=yd.2 (by grind);have h2:x.num≠0:=fun e=>by have:=yk.1 e;rw [this]at h;exact absurd h oz
 omega
theorem iD (u:Rat):u*(u.den:Rat)=(u.num:Rat):=by
 have e:=Rat.mkRat_self u;rw [wm]at e;have hd:(u.den:Rat)≠0:=by
  intro h;have:((u.den:Nat):Rat)=((0:Nat):Rat):=h;have:=Rat.natCast_inj.1 this;have:=u.den_pos;omega
 calc u*(u.den:Rat)=((u.num:Rat) / (u.den:Rat))*(u.den:Rat):=by rw [e]
  _=(u.num:Rat):=Rat.div_mul_cancel hd
theorem tU (x:Rat):A.sg x=x.num.sign:=by
 rcases A.aS x with ⟨h,h1⟩|⟨h,h1⟩|⟨h,h1⟩
 ·rw [h,h1];rfl
 ·rw [h];have:0<x.num:=nY h1;exact (vj this).symm
 ·rw [h];have h1:0 < -x:=h1;have:0<(-x).num:=nY h1;rw [Rat.neg_num]at this;exact (vr oq).symm
theorem sq2:∀(n:Nat) (x y:Int),y.natAbs≤n→x*x=2*(y*y)→y=0
 | 0,x,y,h,_=>by omega
 | n+1,x,y,h,e=>by
  have hx:∃a,x=2*a:=by
   rcases Int.emod_two_eq x with h1|h1
   ·exact⟨x/2,oq⟩
   ·exfalso;obtain⟨a,rfl⟩:∃a,x=2*a+1:=⟨x/2,oq⟩;have:(2*a+1)*(2*a+1)=4*(a*a)+4*a+1:=by grind
    omega
  obtain⟨a,rfl⟩:=hx;have hy:∃b,y=2*b:=by
   rcases Int.emod_two_eq y with h1|h1
   ·exact⟨y/2,oq⟩
   ·exfalso;obtain⟨b,rfl⟩:∃b,y=2*b+1:=⟨y/2,oq⟩;have e1:(2*a)*(2*a)=4*(a*a):=by grind
    have e2:(2*b+1)*(2*b+1)=4*(b*b)+4*b+1:=by grind
    omega
  obtain⟨b,rfl⟩:=hy
  by_cases hb:b=0
  ·omega
  ·have:=sq2 n a b oq (by
    have e1:(2*a)*(2*a)=4*(a*a):=by grind
    have e2:(2*b)*(2*b)=4*(b*b):=by grind
    omega)
   exact absurd this hb
theorem sq6:∀(n:Nat) (x y:Int),y.natAbs≤n→x*x=6*(y*y)→y=0
 | 0,x,y,h,_=>by omega
 | n+1,x,y,h,e=>by
  have hx:∃a,x=2*a:=by
   rcases Int.emod_two_eq x with h1|h1
   ·exact⟨x/2,oq⟩
   ·exfalso;obtain⟨a,rfl⟩:∃a,x=2*a+1:=⟨x/2,oq⟩;have:(2*a+1)*(2*a+1)=4*(a*a)+4*a+1:=by grind
    omega
  obtain⟨a,rfl⟩:=hx;have hy:∃b,y=2*b:=by
   rcases Int.emod_two_eq y with h1|h1
   ·exact⟨y/2,oq⟩
   ·exfalso;obtain⟨b,rfl⟩:∃b,y=2*b+1:=⟨y/2,oq⟩;have e1:(2*a)*(2*a)=4*(a*a):=by grind
    have e2:(2*b+1)*(2*b+1)=4*(b*b)+4*b+1:=by grind
    omega
  obtain⟨b,rfl⟩:=hy
  by_cases hb:b=0
  ·omega
  ·have:=sq6 n a b oq (by
    have e1:(2*a)*(2*a)=4*(a*a):=by grind
    have e2:(2*b)*(2*b)=4*(b*b):=by grind
    omega)
   exact absurd this hb
theorem third (x:Int):∃a,x=3*a∨x=3*a+1∨x=3*a+2:=⟨x/3,oq⟩
theorem sq3:∀(n:Nat) (x y:Int),y.natAbs≤n→x*x=3*(y*y)→y=0
 | 0,x,y,h,_=>by omega
 | n+1,x,y,h,e=>by
  have hx:∃a,x=3*a:=by
   obtain⟨a,rfl|rfl|rfl⟩:=third x
   ·exact⟨a,rfl⟩
   ·exfalso;have:(3*a+1)*(3*a+1)=9*(a*a)+6*a+1:=by grind
    omega
   ·exfalso;have:(3*a+2)*(3*a+2)=9*(a*a)+12*a+4:=by grind
    omega
  obtain⟨a,rfl⟩:=hx;have e1:(3*a)*(3*a)=9*(a*a):=by grind
  have hy:∃b,y=3*b:=by
   obtain⟨b,rfl|rfl|rfl⟩:=third y
   ·exact⟨b,rfl⟩
   ·exfalso;have:(3*b+1)*(3*b+1)=9*(b*b)+6*b+1:=by grind
    omega
   ·exfalso;have:(3*b+2)*(3*b+2)=9*(b*b)+12*b+4:=by grind
    omega
  obtain⟨b,rfl⟩:=hy
  by_cases hb:b=0
  ·omega
  ·have:=sq3 n a b oq (by
    have e2:(3*b)*(3*b)=9*(b*b):=by grind
    omega)
   exact absurd this hb
theorem aDl {n:Int}(hn:∀x y:Int,x*x=n*(y*y)→y=0) {u v:Rat}(h:u*u=(n:Rat)*(v*v)):v=0:=by
 have hu:u*u.den=u.num:=iD u;have hv:v*v.den=v.num:=iD v
 have key:=hn (u.num*v.den) (v.num*u.den) (by
  rw [←Rat.intCast_inj];simp only [xr,xi,←hu,←hv]
  grind)
 rcases Int.mul_eq_zero.1 key with h1|h1
 ·exact yk.1 h1
 ·have:=u.den_pos;omega
namespace B
theorem hD:A.pos (2:Rat):=by show (0:Rat)<2;decide
theorem ns (u v:Rat) (h:u*u=2*(v*v)):v=0:=aDl (n:=2) (fun x y e=>sq2 _ x y (oy _) e) h
def NN (x:Q2):Rat:=x.re*x.re-2*(x.im*x.im)
theorem aKx (x y:Q2):NN (x*y)=NN x*NN y:=by
 show (x.re*y.re+2*(x.im*y.im))*(x.re*y.re+2*(x.im*y.im))-2*((x.re*y.im+x.im*y.re)*(x.re*y.im+x.im*y.re))=(x.re*x.re-2*(x.im*x.im))*(y.re*y.re-2*(y.im*y.im))
 grind
theorem rX (x:Q2):NN (-x)=NN x:=by
 show -x.re*-x.re-2*(-x.im*-x.im)=x.re*x.re-2*(x.im*x.im)
 grind
theorem jA {x:Q2}(h:NN x=0):x=0:=by
 have h1:x.im=0:=ns x.re x.im (A.lE h);have h2:x.re*x.re=0:=by
  have:=A.lE h;rw [this,h1];grind
 have h3:x.re=0:=by
  by_cases h3:x.re=0
  ·exact h3
  ·exact absurd h2 (A.mT h3 h3)
 exact Q2.ext' h3 h1
def pos (x:Q2):Prop:=(A.pos (NN x)∧A.pos x.re)∨(A.pos (-NN x)∧A.pos x.im)
theorem tri (x:Q2):x=0∨pos x∨pos (-x):=by
 unfold pos;rw [rX,Q2.neg_re,Q2.neg_im];rcases A.tri (NN x) with h|h|h
 ·exact .inl (jA h)
 ·rcases A.tri x.re with h1|h1|h1
  ·exfalso;unfold NN at h;rw [h1,show (0:Rat)*0-2*(x.im*x.im)=-(2*(x.im*x.im)) by grind]at h
   by_cases h2:x.im=0
   ·rw [h2,show -((2:Rat)*(0*0))=0 by grind]at h;exact A.zero h
   ·exact A.cW (A.mul hD (A.fQ h2)) h
  ·exact .inr (.inl (.inl ⟨h,h1⟩))
  ·exact .inr (.inr (.inl ⟨h,h1⟩))
 ·rcases A.tri x.im with h1|h1|h1
  ·exfalso;unfold NN at h;rw [h1,show -(x.re*x.re-2*((0:Rat)*0))=-(x.re*x.re) by grind]at h
   by_cases h2:x.re=0
   ·rw [h2,show -((0:Rat)*0)=0 by grind]at h;exact A.zero h
   ·exact A.cW (A.fQ h2) h
  ·exact .inr (.inl (.inr ⟨h,h1⟩))
  ·exact .inr (.inr (.inr ⟨h,h1⟩))
theorem mul {x y:Q2}(hx:pos x) (hy:pos y):pos (x*y):=by
 unfold pos;rw [aKx,Q2.mul_re,Q2.mul_im];unfold pos at hx hy;have mixed:∀ {x y:Q2},A.pos (NN x)→A.pos x.re→A.pos (-NN y)→A.pos y.im→A.pos (x.re*y.im+x.im*y.re):=by
  intro x y h1 h2 h3 h4;refine A.fP (A.mul h2 h4) ?_;refine A.mZ hD ?_;have e:2*(x.re*y.im*(x.re*y.im)-x.im*y.re*(x.im*y.re))=x.re*x.re*(-NN y)+y.re*y.re*NN x:=by unfold NN;grind
  rw [e];have p1:=A.mul (A.mul h2 h2) h3
  by_cases h0:y.re=0
  ·rw [h0,show (0:Rat)*0*NN x=0 by grind,show x.re*x.re*-NN y+0=x.re*x.re*-NN y by grind];exact p1
  ·exact A.add p1 (A.mul (A.fQ h0) h1)
 rcases hx with ⟨h1,h2⟩|⟨h1,h2⟩ <;> rcases hy with ⟨h3,h4⟩|⟨h3,h4⟩
 ·refine .inl ⟨A.mul h1 h3,A.fP (A.mul h2 h4) ?_⟩;have e:x.re*y.re*(x.re*y.re)-2*(x.im*y.im)*(2*(x.im*y.im))=x.re*x.re*NN y+2*(y.im*y.im)*NN x:=by unfold NN;grind
  rw [e];have p1:=A.mul (A.mul h2 h2) h3
  by_cases h0:y.im=0
  ·rw [h0,show 2*((0:Rat)*0)*NN x=0 by grind,show x.re*x.re*NN y+0=x.re*x.re*NN y by grind];exact p1
  ·exact A.add p1 (A.mul (A.mul hD (A.fQ h0)) h1)
 ·refine .inr ⟨?_,mixed h1 h2 h3 h4⟩;have:=A.mul h1 h3
  rwa [show NN x*-NN y=-(NN x*NN y) by grind]at this
 ·refine .inr ⟨?_,?_⟩
  ·have:=A.mul h1 h3
   rwa [show -NN x*NN y=-(NN x*NN y) by grind]at this
  ·have:=mixed h3 h4 h1 h2
   rwa [show y.re*x.im+y.im*x.re=x.re*y.im+x.im*y.re by grind]at this
 ·refine .inl ⟨?_,?_⟩
  ·have:=A.mul h1 h3
   rwa [show -NN x*-NN y=NN x*NN y by grind]at this
  ·rw [show x.re*y.re+2*(x.im*y.im)=2*(x.im*y.im)+x.re*y.re by grind];refine A.fP (A.mul hD (A.mul h2 h4)) ?_;have e:2*(x.im*y.im)*(2*(x.im*y.im))-x.re*y.re*(x.re*y.re)=2*(x.im*x.im)*(-NN y)+y.re*y.re*(-NN x):=by unfold NN;grind
   rw [e];have p1:=A.mul (A.mul hD (A.mul h2 h2)) h3
   by_cases h0:y.re=0
   ·rw [h0,show (0:Rat)*0*(-NN x)=0 by grind,show 2*(x.im*x.im)*-NN y+0=2*(x.im*x.im)*-NN y by grind];exact p1
   ·exact A.add p1 (A.mul (A.fQ h0) h1)
theorem zero:¬ pos (0:Q2):=by
 rintro (⟨_,h⟩|⟨_,h⟩)
 ·exact A.zero h
 ·exact A.zero h
theorem kV:(1:Q2)≠0:=fun h=>A.kV (congrArg Q2.re h)
theorem inv (x:Q2) (h:x≠0):∃y,x*y=1:=by
 have hN:NN x≠0:=fun e=>h (jA e);obtain⟨z,hz⟩:=A.inv (NN x) hN;refine⟨⟨x.re*z,-x.im*z⟩,Q2.ext' ?_ ?_⟩
 ·show x.re*(x.re*z)+2*(x.im*(-x.im*z))=1;rw [←hz];unfold NN;grind
 ·show x.re*(-x.im*z)+x.im*(x.re*z)=0
  grind
theorem tF {z:Q2}(h:pos z):pos (1+z):=by
 have hN:NN (1+z)=(1+z.re)*(1+z.re)-2*(z.im*z.im):=by
  show (1+z.re)*(1+z.re)-2*((0+z.im)*(0+z.im))=_
  grind
 have one:=A.oD;have hre:(1+z).re=1+z.re:=rfl;have him:(1+z).im=z.im:=by show 0+z.im=z.im;grind
 rcases h with ⟨h1,h2⟩|⟨h1,h2⟩
 ·refine .inl ⟨?_,by rw [hre];exact A.add one h2⟩;have:=A.add (A.add one (A.add h2 h2)) h1;rw [hN]
  rwa [show 1+(z.re+z.re)+NN z=(1+z.re)*(1+z.re)-2*(z.im*z.im) by unfold NN;grind]at this
 ·rcases A.tri (NN (1+z)) with h3|h3|h3
  ·exfalso;have e:=jA h3;have e2:z.im=0:=by have:=congrArg Q2.im e;rw [him]at this;exact this
   rw [e2]at h2;exact A.zero h2
  ·refine .inl ⟨h3,?_⟩;rw [hre];have key:(A.pos (-(1+z.re))∨1+z.re=0)→False:=by
    intro hh;have:A.pos (-NN (1+z)):=by
     rw [hN];have e:-((1+z.re)*(1+z.re)-2*(z.im*z.im))=-NN z+(-(1+z.re)+-(1+z.re)+1):=by unfold NN;grind
     rw [e];refine A.add h1 ?_;rcases hh with hh|hh
     ·exact A.add (A.add hh hh) one
     ·rw [hh,show -(0:Rat)+-0+1=1 by grind];exact one
    exact A.cW h3 this
   rcases A.tri (1+z.re) with h4|h4|h4
   ·exact (key (.inr h4)).elim
   ·exact h4
   ·exact (key (.inl h4)).elim
  ·exact .inr ⟨h3,by rw [him];exact h2⟩
theorem add {x y:Q2}(hx:pos x) (hy:pos y):pos (x+y):=by
 have hx0:x≠0:=fun e=>by rw [e]at hx;exact zero hx
 obtain⟨t,ht⟩:=inv x hx0;have hone:¬ pos (-(1:Q2)):=by
  rintro (⟨_,h⟩|⟨_,h⟩)
  ·exact A.cW A.oD h
  ·have h:A.pos (-(0:Rat)):=h;rw [show -(0:Rat)=0 by grind]at h;exact A.zero h
 have ht':pos t:=by
  rcases tri t with h|h|h
  ·exfalso;rw [h,show x*(0:Q2)=0 by (refine Q2.ext' ?_ ?_ <;> (simp only [Q2.mul_re,Q2.mul_im,Q2.zero_re,Q2.zero_im];grind))]at ht;exact kV ht.symm
  ·exact h
  ·exfalso;have:=mul hx h;rw [show x*-t=-(x*t) by (refine Q2.ext' ?_ ?_ <;> (simp only [Q2.mul_re,Q2.mul_im,Q2.neg_re,Q2.neg_im];grind)),ht]at this;exact hone this
 have:=mul hx (tF (mul ht' hy))
 rwa [show x*(1+t*y)=x+(x*t)*y by (refine Q2.ext' ?_ ?_ <;> (simp only [Q2.add_re,Q2.add_im,Q2.mul_re,Q2.mul_im,Q2.one_re,Q2.one_im];grind)),ht,show x+1*y=x+y by (refine Q2.ext' ?_ ?_ <;> (simp only [Q2.add_re,Q2.add_im,Q2.mul_re,Q2.mul_im,Q2.one_re,Q2.one_im];grind))]at this
theorem cW {x:Q2}(h:pos x):¬ pos (-x):=fun h'=>zero (by have:=add h h';rwa [show x+-x=0 by (refine Q2.ext' ?_ ?_ <;> (simp only [Q2.add_re,Q2.add_im,Q2.neg_re,Q2.neg_im,Q2.zero_re,Q2.zero_im];grind))]at this)
theorem nA {x:Q2}(h:pos x):x≠0:=fun e=>zero (e▸h)
theorem fQ {x:Q2}(h:x≠0):pos (x*x):=by
 rcases tri x with h1|h1|h1
 ·exact absurd h1 h
 ·exact mul h1 h1
 ·have:=mul h1 h1
  rwa [show -x*-x=x*x by (refine Q2.ext' ?_ ?_ <;> (simp only [Q2.mul_re,Q2.mul_im,Q2.neg_re,Q2.neg_im];grind))]at this
theorem oD:pos (1:Q2):=by
 have:=fQ (x:=1) kV
 rwa [show (1:Q2)*1=1 by (refine Q2.ext' ?_ ?_ <;> (simp only [Q2.mul_re,Q2.mul_im,Q2.one_re,Q2.one_im];grind))]at this
theorem lE {a b:Q2}(h:a-b=0):a=b:=by
 have e:a=(a-b)+b:=by (refine Q2.ext' ?_ ?_ <;> (simp only [Q2.add_re,Q2.add_im,Q2.sub_re,Q2.sub_im];grind))
 rw [e,h];(refine Q2.ext' ?_ ?_ <;> (simp only [Q2.add_re,Q2.add_im,Q2.zero_re,Q2.zero_im];grind))
theorem fP {a b:Q2}(ha:pos a) (h:pos (a*a-b*b)):pos (a+b):=by
 rcases tri (a+b) with h1|h1|h1
 ·exfalso;rw [show a*a-b*b=(a+b)*(a-b) by (refine Q2.ext' ?_ ?_ <;> (simp only [Q2.add_re,Q2.add_im,Q2.mul_re,Q2.mul_im,Q2.sub_re,Q2.sub_im];grind)),h1,show (0:Q2)*(a-b)=0 by (refine Q2.ext' ?_ ?_ <;> (simp only [Q2.mul_re,Q2.mul_im,Q2.sub_re,Q2.sub_im,Q2.zero_re,Q2.zero_im];grind))]at h;exact zero h
 ·exact h1
 ·exfalso;have h2:pos (a-b):=by
   have:=add (add ha ha) h1
   rwa [show a+a+-(a+b)=a-b by (refine Q2.ext' ?_ ?_ <;> (simp only [Q2.add_re,Q2.add_im,Q2.neg_re,Q2.neg_im,Q2.sub_re,Q2.sub_im];grind))]at this
  have:=mul h1 h2;rw [show -(a+b)*(a-b)=-(a*a-b*b) by (refine Q2.ext' ?_ ?_ <;> (simp only [Q2.add_re,Q2.add_im,Q2.mul_re,Q2.mul_im,Q2.neg_re,Q2.neg_im,Q2.sub_re,Q2.sub_im];grind))]at this;exact cW h this
theorem mZ {a b:Q2}(ha:pos a) (h:pos (a*b)):pos b:=by
 rcases tri b with h1|h1|h1
 ·exfalso;rw [h1,show a*(0:Q2)=0 by (refine Q2.ext' ?_ ?_ <;> (simp only [Q2.mul_re,Q2.mul_im,Q2.zero_re,Q2.zero_im];grind))]at h;exact zero h
 ·exact h1
 ·exfalso;have:=mul ha h1;rw [show a*-b=-(a*b) by (refine Q2.ext' ?_ ?_ <;> (simp only [Q2.mul_re,Q2.mul_im,Q2.neg_re,Q2.neg_im];grind))]at this;exact cW h this
theorem mT {a b:Q2}(ha:a≠0) (hb:b≠0):a*b≠0:=by
 obtain⟨y,hy⟩:=inv a ha;intro h;apply hb;have e:b=1*b:=by (refine Q2.ext' ?_ ?_ <;> (simp only [Q2.mul_re,Q2.mul_im,Q2.one_re,Q2.one_im];grind))
 rw [e,←hy,show a*y*b=(a*b)*y by (refine Q2.ext' ?_ ?_ <;> (simp only [Q2.mul_re,Q2.mul_im];grind)),h];(refine Q2.ext' ?_ ?_ <;> (simp only [Q2.mul_re,Q2.mul_im,Q2.zero_re,Q2.zero_im];grind))
open Classical in
noncomputable def sg (x:Q2):Int:=if pos x then 1 else if pos (-x) then -1 else 0
theorem eS {x:Q2}(h:pos x):sg x=1:=by unfold sg;rw [od h]
theorem fS {x:Q2}(h:pos (-x)):sg x=-1:=by
 unfold sg;rw [oh (fun h'=>cW h' h),od h]
theorem sg_zero:sg (0:Q2)=0:=by
 unfold sg;rw [oh zero,oh (by rw [show -(0:Q2)=0 by (refine Q2.ext' ?_ ?_ <;> (simp only [Q2.neg_re,Q2.neg_im,Q2.zero_re,Q2.zero_im];grind))];exact zero)]
theorem aS (x:Q2):(sg x=0∧x=0)∨(sg x=1∧pos x)∨(sg x=-1∧pos (-x)):=by
 rcases tri x with h|h|h
 ·exact .inl ⟨h▸sg_zero,h⟩
 ·exact .inr (.inl ⟨eS h,h⟩)
 ·exact .inr (.inr ⟨fS h,h⟩)
theorem lB (x:Q2):sg x=0∨sg x=1∨sg x=-1:=by
 rcases aS x with ⟨h,_⟩|⟨h,_⟩|⟨h,_⟩
 ·exact .inl h
 ·exact .inr (.inl h)
 ·exact .inr (.inr h)
theorem uC (u v:Rat):cQ (A.sg u) (A.sg v) (A.sg (u*u-2*(v*v)))=sg ⟨u,v⟩:=by
 have P:A.pos (u*u-2*(v*v))→A.pos u→sg (⟨u,v⟩:Q2)=1:=fun h1 h2=>eS (.inl ⟨h1,h2⟩);have Q:A.pos (-(u*u-2*(v*v)))→A.pos v→sg (⟨u,v⟩:Q2)=1:=fun h1 h2=>eS (.inr ⟨h1,h2⟩);have P':A.pos (u*u-2*(v*v))→A.pos (-u)→sg (⟨u,v⟩:Q2)=-1:=fun h1 h2=>fS (.inl ⟨by rw [rX];exact h1,h2⟩);have Q':A.pos (-(u*u-2*(v*v)))→A.pos (-v)→sg (⟨u,v⟩:Q2)=-1:=fun h1 h2=>fS (.inr ⟨by rw [rX];exact h1,h2⟩);have Z:u*u-2*(v*v)=0→u=0∧v=0:=fun h=>by
  have:=jA (x:=(⟨u,v⟩:Q2)) h;exact⟨congrArg Q2.re this,congrArg Q2.im this⟩
 rcases A.aS u with ⟨h,h1⟩|⟨h,h1⟩|⟨h,h1⟩ <;> rcases A.aS v with ⟨g,g1⟩|⟨g,g1⟩|⟨g,g1⟩ <;> rw [h,g]
 ·subst h1 g1;exact sg_zero.symm
 ·rw [Q (by rw [h1,show -((0:Rat)*0-2*(v*v))=2*(v*v) by grind];exact A.mul hD (A.mul g1 g1)) g1];rfl
 ·rw [Q' (by rw [h1,show -((0:Rat)*0-2*(v*v))=2*(-v*-v) by grind];exact A.mul hD (A.mul g1 g1)) g1];rfl
 ·rw [P (by rw [g1,show u*u-2*((0:Rat)*0)=u*u by grind];exact A.mul h1 h1) h1];rfl
 ·rcases A.aS (u*u-2*(v*v)) with ⟨_,k⟩|⟨_,k⟩|⟨_,k⟩
  ·exact absurd (Z k).1 (A.nA h1)
  ·rw [P k h1];rfl
  ·rw [Q k g1];rfl
 ·rcases A.aS (u*u-2*(v*v)) with ⟨_,k⟩|⟨e,k⟩|⟨e,k⟩
  ·exact absurd (Z k).1 (A.nA h1)
  ·rw [P k h1,e];rfl
  ·rw [Q' k g1,e];rfl
 ·rw [P' (by rw [g1,show u*u-2*((0:Rat)*0)=-u*-u by grind];exact A.mul h1 h1) h1];rfl
 ·rcases A.aS (u*u-2*(v*v)) with ⟨_,k⟩|⟨e,k⟩|⟨e,k⟩
  ·exact absurd (Z k).2 (A.nA g1)
  ·rw [P' k h1,e];rfl
  ·rw [Q k g1,e];rfl
 ·rcases A.aS (u*u-2*(v*v)) with ⟨_,k⟩|⟨e,k⟩|⟨e,k⟩
  ·exfalso;have:=(Z k).1;rw [this,show -(0:Rat)=0 by grind]at h1;exact A.zero h1
  ·rw [P' k h1];rfl
  ·rw [Q' k g1];rfl
end B
namespace C
theorem hD:B.pos (3:Q2):=.inl ⟨by show (0:Rat)<3*3-2*(0*0);grind,by show (0:Rat)<3;decide⟩
theorem ns (u v:Q2) (h:u*u=3*(v*v)):v=0:=by
 by_cases hv:v=0
 ·exact hv
 ·exfalso;obtain⟨y,hy⟩:=B.inv v hv;have hw:(u*y)*(u*y)=3:=by
   have e:(u*y)*(u*y)=(u*u)*(y*y):=by (refine Q2.ext' ?_ ?_ <;> (simp only [Q2.mul_re,Q2.mul_im];grind))
   rw [e,h,show 3*(v*v)*(y*y)=3*((v*y)*(v*y)) by (refine Q2.ext' ?_ ?_ <;> (simp only [Q2.mul_re,Q2.mul_im,Q2.three_re,Q2.three_im];grind)),hy];(refine Q2.ext' ?_ ?_ <;> (simp only [Q2.mul_re,Q2.mul_im,Q2.one_re,Q2.one_im,Q2.three_re,Q2.three_im];grind))
  generalize u*y=w at hw;have h1:w.re*w.re+2*(w.im*w.im)=3:=congrArg Q2.re hw;have h2:w.re*w.im+w.im*w.re=0:=congrArg Q2.im hw;have h3:w.re=0∨w.im=0:=by
   have:w.re*w.im=0:=by grind
   exact Rat.mul_eq_zero.1 this
  rcases h3 with h3|h3
  ·rw [h3]at h1
   have:=aDl (n:=6) (fun x y e=>sq6 _ x y (oy _) e) (u:=2*w.im) (v:=1) (by
    show 2*w.im*(2*w.im)=(6:Rat)*(1*1);grind)
   exact absurd this oz
  ·rw [h3]at h1
   have:=aDl (n:=3) (fun x y e=>sq3 _ x y (oy _) e) (u:=w.re) (v:=1) (by
    show w.re*w.re=(3:Rat)*(1*1);grind)
   exact absurd this oz
def NN (x:Q23):Q2:=x.re*x.re-3*(x.im*x.im)
theorem aKx (x y:Q23):NN (x*y)=NN x*NN y:=by
 show (x.re*y.re+3*(x.im*y.im))*(x.re*y.re+3*(x.im*y.im))-3*((x.re*y.im+x.im*y.re)*(x.re*y.im+x.im*y.re))=(x.re*x.re-3*(x.im*x.im))*(y.re*y.re-3*(y.im*y.im))
 (refine Q2.ext' ?_ ?_ <;> (simp only [Q2.add_re,Q2.add_im,Q2.mul_re,Q2.mul_im,Q2.sub_re,Q2.sub_im,Q2.three_re,Q2.three_im];grind))
theorem rX (x:Q23):NN (-x)=NN x:=by
 show -x.re*-x.re-3*(-x.im*-x.im)=x.re*x.re-3*(x.im*x.im)
 (refine Q2.ext' ?_ ?_ <;> (simp only [Q2.mul_re,Q2.mul_im,Q2.neg_re,Q2.neg_im,Q2.sub_re,Q2.sub_im,Q2.three_re,Q2.three_im];grind))
theorem jA {x:Q23}(h:NN x=0):x=0:=by
 have h1:x.im=0:=ns x.re x.im (B.lE h);have h2:x.re*x.re=0:=by
  have:=B.lE h;rw [this,h1];(refine Q2.ext' ?_ ?_ <;> (simp only [Q2.mul_re,Q2.mul_im,Q2.zero_re,Q2.zero_im,Q2.three_re,Q2.three_im];grind))
 have h3:x.re=0:=by
  by_cases h3:x.re=0
  ·exact h3
  ·exact absurd h2 (B.mT h3 h3)
 exact Q23.ext' h3 h1
def pos (x:Q23):Prop:=(B.pos (NN x)∧B.pos x.re)∨(B.pos (-NN x)∧B.pos x.im)
theorem tri (x:Q23):x=0∨pos x∨pos (-x):=by
 unfold pos;rw [rX,Q23.neg_re,Q23.neg_im];rcases B.tri (NN x) with h|h|h
 ·exact .inl (jA h)
 ·rcases B.tri x.re with h1|h1|h1
  ·exfalso;unfold NN at h;rw [h1,show (0:Q2)*0-3*(x.im*x.im)=-(3*(x.im*x.im)) by (refine Q2.ext' ?_ ?_ <;> (simp only [Q2.mul_re,Q2.mul_im,Q2.neg_re,Q2.neg_im,Q2.sub_re,Q2.sub_im,Q2.zero_re,Q2.zero_im,Q2.three_re,Q2.three_im];grind))]at h
   by_cases h2:x.im=0
   ·rw [h2,show -((3:Q2)*(0*0))=0 by (refine Q2.ext' ?_ ?_ <;> (simp only [Q2.mul_re,Q2.mul_im,Q2.neg_re,Q2.neg_im,Q2.zero_re,Q2.zero_im,Q2.three_re,Q2.three_im];grind))]at h;exact B.zero h
   ·exact B.cW (B.mul hD (B.fQ h2)) h
  ·exact .inr (.inl (.inl ⟨h,h1⟩))
  ·exact .inr (.inr (.inl ⟨h,h1⟩))
 ·rcases B.tri x.im with h1|h1|h1
  ·exfalso;unfold NN at h;rw [h1,show -(x.re*x.re-3*((0:Q2)*0))=-(x.re*x.re) by (refine Q2.ext' ?_ ?_ <;> (simp only [Q2.mul_re,Q2.mul_im,Q2.neg_re,Q2.neg_im,Q2.sub_re,Q2.sub_im,Q2.zero_re,Q2.zero_im,Q2.three_re,Q2.three_im];grind))]at h
   by_cases h2:x.re=0
   ·rw [h2,show -((0:Q2)*0)=0 by (refine Q2.ext' ?_ ?_ <;> (simp only [Q2.mul_re,Q2.mul_im,Q2.neg_re,Q2.neg_im,Q2.zero_re,Q2.zero_im];grind))]at h;exact B.zero h
   ·exact B.cW (B.fQ h2) h
  ·exact .inr (.inl (.inr ⟨h,h1⟩))
  ·exact .inr (.inr (.inr ⟨h,h1⟩))
theorem mul {x y:Q23}(hx:pos x) (hy:pos y):pos (x*y):=by
 unfold pos;rw [aKx,Q23.mul_re,Q23.mul_im];unfold pos at hx hy;have mixed:∀ {x y:Q23},B.pos (NN x)→B.pos x.re→B.pos (-NN y)→B.pos y.im→B.pos (x.re*y.im+x.im*y.re):=by
  intro x y h1 h2 h3 h4;refine B.fP (B.mul h2 h4) ?_;refine B.mZ hD ?_;have e:3*(x.re*y.im*(x.re*y.im)-x.im*y.re*(x.im*y.re))=x.re*x.re*(-NN y)+y.re*y.re*NN x:=by unfold NN;(refine Q2.ext' ?_ ?_ <;> (simp only [Q2.add_re,Q2.add_im,Q2.mul_re,Q2.mul_im,Q2.neg_re,Q2.neg_im,Q2.sub_re,Q2.sub_im,Q2.three_re,Q2.three_im];grind))
  rw [e];have p1:=B.mul (B.mul h2 h2) h3
  by_cases h0:y.re=0
  ·rw [h0,show (0:Q2)*0*NN x=0 by (refine Q2.ext' ?_ ?_ <;> (simp only [Q2.mul_re,Q2.mul_im,Q2.zero_re,Q2.zero_im];grind)),show x.re*x.re*-NN y+0=x.re*x.re*-NN y by (refine Q2.ext' ?_ ?_ <;> (simp only [Q2.add_re,Q2.add_im,Q2.mul_re,Q2.mul_im,Q2.neg_re,Q2.neg_im,Q2.zero_re,Q2.zero_im];grind))];exact p1
  ·exact B.add p1 (B.mul (B.fQ h0) h1)
 rcases hx with ⟨h1,h2⟩|⟨h1,h2⟩ <;> rcases hy with ⟨h3,h4⟩|⟨h3,h4⟩
 ·refine .inl ⟨B.mul h1 h3,B.fP (B.mul h2 h4) ?_⟩;have e:x.re*y.re*(x.re*y.re)-3*(x.im*y.im)*(3*(x.im*y.im))=x.re*x.re*NN y+3*(y.im*y.im)*NN x:=by unfold NN;(refine Q2.ext' ?_ ?_ <;> (simp only [Q2.add_re,Q2.add_im,Q2.mul_re,Q2.mul_im,Q2.sub_re,Q2.sub_im,Q2.three_re,Q2.three_im];grind))
  rw [e];have p1:=B.mul (B.mul h2 h2) h3
  by_cases h0:y.im=0
  ·rw [h0,show 3*((0:Q2)*0)*NN x=0 by (refine Q2.ext' ?_ ?_ <;> (simp only [Q2.mul_re,Q2.mul_im,Q2.zero_re,Q2.zero_im,Q2.three_re,Q2.three_im];grind)),show x.re*x.re*NN y+0=x.re*x.re*NN y by (refine Q2.ext' ?_ ?_ <;> (simp only [Q2.add_re,Q2.add_im,Q2.mul_re,Q2.mul_im,Q2.zero_re,Q2.zero_im];grind))];exact p1
  ·exact B.add p1 (B.mul (B.mul hD (B.fQ h0)) h1)
 ·refine .inr ⟨?_,mixed h1 h2 h3 h4⟩;have:=B.mul h1 h3
  rwa [show NN x*-NN y=-(NN x*NN y) by (refine Q2.ext' ?_ ?_ <;> (simp only [Q2.mul_re,Q2.mul_im,Q2.neg_re,Q2.neg_im];grind))]at this
 ·refine .inr ⟨?_,?_⟩
  ·have:=B.mul h1 h3
   rwa [show -NN x*NN y=-(NN x*NN y) by (refine Q2.ext' ?_ ?_ <;> (simp only [Q2.mul_re,Q2.mul_im,Q2.neg_re,Q2.neg_im];grind))]at this
  ·have:=mixed h3 h4 h1 h2
   rwa [show y.re*x.im+y.im*x.re=x.re*y.im+x.im*y.re by (refine Q2.ext' ?_ ?_ <;> (simp only [Q2.add_re,Q2.add_im,Q2.mul_re,Q2.mul_im];grind))]at this
 ·refine .inl ⟨?_,?_⟩
  ·have:=B.mul h1 h3
   rwa [show -NN x*-NN y=NN x*NN y by (refine Q2.ext' ?_ ?_ <;> (simp only [Q2.mul_re,Q2.mul_im,Q2.neg_re,Q2.neg_im];grind))]at this
  ·rw [show x.re*y.re+3*(x.im*y.im)=3*(x.im*y.im)+x.re*y.re by (refine Q2.ext' ?_ ?_ <;> (simp only [Q2.add_re,Q2.add_im,Q2.mul_re,Q2.mul_im,Q2.three_re,Q2.three_im];grind))];refine B.fP (B.mul hD (B.mul h2 h4)) ?_;have e:3*(x.im*y.im)*(3*(x.im*y.im))-x.re*y.re*(x.re*y.re)=3*(x.im*x.im)*(-NN y)+y.re*y.re*(-NN x):=by unfold NN;(refine Q2.ext' ?_ ?_ <;> (simp only [Q2.add_re,Q2.add_im,Q2.mul_re,Q2.mul_im,Q2.neg_re,Q2.neg_im,Q2.sub_re,Q2.sub_im,Q2.three_re,Q2.three_im];grind))
   rw [e];have p1:=B.mul (B.mul hD (B.mul h2 h2)) h3
   by_cases h0:y.re=0
   ·rw [h0,show (0:Q2)*0*(-NN x)=0 by (refine Q2.ext' ?_ ?_ <;> (simp only [Q2.mul_re,Q2.mul_im,Q2.neg_re,Q2.neg_im,Q2.zero_re,Q2.zero_im];grind)),show 3*(x.im*x.im)*-NN y+0=3*(x.im*x.im)*-NN y by (refine Q2.ext' ?_ ?_ <;> (simp only [Q2.add_re,Q2.add_im,Q2.mul_re,Q2.mul_im,Q2.neg_re,Q2.neg_im,Q2.zero_re,Q2.zero_im,Q2.three_re,Q2.three_im];grind))];exact p1
   ·exact B.add p1 (B.mul (B.fQ h0) h1)
theorem zero:¬ pos (0:Q23):=by
 rintro (⟨_,h⟩|⟨_,h⟩)
 ·exact B.zero h
 ·exact B.zero h
theorem kV:(1:Q23)≠0:=fun h=>B.kV (congrArg Q23.re h)
theorem inv (x:Q23) (h:x≠0):∃y,x*y=1:=by
 have hN:NN x≠0:=fun e=>h (jA e);obtain⟨z,hz⟩:=B.inv (NN x) hN;refine⟨⟨x.re*z,-x.im*z⟩,Q23.ext' ?_ ?_⟩
 ·show x.re*(x.re*z)+3*(x.im*(-x.im*z))=1;rw [←hz];unfold NN;(refine Q2.ext' ?_ ?_ <;> (simp only [Q2.add_re,Q2.add_im,Q2.mul_re,Q2.mul_im,Q2.neg_re,Q2.neg_im,Q2.sub_re,Q2.sub_im,Q2.three_re,Q2.three_im];grind))
 ·show x.re*(-x.im*z)+x.im*(x.re*z)=0
  (refine Q2.ext' ?_ ?_ <;> (simp only [Q2.add_re,Q2.add_im,Q2.mul_re,Q2.mul_im,Q2.neg_re,Q2.neg_im,Q2.zero_re,Q2.zero_im];grind))
theorem tF {z:Q23}(h:pos z):pos (1+z):=by
 have hN:NN (1+z)=(1+z.re)*(1+z.re)-3*(z.im*z.im):=by
  show (1+z.re)*(1+z.re)-3*((0+z.im)*(0+z.im))=_
  (refine Q2.ext' ?_ ?_ <;> (simp only [Q2.add_re,Q2.add_im,Q2.mul_re,Q2.mul_im,Q2.sub_re,Q2.sub_im,Q2.one_re,Q2.one_im,Q2.zero_re,Q2.zero_im,Q2.three_re,Q2.three_im];grind))
 have one:=B.oD;have hre:(1+z).re=1+z.re:=rfl;have him:(1+z).im=z.im:=by show 0+z.im=z.im;(refine Q2.ext' ?_ ?_ <;> (simp only [Q2.add_re,Q2.add_im,Q2.zero_re,Q2.zero_im];grind))
 rcases h with ⟨h1,h2⟩|⟨h1,h2⟩
 ·refine .inl ⟨?_,by rw [hre];exact B.add one h2⟩;have:=B.add (B.add one (B.add h2 h2)) h1;rw [hN]
  rwa [show 1+(z.re+z.re)+NN z=(1+z.re)*(1+z.re)-3*(z.im*z.im) by unfold NN;(refine Q2.ext' ?_ ?_ <;> (simp only [Q2.add_re,Q2.add_im,Q2.mul_re,Q2.mul_im,Q2.sub_re,Q2.sub_im,Q2.one_re,Q2.one_im,Q2.three_re,Q2.three_im];grind))]at this
 ·rcases B.tri (NN (1+z)) with h3|h3|h3
  ·exfalso;have e:=jA h3;have e2:z.im=0:=by have:=congrArg Q23.im e;rw [him]at this;exact this
   rw [e2]at h2;exact B.zero h2
  ·refine .inl ⟨h3,?_⟩;rw [hre];have key:(B.pos (-(1+z.re))∨1+z.re=0)→False:=by
    intro hh;have:B.pos (-NN (1+z)):=by
     rw [hN];have e:-((1+z.re)*(1+z.re)-3*(z.im*z.im))=-NN z+(-(1+z.re)+-(1+z.re)+1):=by unfold NN;(refine Q2.ext' ?_ ?_ <;> (simp only [Q2.add_re,Q2.add_im,Q2.mul_re,Q2.mul_im,Q2.neg_re,Q2.neg_im,Q2.sub_re,Q2.sub_im,Q2.one_re,Q2.one_im,Q2.three_re,Q2.three_im];grind))
     rw [e];refine B.add h1 ?_;rcases hh with hh|hh
     ·exact B.add (B.add hh hh) one
     ·rw [hh,show -(0:Q2)+-0+1=1 by (refine Q2.ext' ?_ ?_ <;> (simp only [Q2.add_re,Q2.add_im,Q2.neg_re,Q2.neg_im,Q2.one_re,Q2.one_im,Q2.zero_re,Q2.zero_im];grind))];exact one
    exact B.cW h3 this
   rcases B.tri (1+z.re) with h4|h4|h4
   ·exact (key (.inr h4)).elim
   ·exact h4
   ·exact (key (.inl h4)).elim
  ·exact .inr ⟨h3,by rw [him];exact h2⟩
theorem add {x y:Q23}(hx:pos x) (hy:pos y):pos (x+y):=by
 have hx0:x≠0:=fun e=>by rw [e]at hx;exact zero hx
 obtain⟨t,ht⟩:=inv x hx0;have hone:¬ pos (-(1:Q23)):=by
  rintro (⟨_,h⟩|⟨_,h⟩)
  ·exact B.cW B.oD h
  ·have h:B.pos (-(0:Q2)):=h;rw [show -(0:Q2)=0 by (refine Q2.ext' ?_ ?_ <;> (simp only [Q2.neg_re,Q2.neg_im,Q2.zero_re,Q2.zero_im];grind))]at h;exact B.zero h
 have ht':pos t:=by
  rcases tri t with h|h|h
  ·exfalso;rw [h,show x*(0:Q23)=0 by (refine Q23.ext' (Q2.ext' ?_ ?_) (Q2.ext' ?_ ?_) <;> (simp only [Q23.mul_re,Q23.mul_im,Q23.zero_re,Q23.zero_im,Q2.add_re,Q2.add_im,Q2.mul_re,Q2.mul_im,Q2.zero_re,Q2.zero_im,Q2.three_re,Q2.three_im];grind))]at ht;exact kV ht.symm
  ·exact h
  ·exfalso;have:=mul hx h;rw [show x*-t=-(x*t) by (refine Q23.ext' (Q2.ext' ?_ ?_) (Q2.ext' ?_ ?_) <;> (simp only [Q23.mul_re,Q23.mul_im,Q23.neg_re,Q23.neg_im,Q2.add_re,Q2.add_im,Q2.mul_re,Q2.mul_im,Q2.neg_re,Q2.neg_im,Q2.three_re,Q2.three_im];grind)),ht]at this;exact hone this
 have:=mul hx (tF (mul ht' hy))
 rwa [show x*(1+t*y)=x+(x*t)*y by (refine Q23.ext' (Q2.ext' ?_ ?_) (Q2.ext' ?_ ?_) <;> (simp only [Q23.add_re,Q23.add_im,Q23.mul_re,Q23.mul_im,Q23.one_re,Q23.one_im,Q2.add_re,Q2.add_im,Q2.mul_re,Q2.mul_im,Q2.one_re,Q2.one_im,Q2.zero_re,Q2.zero_im,Q2.three_re,Q2.three_im];grind)),ht,show x+1*y=x+y by (refine Q23.ext' (Q2.ext' ?_ ?_) (Q2.ext' ?_ ?_) <;> (simp only [Q23.add_re,Q23.add_im,Q23.mul_re,Q23.mul_im,Q23.one_re,Q23.one_im,Q2.add_re,Q2.add_im,Q2.mul_re,Q2.mul_im,Q2.one_re,Q2.one_im,Q2.zero_re,Q2.zero_im,Q2.three_re,Q2.three_im];grind))]at this
theorem cW {x:Q23}(h:pos x):¬ pos (-x):=fun h'=>zero (by have:=add h h';rwa [show x+-x=0 by (refine Q23.ext' (Q2.ext' ?_ ?_) (Q2.ext' ?_ ?_) <;> (simp only [Q23.add_re,Q23.add_im,Q23.neg_re,Q23.neg_im,Q23.zero_re,Q23.zero_im,Q2.add_re,Q2.add_im,Q2.neg_re,Q2.neg_im,Q2.zero_re,Q2.zero_im];grind))]at this)
theorem mT {a b:Q23}(ha:a≠0) (hb:b≠0):a*b≠0:=by
 obtain⟨y,hy⟩:=inv a ha;intro h;apply hb;have e:b=1*b:=by (refine Q23.ext' (Q2.ext' ?_ ?_) (Q2.ext' ?_ ?_) <;> (simp only [Q23.mul_re,Q23.mul_im,Q23.one_re,Q23.one_im,Q2.add_re,Q2.add_im,Q2.mul_re,Q2.mul_im,Q2.one_re,Q2.one_im,Q2.zero_re,Q2.zero_im,Q2.three_re,Q2.three_im];grind))
 rw [e,←hy,show a*y*b=(a*b)*y by (refine Q23.ext' (Q2.ext' ?_ ?_) (Q2.ext' ?_ ?_) <;> (simp only [Q23.mul_re,Q23.mul_im,Q2.add_re,Q2.add_im,Q2.mul_re,Q2.mul_im,Q2.three_re,Q2.three_im];grind)),h];(refine Q23.ext' (Q2.ext' ?_ ?_) (Q2.ext' ?_ ?_) <;> (simp only [Q23.mul_re,Q23.mul_im,Q23.zero_re,Q23.zero_im,Q2.add_re,Q2.add_im,Q2.mul_re,Q2.mul_im,Q2.zero_re,Q2.zero_im,Q2.three_re,Q2.three_im];grind))
open Classical in
noncomputable def sg (x:Q23):Int:=if pos x then 1 else if pos (-x) then -1 else 0
theorem eS {x:Q23}(h:pos x):sg x=1:=by unfold sg;rw [od h]
theorem fS {x:Q23}(h:pos (-x)):sg x=-1:=by
 unfold sg;rw [oh (fun h'=>cW h' h),od h]
theorem sg_zero:sg (0:Q23)=0:=by
 unfold sg;rw [oh zero,oh (by rw [show -(0:Q23)=0 by (refine Q23.ext' (Q2.ext' ?_ ?_) (Q2.ext' ?_ ?_) <;> (simp only [Q23.neg_re,Q23.neg_im,Q23.zero_re,Q23.zero_im,Q2.neg_re,Q2.neg_im,Q2.zero_re,Q2.zero_im];grind))];exact zero)]
theorem aS (x:Q23):(sg x=0∧x=0)∨(sg x=1∧pos x)∨(sg x=-1∧pos (-x)):=by
 rcases tri x with h|h|h
 ·exact .inl ⟨h▸sg_zero,h⟩
 ·exact .inr (.inl ⟨eS h,h⟩)
 ·exact .inr (.inr ⟨fS h,h⟩)
theorem lB (x:Q23):sg x=0∨sg x=1∨sg x=-1:=by
 rcases aS x with ⟨h,_⟩|⟨h,_⟩|⟨h,_⟩
 ·exact .inl h
 ·exact .inr (.inl h)
 ·exact .inr (.inr h)
theorem aDy {x:Q23}:sg x=0↔x=0:=by
 refine⟨fun h=>?_,fun h=>h▸sg_zero⟩;rcases aS x with ⟨_,h1⟩|⟨h1,_⟩|⟨h1,_⟩
 ·exact h1
 ·omega
 ·omega
theorem aBm (x:Q23):sg (-x)=- sg x:=by
 rcases aS x with ⟨h,h1⟩|⟨h,h1⟩|⟨h,h1⟩
 ·rw [h,h1,show -(0:Q23)=0 by (refine Q23.ext' (Q2.ext' ?_ ?_) (Q2.ext' ?_ ?_) <;> (simp only [Q23.neg_re,Q23.neg_im,Q23.zero_re,Q23.zero_im,Q2.neg_re,Q2.neg_im,Q2.zero_re,Q2.zero_im];grind)),sg_zero];rfl
 ·rw [h,fS (by rw [show - -x=x by (refine Q23.ext' (Q2.ext' ?_ ?_) (Q2.ext' ?_ ?_) <;> (simp only [Q23.neg_re,Q23.neg_im,Q2.neg_re,Q2.neg_im];grind))];exact h1)]
 ·rw [h,eS h1];rfl
theorem xW (x y:Q23):sg (x*y)=sg x*sg y:=by
 rcases aS x with ⟨h,h1⟩|⟨h,h1⟩|⟨h,h1⟩ <;> rcases aS y with ⟨g,g1⟩|⟨g,g1⟩|⟨g,g1⟩
 ·rw [h,h1,show (0:Q23)*y=0 by (refine Q23.ext' (Q2.ext' ?_ ?_) (Q2.ext' ?_ ?_) <;> (simp only [Q23.mul_re,Q23.mul_im,Q23.zero_re,Q23.zero_im,Q2.add_re,Q2.add_im,Q2.mul_re,Q2.mul_im,Q2.zero_re,Q2.zero_im,Q2.three_re,Q2.three_im];grind)),sg_zero];omega
 ·rw [h,h1,show (0:Q23)*y=0 by (refine Q23.ext' (Q2.ext' ?_ ?_) (Q2.ext' ?_ ?_) <;> (simp only [Q23.mul_re,Q23.mul_im,Q23.zero_re,Q23.zero_im,Q2.add_re,Q2.add_im,Q2.mul_re,Q2.mul_im,Q2.zero_re,Q2.zero_im,Q2.three_re,Q2.three_im];grind)),sg_zero];omega
 ·rw [h,h1,show (0:Q23)*y=0 by (refine Q23.ext' (Q2.ext' ?_ ?_) (Q2.ext' ?_ ?_) <;> (simp only [Q23.mul_re,Q23.mul_im,Q23.zero_re,Q23.zero_im,Q2.add_re,Q2.add_im,Q2.mul_re,Q2.mul_im,Q2.zero_re,Q2.zero_im,Q2.three_re,Q2.three_im];grind)),sg_zero];omega
 ·rw [g,g1,show x*(0:Q23)=0 by (refine Q23.ext' (Q2.ext' ?_ ?_) (Q2.ext' ?_ ?_) <;> (simp only [Q23.mul_re,Q23.mul_im,Q23.zero_re,Q23.zero_im,Q2.add_re,Q2.add_im,Q2.mul_re,Q2.mul_im,Q2.zero_re,Q2.zero_im,Q2.three_re,Q2.three_im];grind)),sg_zero];omega
 ·rw [h,g,eS (mul h1 g1)];rfl
 ·rw [h,g,fS (by have:=mul h1 g1;rwa [show x*-y=-(x*y) by (refine Q23.ext' (Q2.ext' ?_ ?_) (Q2.ext' ?_ ?_) <;> (simp only [Q23.mul_re,Q23.mul_im,Q23.neg_re,Q23.neg_im,Q2.add_re,Q2.add_im,Q2.mul_re,Q2.mul_im,Q2.neg_re,Q2.neg_im,Q2.three_re,Q2.three_im];grind))]at this)];rfl
 ·rw [g,g1,show x*(0:Q23)=0 by (refine Q23.ext' (Q2.ext' ?_ ?_) (Q2.ext' ?_ ?_) <;> (simp only [Q23.mul_re,Q23.mul_im,Q23.zero_re,Q23.zero_im,Q2.add_re,Q2.add_im,Q2.mul_re,Q2.mul_im,Q2.zero_re,Q2.zero_im,Q2.three_re,Q2.three_im];grind)),sg_zero];omega
 ·rw [h,g,fS (by have:=mul h1 g1;rwa [show -x*y=-(x*y) by (refine Q23.ext' (Q2.ext' ?_ ?_) (Q2.ext' ?_ ?_) <;> (simp only [Q23.mul_re,Q23.mul_im,Q23.neg_re,Q23.neg_im,Q2.add_re,Q2.add_im,Q2.mul_re,Q2.mul_im,Q2.neg_re,Q2.neg_im,Q2.three_re,Q2.three_im];grind))]at this)];rfl
 ·rw [h,g,eS (by have:=mul h1 g1;rwa [show -x*-y=x*y by (refine Q23.ext' (Q2.ext' ?_ ?_) (Q2.ext' ?_ ?_) <;> (simp only [Q23.mul_re,Q23.mul_im,Q23.neg_re,Q23.neg_im,Q2.add_re,Q2.add_im,Q2.mul_re,Q2.mul_im,Q2.neg_re,Q2.neg_im,Q2.three_re,Q2.three_im];grind))]at this)];rfl
theorem aQo {x y:Q23}(hx:sg x≤0) (hy:sg y≤0):sg (x+y)≤0:=by
 rcases aS x with ⟨h,h1⟩|⟨h,h1⟩|⟨h,h1⟩
 ·rw [h1,show (0:Q23)+y=y by (refine Q23.ext' (Q2.ext' ?_ ?_) (Q2.ext' ?_ ?_) <;> (simp only [Q23.add_re,Q23.add_im,Q23.zero_re,Q23.zero_im,Q2.add_re,Q2.add_im,Q2.zero_re,Q2.zero_im];grind))];exact hy
 ·omega
 ·rcases aS y with ⟨g,g1⟩|⟨g,g1⟩|⟨g,g1⟩
  ·rw [g1,show x+(0:Q23)=x by (refine Q23.ext' (Q2.ext' ?_ ?_) (Q2.ext' ?_ ?_) <;> (simp only [Q23.add_re,Q23.add_im,Q23.zero_re,Q23.zero_im,Q2.add_re,Q2.add_im,Q2.zero_re,Q2.zero_im];grind))];exact hx
  ·omega
  ·rw [fS (by have:=add h1 g1;rwa [show -x+-y=-(x+y) by (refine Q23.ext' (Q2.ext' ?_ ?_) (Q2.ext' ?_ ?_) <;> (simp only [Q23.add_re,Q23.add_im,Q23.neg_re,Q23.neg_im,Q2.add_re,Q2.add_im,Q2.neg_re,Q2.neg_im];grind))]at this)];decide
theorem ord6 {x y z:Q23}(h:sg (x-y)≤0) (h':sg (y-z)≤0):sg (x-z)≤0:=by
 have:=aQo h h'
 rwa [show x-y+(y-z)=x-z by (refine Q23.ext' (Q2.ext' ?_ ?_) (Q2.ext' ?_ ?_) <;> (simp only [Q23.add_re,Q23.add_im,Q23.sub_re,Q23.sub_im,Q2.add_re,Q2.add_im,Q2.sub_re,Q2.sub_im];grind))]at this
theorem uC (u v:Q2):cQ (B.sg u) (B.sg v) (B.sg (u*u-3*(v*v)))=sg ⟨u,v⟩:=by
 have P:B.pos (u*u-3*(v*v))→B.pos u→sg (⟨u,v⟩:Q23)=1:=fun h1 h2=>eS (.inl ⟨h1,h2⟩);have Q:B.pos (-(u*u-3*(v*v)))→B.pos v→sg (⟨u,v⟩:Q23)=1:=fun h1 h2=>eS (.inr ⟨h1,h2⟩);have P':B.pos (u*u-3*(v*v))→B.pos (-u)→sg (⟨u,v⟩:Q23)=-1:=fun h1 h2=>fS (.inl ⟨by rw [rX];exact h1,h2⟩);have Q':B.pos (-(u*u-3*(v*v)))→B.pos (-v)→sg (⟨u,v⟩:Q23)=-1:=fun h1 h2=>fS (.inr ⟨by rw [rX];exact h1,h2⟩);have Z:u*u-3*(v*v)=0→u=0∧v=0:=fun h=>by
  have:=jA (x:=(⟨u,v⟩:Q23)) h;exact⟨congrArg Q23.re this,congrArg Q23.im this⟩
 rcases B.aS u with ⟨h,h1⟩|⟨h,h1⟩|⟨h,h1⟩ <;> rcases B.aS v with ⟨g,g1⟩|⟨g,g1⟩|⟨g,g1⟩ <;> rw [h,g]
 ·subst h1 g1;exact sg_zero.symm
 ·rw [Q (by rw [h1,show -((0:Q2)*0-3*(v*v))=3*(v*v) by (refine Q2.ext' ?_ ?_ <;> (simp only [Q2.mul_re,Q2.mul_im,Q2.neg_re,Q2.neg_im,Q2.sub_re,Q2.sub_im,Q2.zero_re,Q2.zero_im,Q2.three_re,Q2.three_im];grind))];exact B.mul hD (B.mul g1 g1)) g1];rfl
 ·rw [Q' (by rw [h1,show -((0:Q2)*0-3*(v*v))=3*(-v*-v) by (refine Q2.ext' ?_ ?_ <;> (simp only [Q2.mul_re,Q2.mul_im,Q2.neg_re,Q2.neg_im,Q2.sub_re,Q2.sub_im,Q2.zero_re,Q2.zero_im,Q2.three_re,Q2.three_im];grind))];exact B.mul hD (B.mul g1 g1)) g1];rfl
 ·rw [P (by rw [g1,show u*u-3*((0:Q2)*0)=u*u by (refine Q2.ext' ?_ ?_ <;> (simp only [Q2.mul_re,Q2.mul_im,Q2.sub_re,Q2.sub_im,Q2.zero_re,Q2.zero_im,Q2.three_re,Q2.three_im];grind))];exact B.mul h1 h1) h1];rfl
 ·rcases B.aS (u*u-3*(v*v)) with ⟨_,k⟩|⟨_,k⟩|⟨_,k⟩
  ·exact absurd (Z k).1 (B.nA h1)
  ·rw [P k h1];rfl
  ·rw [Q k g1];rfl
 ·rcases B.aS (u*u-3*(v*v)) with ⟨_,k⟩|⟨e,k⟩|⟨e,k⟩
  ·exact absurd (Z k).1 (B.nA h1)
  ·rw [P k h1,e];rfl
  ·rw [Q' k g1,e];rfl
 ·rw [P' (by rw [g1,show u*u-3*((0:Q2)*0)=-u*-u by (refine Q2.ext' ?_ ?_ <;> (simp only [Q2.mul_re,Q2.mul_im,Q2.neg_re,Q2.neg_im,Q2.sub_re,Q2.sub_im,Q2.zero_re,Q2.zero_im,Q2.three_re,Q2.three_im];grind))];exact B.mul h1 h1) h1];rfl
 ·rcases B.aS (u*u-3*(v*v)) with ⟨_,k⟩|⟨e,k⟩|⟨e,k⟩
  ·exact absurd (Z k).2 (B.nA g1)
  ·rw [P' k h1,e];rfl
  ·rw [Q k g1,e];rfl
 ·rcases B.aS (u*u-3*(v*v)) with ⟨_,k⟩|⟨e,k⟩|⟨e,k⟩
  ·exfalso;have:=(Z k).1;rw [this,show -(0:Q2)=0 by (refine Q2.ext' ?_ ?_ <;> (simp only [Q2.neg_re,Q2.neg_im,Q2.zero_re,Q2.zero_im];grind))]at h1;exact B.zero h1
  ·rw [P' k h1];rfl
  ·rw [Q' k g1];rfl
end C
theorem aJb (a b c:Q23):a*b*c=a*(b*c):=by (refine Q23.ext' (Q2.ext' ?_ ?_) (Q2.ext' ?_ ?_) <;> (simp only [Q23.mul_re,Q23.mul_im,Q2.add_re,Q2.add_im,Q2.mul_re,Q2.mul_im,Q2.three_re,Q2.three_im];grind))
theorem aOb (a b:Q23):a*b=b*a:=by (refine Q23.ext' (Q2.ext' ?_ ?_) (Q2.ext' ?_ ?_) <;> (simp only [Q23.mul_re,Q23.mul_im,Q2.add_re,Q2.add_im,Q2.mul_re,Q2.mul_im,Q2.three_re,Q2.three_im];grind))
instance:Std.Associative (α:=Q23) (·*·):=⟨aJb⟩
instance:Std.Commutative (α:=Q23) (·*·):=⟨aOb⟩
def e4 (a b c d:Rat):Q23:=⟨⟨a,b⟩,⟨c,d⟩⟩
theorem aLv (a b c d a' b' c' d':Rat):e4 a b c d*e4 a' b' c' d'=e4 (a*a'+2*(b*b')+3*(c*c')+6*(d*d')) (a*b'+b*a'+3*(c*d'+d*c')) (a*c'+c*a'+2*(b*d'+d*b')) (a*d'+d*a'+b*c'+c*b'):=by
 refine Q23.ext' (Q2.ext' ?_ ?_) (Q2.ext' ?_ ?_)
 ·show a*a'+2*(b*b')+(3*(c*c'+2*(d*d'))+2*(0*(c*d'+d*c')))=_;show _=a*a'+2*(b*b')+3*(c*c')+6*(d*d')
  grind
 ·show a*b'+b*a'+(3*(c*d'+d*c')+0*(c*c'+2*(d*d')))=a*b'+b*a'+3*(c*d'+d*c')
  grind
 ·show a*c'+2*(b*d')+(c*a'+2*(d*b'))=a*c'+c*a'+2*(b*d'+d*b')
  grind
 ·show a*d'+b*c'+(c*b'+d*a')=a*d'+d*a'+b*c'+c*b'
  grind
theorem aYq {a b c d a' b' c' d':Rat}(h:e4 a b c d=e4 a' b' c' d'):a=a'∧b=b'∧c=c'∧d=d':=
 ⟨congrArg (·.re.re) h,congrArg (·.re.im) h,congrArg (·.im.re) h,congrArg (·.im.im) h⟩
theorem aQm (a b:Rat):cQ (A.sg a) (A.sg b) (A.sg (a*a-2*(b*b)))=B.sg (⟨a,b⟩:Q2):=B.uC a b
theorem xX (u v:Q2):cQ (B.sg u) (B.sg v) (B.sg (u*u-3*(v*v)))=C.sg (⟨u,v⟩:Q23):=C.uC u v
end Go.Proofs.YtmifbgccpdmjpaaGreat.Plain

namespace Go.Proofs.YtmifbgccpdmjpaaGreat
open Go.RowKit Num Plain
open Sy (Up Sees CallsG Seg)
theorem aQj (x:Int):A.sg ((x:Int):Rat)=x.sign:=by rw [tU,Rat.num_intCast]
theorem tV (x:Int):x.sign=0∨x.sign=1∨x.sign=-1:=by
 rcases Int.lt_trichotomy x 0 with h|h|h
 ·exact .inr (.inr (vr h))
 ·subst h;exact .inl rfl
 ·exact .inr (.inl (vj h))
def Q4.toQ (v:Q4):Q23:=e4 v.a v.b v.c v.d
theorem oM (x y:Q4):(x.add y).toQ=x.toQ+y.toQ:=rfl
theorem aWj (x:Q4):x.neg.toQ=-x.toQ:=rfl
theorem eO (x y:Q4):(x.mul y).toQ=x.toQ*y.toQ:=(aLv _ _ _ _ _ _ _ _).symm
theorem lX (x y:Q4):(x.sub y).toQ=x.toQ-y.toQ:=by
 have:(x.sub y).toQ=x.toQ+-y.toQ:=rfl;rw [this];generalize x.toQ=a;generalize y.toQ=b
 (refine Q23.ext' (Q2.ext' ?_ ?_) (Q2.ext' ?_ ?_) <;> (simp only [Q23.add_re,Q23.add_im,Q23.neg_re,Q23.neg_im,Q23.sub_re,Q23.sub_im,Q2.add_re,Q2.add_im,Q2.neg_re,Q2.neg_im,Q2.sub_re,Q2.sub_im];grind))
theorem toQ_zero:Q4.zero.toQ=0:=rfl
theorem lW {x y:Q4}(h:x.toQ=y.toQ):x=y:=by
 obtain⟨h1,h2,h3,h4⟩:=aYq h;exact Q4.ext' h1 h2 h3 h4
theorem bAa (x0 x1 x2 x3:Int) {m:Nat}(hm:0<m):C.sg (e4 x0 x1 x2 x3)=C.sg (mkQ x0 x1 x2 x3 m).toQ:=by
 have e:(mkQ x0 x1 x2 x3 m).toQ*e4 (m:Rat) 0 0 0=e4 x0 x1 x2 x3:=by
  have h0:=sY hm;have hd:∀x:Int,mkRat x m*(m:Rat)=x:=fun x=>by rw [wm];exact Rat.div_mul_cancel h0
  show e4 _ _ _ _*_=_;rw [aLv];unfold e4;refine Q23.ext' (Q2.ext' ?_ ?_) (Q2.ext' ?_ ?_)
  ·show mkRat x0 m*m+2*(mkRat x1 m*0)+3*(mkRat x2 m*0)+6*(mkRat x3 m*0)=x0;rw [hd];grind
  ·show mkRat x0 m*0+mkRat x1 m*m+3*(mkRat x2 m*0+mkRat x3 m*0)=x1;rw [hd];grind
  ·show mkRat x0 m*0+mkRat x2 m*m+2*(mkRat x1 m*0+mkRat x3 m*0)=x2;rw [hd];grind
  ·show mkRat x0 m*0+mkRat x3 m*m+mkRat x1 m*0+mkRat x2 m*0=x3;rw [hd];grind
 have hp:(0:Rat)<(m:Rat):=by
  have:(0:Rat)≤(m:Rat):=Rat.natCast_nonneg;have:=sY hm
  grind
 have hsq:(0:Rat)<(m:Rat)*(m:Rat):=Rat.mul_pos hp hp;have p:C.pos (e4 (m:Rat) 0 0 0):=by
  have p2:B.pos (⟨(m:Rat),0⟩:Q2):=.inl ⟨by show (0:Rat)<m*m-2*(0*0);grind,hp⟩;refine .inl ⟨?_,p2⟩;have:C.NN (e4 (m:Rat) 0 0 0)=(⟨(m:Rat),0⟩:Q2)*⟨(m:Rat),0⟩:=by
   show (⟨(m:Rat),0⟩:Q2)*⟨(m:Rat),0⟩-3*((0:Q2)*(0:Q2))=_
   (refine Q2.ext' ?_ ?_ <;> (simp only [Q2.mul_re,Q2.mul_im,Q2.sub_re,Q2.sub_im,Q2.zero_re,Q2.zero_im,Q2.three_re,Q2.three_im];grind))
  rw [this];exact B.mul p2 p2
 rw [←e,C.xW,C.eS p];omega
section
variable {k:World}{R:World→Value→Prop}{K L:Nat}{cs cs':Array Value}{v v':Q4}
def Box1 (k:World) (p:Nat) (x:Int) (K:Nat):Prop:=∃c:Array Value,Sy.Blk k p 33 (c.toList++([])).toArray∧IntV k c x K
theorem Box1.up {k k':World}{p:Nat}{x:Int}(h:Box1 k p x K) (u:Up k k'):Box1 k' p x K:=by
 obtain⟨c,hb,h⟩:=h;exact⟨c,Up.blk u hb,h.up u⟩
theorem bCd {p p':Nat}{x y:Int}(hx:Box1 k p x K) (hy:Box1 k p' y K) (hK:K≤268435456) (C:∀k',Up k k'→R k' (.int .i64 (x*x+-(y*y*(2:Nat))).sign)) :
 Cl k 364 #[.pointer (some ⟨p,0,none⟩),.pointer (some ⟨p',0,none⟩)] R:=by
 intro k0 u0;replace hx:=hx.up u0;replace hy:=hy.up u0;replace C:=fun k'  u=>C k'  (u0.trans u);obtain⟨c0,hb,i0⟩:=hx;obtain⟨d0,hb',j0⟩:=hy;refine bAd i0.seg j0.seg hb hb' ?_;refine bG i0 i0 oq oq ?_;intro k1 cA u1 a;refine⟨cA,a.seg,rfl,?_⟩;replace j0:=j0.up u1;replace C:=fun k'  u=>C k'  (u1.trans u);refine bG j0 j0 oq oq ?_;intro k2 cB u2 b;refine⟨cB,b.seg,rfl,?_⟩;replace a:=a.up u2;replace C:=fun k'  u=>C k'  (u2.trans u);refine gS (m:=2) b oq oq ?_;intro k3 cD u3 d;refine⟨cD,d.seg,rfl,?_⟩;replace a:=a.up u3;replace C:=fun k'  u=>C k'  (u3.trans u);refine gU d oq ?_;intro k4 cE u4 e;refine⟨cE,e.seg,rfl,?_⟩;replace a:=a.up u4;replace C:=fun k'  u=>C k'  (u4.trans u);refine cG a e (M:=K+K+1) oq oq oq ?_;intro k5 cF u5 f;refine⟨cF,f.seg,rfl,?_⟩;replace C:=fun k'  u=>C k'  (u5.trans u);refine sign_s f oq ?_;intro k6  u6;refine⟨_,rfl,?_⟩;replace C:=fun k'  u=>C k'  (u6.trans u);intro k7 u7;exact C _ u7
theorem aRq {p p':Nat}{x y s t:Int}(hx:Box1 k p x K) (hy:Box1 k p' y K) (hK:K≤268435456) (hs:s=0∨s=1∨s=-1) (C:∀k',Up k k'→R k' (.int .i64 (cQ s t (x*x+-(y*y*(2:Nat))).sign))) :
 Cl k 289 #[.int .i64 s,.int .i64 t,.func (.func 364) #[] #[.pointer (some ⟨p,0,none⟩),.pointer (some ⟨p',0,none⟩)]] R:=by
 intro k0 u0;refine aKu ⟨fun hb=>?_,fun hb=>⟨fun hc=>?_,fun hc=>⟨fun hd=>?_,fun hd=>?_⟩⟩⟩
 ·intro k1 u1;have e:s=t:=by simpa using hb
  have:=C k1 (u0.trans u1);unfold cQ at this
  rwa [od e]at this
 ·intro k1 u1;have e:¬ s=t:=by simpa using hb
  have e1:t=0:=by simpa using hc
  have:=C k1 (u0.trans u1);unfold cQ at this
  rwa [oh e,od e1]at this
 ·intro k1 u1;have e:¬ s=t:=by simpa using hb
  have e1:¬ t=0:=by simpa using hc
  have e2:s=0:=by simpa using hd
  have:=C k1 (u0.trans u1);unfold cQ at this
  rwa [oh e,oh e1,od e2]at this
 ·have e:¬ s=t:=by simpa using hb
  have e1:¬ t=0:=by simpa using hc
  have e2:¬ s=0:=by simpa using hd
  refine bCd (hx.up u0) (hy.up u0) hK ?_;intro k1 u1;refine⟨_,rfl,?_⟩;intro k2 u2;have:=C k2 (u0.trans (u1.trans u2));unfold cQ at this;rw [oh e,oh e1,oh e2]at this;rw [wJ hs (tV _)];exact this
theorem yA {x y:Int}(i0:IntV k cs x K) (j0:IntV k cs' y K) (hK:K≤268435456) (C:∀k',Up k k'→R k' (.int .i64 (B.sg (⟨(x:Rat),(y:Rat)⟩:Q2)))) :
 Cl k 290 #[.agg cs,.agg cs'] R:=by
 intro k0 u0;replace i0:=i0.up u0;replace j0:=j0.up u0;replace C:=fun k'  u=>C k'  (u0.trans u);refine aQs i0.seg j0.seg ?_;intro p kA uA hA;replace C:=fun k' u=>C k' (uA.trans u);have bx:Box1 kA p x K:=⟨cs,hA,i0.up uA⟩;intro p' kB uB hB;replace C:=fun k' u=>C k' (uB.trans u);replace uA:=uA.trans uB;have bz:Box1 kB p' y K:=⟨cs',hB,j0.up uA⟩;replace bx:=bx.up uB;replace i0:=i0.up uA;replace j0:=j0.up uA;clear hA hB;refine sign_s i0 oq ?_;intro k1  u1;refine⟨_,rfl,?_⟩;replace j0:=j0.up u1;replace bx:=bx.up u1;replace bz:=bz.up u1;replace C:=fun k'  u=>C k'  (u1.trans u);refine sign_s j0 oq ?_;intro k2  u2;refine⟨_,rfl,?_⟩;replace bx:=bx.up u2;replace bz:=bz.up u2;replace C:=fun k'  u=>C k'  (u2.trans u);refine aRq bx bz hK (tV _) ?_;intro k3  u3;refine⟨_,rfl,?_⟩;replace C:=fun k'  u=>C k'  (u3.trans u);intro k4 u4;have e:cQ x.sign y.sign (x*x+-(y*y*(2:Nat))).sign=B.sg (⟨(x:Rat),(y:Rat)⟩:Q2):=by
  rw [←aQm,aQj,aQj]
  congr 1
  rw [←aQj]
  congr 1
  rw [Rat.intCast_add,ke,xr,xr,xr];show (x:Rat)*x+-((y:Rat)*y*2)=x*x-2*(y*y)
  grind
 rw [e];exact C _ u4
theorem bCe {pa pb pc pd:Nat}{a b c d:Int}(ha:Box1 k pa a K) (hb:Box1 k pb b K) (hc:Box1 k pc c K) (hd:Box1 k pd d K) (hK:K≤67108864) (C:∀k',Up k k'→R k' (.int .i64 (B.sg (⟨(((a*a+b*b*(2:Nat)+-((c*c+d*d*(2:Nat))*(3:Nat))):Int):Rat),((((a*b+-(c*d*(3:Nat)))*(2:Nat)):Int):Rat)⟩:Q2)))) :
 Cl k 291 #[.pointer (some ⟨pa,0,none⟩),.pointer (some ⟨pb,0,none⟩),.pointer (some ⟨pc,0,none⟩),.pointer (some ⟨pd,0,none⟩)] R:=by
 intro k0 u0;replace ha:=ha.up u0;replace hb:=hb.up u0;replace hc:=hc.up u0;replace hd:=hd.up u0;replace C:=fun k'  u=>C k'  (u0.trans u);obtain⟨ca,ba,ia⟩:=ha;obtain⟨cb,bb,ib⟩:=hb;obtain⟨cc,bc,ic⟩:=hc;obtain⟨cd,bd,id⟩:=hd;refine bAe ia.seg ib.seg ic.seg id.seg ba bb bc bd ?_;refine bG ia ia oq oq ?_;intro k1 ea1 u1 a1;refine⟨ea1,a1.seg,rfl,?_⟩;replace ia:=ia.up u1;replace ib:=ib.up u1;replace ic:=ic.up u1;replace id:=id.up u1;replace C:=fun k'  u=>C k'  (u1.trans u);refine bG ib ib oq oq ?_;intro k2 ea2 u2 a2;refine⟨ea2,a2.seg,rfl,?_⟩;replace ia:=ia.up u2;replace ib:=ib.up u2;replace ic:=ic.up u2;replace id:=id.up u2;replace a1:=a1.up u2;replace C:=fun k'  u=>C k'  (u2.trans u);refine gS (m:=2) a2 oq oq ?_;intro k3 ea3 u3 a3;refine⟨ea3,a3.seg,rfl,?_⟩;replace ia:=ia.up u3;replace ib:=ib.up u3;replace ic:=ic.up u3;replace id:=id.up u3;replace a1:=a1.up u3;replace C:=fun k'  u=>C k'  (u3.trans u);refine cG a1 a3 (M:=K+K+1) oq oq oq ?_;intro k4 ea4 u4 a4;refine⟨ea4,a4.seg,rfl,?_⟩;replace ia:=ia.up u4;replace ib:=ib.up u4;replace ic:=ic.up u4;replace id:=id.up u4;replace C:=fun k'  u=>C k'  (u4.trans u);refine bG ic ic oq oq ?_;intro k5 ea5 u5 a5;refine⟨ea5,a5.seg,rfl,?_⟩;replace ia:=ia.up u5;replace ib:=ib.up u5;replace ic:=ic.up u5;replace id:=id.up u5;replace a4:=a4.up u5;replace C:=fun k'  u=>C k'  (u5.trans u);refine bG id id oq oq ?_;intro k6 ea6 u6 a6;refine⟨ea6,a6.seg,rfl,?_⟩;replace ia:=ia.up u6;replace ib:=ib.up u6;replace ic:=ic.up u6;replace id:=id.up u6;replace a4:=a4.up u6;replace a5:=a5.up u6;replace C:=fun k'  u=>C k'  (u6.trans u);refine gS (m:=2) a6 oq oq ?_;intro k7 ea7 u7 a7;refine⟨ea7,a7.seg,rfl,?_⟩;replace ia:=ia.up u7;replace ib:=ib.up u7;replace ic:=ic.up u7;replace id:=id.up u7;replace a4:=a4.up u7;replace a5:=a5.up u7;replace C:=fun k'  u=>C k'  (u7.trans u);refine cG a5 a7 (M:=K+K+1) oq oq oq ?_;intro k8 ea8 u8 a8;refine⟨ea8,a8.seg,rfl,?_⟩;replace ia:=ia.up u8;replace ib:=ib.up u8;replace ic:=ic.up u8;replace id:=id.up u8;replace a4:=a4.up u8;replace C:=fun k'  u=>C k'  (u8.trans u);refine gS (m:=3) a8 oq oq ?_;intro k9 ea9 u9 a9;refine⟨ea9,a9.seg,rfl,?_⟩;replace ia:=ia.up u9;replace ib:=ib.up u9;replace ic:=ic.up u9;replace id:=id.up u9;replace a4:=a4.up u9;replace C:=fun k'  u=>C k'  (u9.trans u);refine gU a9 oq ?_;intro k10 ea10 u10 a10;refine⟨ea10,a10.seg,rfl,?_⟩;replace ia:=ia.up u10;replace ib:=ib.up u10;replace ic:=ic.up u10;replace id:=id.up u10;replace a4:=a4.up u10;replace C:=fun k'  u=>C k'  (u10.trans u);refine cG a4 a10 (M:=K+K+3) oq oq oq ?_;intro k11 ea11 u11 a11;refine⟨ea11,a11.seg,rfl,?_⟩;replace ia:=ia.up u11;replace ib:=ib.up u11;replace ic:=ic.up u11;replace id:=id.up u11;replace C:=fun k'  u=>C k'  (u11.trans u);refine bG ia ib oq oq ?_
 intro k12 ea12 u12 a12;refine⟨ea12,a12.seg,rfl,?_⟩;replace ic:=ic.up u12;replace id:=id.up u12;replace a11:=a11.up u12;replace C:=fun k'  u=>C k'  (u12.trans u);refine bG ic id oq oq ?_;intro k13 ea13 u13 a13;refine⟨ea13,a13.seg,rfl,?_⟩;replace a11:=a11.up u13;replace a12:=a12.up u13;replace C:=fun k'  u=>C k'  (u13.trans u);refine gS (m:=3) a13 oq oq ?_;intro k14 ea14 u14 a14;refine⟨ea14,a14.seg,rfl,?_⟩;replace a11:=a11.up u14;replace a12:=a12.up u14;replace C:=fun k'  u=>C k'  (u14.trans u);refine gU a14 oq ?_;intro k15 ea15 u15 a15;refine⟨ea15,a15.seg,rfl,?_⟩;replace a11:=a11.up u15;replace a12:=a12.up u15;replace C:=fun k'  u=>C k'  (u15.trans u);refine cG a12 a15 (M:=K+K+1) oq oq oq ?_;intro k16 ea16 u16 a16;refine⟨ea16,a16.seg,rfl,?_⟩;replace a11:=a11.up u16;replace C:=fun k'  u=>C k'  (u16.trans u);refine gS (m:=2) a16 oq oq ?_;intro k17 ea17 u17 a17;refine⟨ea17,a17.seg,rfl,?_⟩;replace a11:=a11.up u17;replace C:=fun k'  u=>C k'  (u17.trans u);refine yA (a11.mono (show _≤K+K+4 by omega)) (a17.mono (show _≤K+K+4 by omega)) oq ?_;intro k18  u18;refine⟨_,rfl,?_⟩;replace C:=fun k'  u=>C k'  (u18.trans u);intro k19 u19;exact C _ u19
theorem aRr {pa pb pc pd:Nat}{a b c d s t:Int}(ha:Box1 k pa a K) (hb':Box1 k pb b K) (hc':Box1 k pc c K) (hd':Box1 k pd d K) (hK:K≤67108864) (hs:s=0∨s=1∨s=-1) (C:∀k',Up k k'→R k' (.int .i64 (cQ s t (B.sg (⟨(((a*a+b*b*(2:Nat)+-((c*c+d*d*(2:Nat))*(3:Nat))):Int):Rat),((((a*b+-(c*d*(3:Nat)))*(2:Nat)):Int):Rat)⟩:Q2))))) :
 Cl k 289 #[.int .i64 s,.int .i64 t,.func (.func 291) #[] #[.pointer (some ⟨pa,0,none⟩),.pointer (some ⟨pb,0,none⟩),.pointer (some ⟨pc,0,none⟩),.pointer (some ⟨pd,0,none⟩)]] R:=by
 intro k0 u0;refine aKv ⟨fun hb=>?_,fun hb=>⟨fun hc=>?_,fun hc=>⟨fun hd=>?_,fun hd=>?_⟩⟩⟩
 ·intro k1 u1;have e:s=t:=by simpa using hb
  have:=C k1 (u0.trans u1);unfold cQ at this
  rwa [od e]at this
 ·intro k1 u1;have e:¬ s=t:=by simpa using hb
  have e1:t=0:=by simpa using hc
  have:=C k1 (u0.trans u1);unfold cQ at this
  rwa [oh e,od e1]at this
 ·intro k1 u1;have e:¬ s=t:=by simpa using hb
  have e1:¬ t=0:=by simpa using hc
  have e2:s=0:=by simpa using hd
  have:=C k1 (u0.trans u1);unfold cQ at this
  rwa [oh e,oh e1,od e2]at this
 ·have e:¬ s=t:=by simpa using hb
  have e1:¬ t=0:=by simpa using hc
  have e2:¬ s=0:=by simpa using hd
  refine bCe (ha.up u0) (hb'.up u0) (hc'.up u0) (hd'.up u0) hK ?_;intro k1 u1;refine⟨_,rfl,?_⟩;intro k2 u2;have:=C k2 (u0.trans (u1.trans u2));unfold cQ at this;rw [oh e,oh e1,oh e2]at this;rw [wJ hs (B.lB _)];exact this
theorem aQn (a b c d:Int):cQ (B.sg (⟨(a:Rat),(b:Rat)⟩:Q2)) (B.sg (⟨(c:Rat),(d:Rat)⟩:Q2)) (B.sg (⟨(((a*a+b*b*(2:Nat)+-((c*c+d*d*(2:Nat))*(3:Nat))):Int):Rat),((((a*b+-(c*d*(3:Nat)))*(2:Nat)):Int):Rat)⟩:Q2))=C.sg (e4 a b c d):=by
 unfold e4;rw [←xX]
 congr 2
 refine Q2.ext' ?_ ?_
 ·simp only [Rat.intCast_add,ke,xr];show (a:Rat)*a+b*b*2+-((c*c+d*d*2)*3)=(a*a+2*(b*b))-(3*(c*c+2*(d*d))+2*(0*(c*d+d*c)))
  grind
 ·simp only [Rat.intCast_add,ke,xr];show ((a:Rat)*b+-(c*d*3))*2=(a*b+b*a)-(3*(c*d+d*c)+0*(c*c+2*(d*d)))
  grind
theorem aSq (hx:SurdV k cs v K) (hK:K≤67108864) (C:∀k',Up k k'→R k' (.int .i64 (C.sg v.toQ))) :
 Cl k 181 #[.agg cs] R:=by
 obtain⟨c0,c1,c2,c3,D,d,e,x0,x1,x2,x3,m,rfl,hm,hg,rfl,i0,i1,i2,i3,lx,hd⟩:=hx;intro k0 u0;replace i0:=i0.up u0;replace i1:=i1.up u0;replace i2:=i2.up u0;replace i3:=i3.up u0;replace C:=fun k'  u=>C k'  (u0.trans u);refine aLc i0.seg i1.seg i2.seg i3.seg ?_;intro pA kA uA hA;replace C:=fun k' u=>C k' (uA.trans u);replace i0:=i0.up uA;replace i1:=i1.up uA;replace i2:=i2.up uA;replace i3:=i3.up uA;have bA:Box1 kA pA x0 K:=⟨_,hA,i0⟩;intro pB kB uB hB;replace C:=fun k' u=>C k' (uB.trans u);replace i0:=i0.up uB;replace i1:=i1.up uB;replace i2:=i2.up uB;replace i3:=i3.up uB;replace bA:=bA.up uB;have bB:Box1 kB pB x1 K:=⟨_,hB,i1⟩;intro pD kD uD hD;replace C:=fun k' u=>C k' (uD.trans u);replace i0:=i0.up uD;replace i1:=i1.up uD;replace i2:=i2.up uD;replace i3:=i3.up uD;replace bA:=bA.up uD;replace bB:=bB.up uD;have bD:Box1 kD pD x2 K:=⟨_,hD,i2⟩;intro pE kE uE hE;replace C:=fun k' u=>C k' (uE.trans u);replace i0:=i0.up uE;replace i1:=i1.up uE;replace i2:=i2.up uE;replace i3:=i3.up uE;replace bA:=bA.up uE;replace bB:=bB.up uE;replace bD:=bD.up uE;have bE:Box1 kE pE x3 K:=⟨_,hE,i3⟩;refine yA i0 i1 oq ?_;intro k1  u1;refine⟨_,rfl,?_⟩;replace i2:=i2.up u1;replace i3:=i3.up u1;replace bA:=bA.up u1;replace bB:=bB.up u1;replace bD:=bD.up u1;replace bE:=bE.up u1;replace C:=fun k'  u=>C k'  (u1.trans u);refine yA i2 i3 oq ?_;intro k2  u2;refine⟨_,rfl,?_⟩;replace bA:=bA.up u2;replace bB:=bB.up u2;replace bD:=bD.up u2;replace bE:=bE.up u2;replace C:=fun k'  u=>C k'  (u2.trans u);refine aRr bA bB bD bE hK (B.lB _) ?_;intro k3  u3;refine⟨_,rfl,?_⟩;replace C:=fun k'  u=>C k'  (u3.trans u);intro k4 u4;rw [aQn,bAa x0 x1 x2 x3 hm];exact C _ u4
theorem aLb (hx:SurdV k cs v K) (hy:SurdV k cs' v' K) (hK1:1≤K) (hK:K≤33554431) (C:∀k',Up k k'→R k' (.int .i64 (C.sg (v.sub v').toQ))) :
 Cl k 73 #[.agg cs,.agg cs'] R:=by
 intro k0 u0;replace hx:=hx.up u0;replace hy:=hy.up u0;replace C:=fun k'  u=>C k'  (u0.trans u);refine aSn hx.seg hy.seg ?_;refine rY hx hy hK1 oq ?_;intro k1 cA u1 a;refine⟨cA,a.seg,rfl,?_⟩;replace C:=fun k'  u=>C k'  (u1.trans u);refine aSq a oq ?_;intro k2  u2;refine⟨_,rfl,?_⟩;replace C:=fun k'  u=>C k'  (u2.trans u);intro k3 u3;exact C _ u3
end
open Value (agg slice int bool tuple)
open Sy (Up Sees CallsG Seg execFn_use)
set_option maxRecDepth 100000
variable {k:World}{R:World→Value→Prop}
end Go.Proofs.YtmifbgccpdmjpaaGreat

namespace Go.Proofs.YtmifbgccpdmjpaaGreat
open Go.RowKit Num Plain
open Sy (Up Sees CallsG Seg)
def em (r:Rat):Q23:=e4 r 0 0 0
theorem aFb {y:Q4}:y.toQ≠0↔y≠Q4.zero:=by
 constructor
 ·intro h e;exact h (by rw [e];rfl)
 ·intro h e;exact h (lW (e.trans toQ_zero.symm))
section
variable {k:World}{R:World→Value→Prop}{K L:Nat}{cs cs':Array Value}{v v':Q4}
theorem SurdV.nil (hK:0≤K):SurdV k #[.bool false,.slice none 0 0,.bool false,.slice none 0 0,.bool false,.slice none 0 0,.bool false,.slice none 0 0,.slice none 0 0] Q4.zero K:=
 ⟨_,_,_,_,none,0,0,0,0,0,0,1,rfl,oq,oz,by unfold mkQ Q4.zero;simp,IntV.nil,IntV.nil,IntV.nil,IntV.nil,LimR.nil,hK⟩
end
