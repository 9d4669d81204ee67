/- Several texts in one. (Printed by prep.py.) -/
import Derived.Test.YtifcjpacobpdmaaGreatRpOY
namespace Go.Proofs.YtifcjpacobpdmaaGreat
open Num Plain
def nn (x:Q4):Prop:=0≤C.sg x.toQ
theorem dU {x y:Q4}(hx:nn x) (hy:nn y):nn (x.add y):=by
 unfold nn at *
 rw [rZ];rcases C.aX x.toQ with ⟨e,h⟩|⟨e,h⟩|⟨e,h⟩
 ·rw [h,show (0:Q23)+y.toQ=y.toQ by generalize y.toQ=q;refine Q23.ext' (Q2.ext' ?_ ?_) (Q2.ext' ?_ ?_) <;> (simp only [Q23.add_re,Q23.add_im,Q23.zero_re,Q23.zero_im,Q2.add_re,Q2.add_im,Q2.zero_re,Q2.zero_im];grind)];exact hy
 ·rcases C.aX y.toQ with ⟨e',h'⟩|⟨e',h'⟩|⟨e',h'⟩
  ·rw [h',show x.toQ+(0:Q23)=x.toQ by generalize x.toQ=q;refine Q23.ext' (Q2.ext' ?_ ?_) (Q2.ext' ?_ ?_) <;> (simp only [Q23.add_re,Q23.add_im,Q23.zero_re,Q23.zero_im,Q2.add_re,Q2.add_im,Q2.zero_re,Q2.zero_im];grind)];exact hx
  ·rw [C.fO (C.add h h')];decide
  ·omega
 ·omega
theorem aEl {x y:Q4}(hx:C.sg x.toQ=1) (hy:nn y):C.sg (x.add y).toQ=1:=by
 unfold nn at hy;rw [rZ];rcases C.aX x.toQ with ⟨e,h⟩|⟨e,h⟩|⟨e,h⟩
 ·omega
 ·rcases C.aX y.toQ with ⟨e',h'⟩|⟨e',h'⟩|⟨e',h'⟩
  ·rw [h',show x.toQ+(0:Q23)=x.toQ by generalize x.toQ=q;refine Q23.ext' (Q2.ext' ?_ ?_) (Q2.ext' ?_ ?_) <;> (simp only [Q23.add_re,Q23.add_im,Q23.zero_re,Q23.zero_im,Q2.add_re,Q2.add_im,Q2.zero_re,Q2.zero_im];grind)];exact hx
  ·exact C.fO (C.add h h')
  ·omega
 ·omega
theorem bAh {s t:Int}(hs:s=0∨s=1∨s=-1) (ht:t=0∨t=1∨t=-1) (h:0≤s) (h':0≤t):0≤s*t:=by
 rcases hs with rfl|rfl|rfl <;> rcases ht with rfl|rfl|rfl <;> simp_all
theorem kQ {x y:Q4}(hx:nn x) (hy:nn y):nn (x.mul y):=by
 unfold nn at *
 rw [gH,C.yN];exact bAh (C.aBy _) (C.aBy _) hx hy
theorem lM {x y:Q4}(h:nn (x.mul y)) (hy:C.sg y.toQ=1):nn x:=by
 unfold nn at *
 rw [gH,C.yN,hy,Int.mul_one]at h;exact h
def sg2G (a b:Rat):Int:=iC a.num.sign b.num.sign (a*a-2*(b*b)).num.sign
theorem rW (a b:Rat):B.sg (⟨a,b⟩:Q2)=sg2G a b:=by rw [←bBz,aQy,aQy,aQy];rfl
def sgG (v:Q4):Int:=iC (sg2G v.a v.b) (sg2G v.c v.d) (sg2G (v.a*v.a+2*(v.b*v.b)-3*(v.c*v.c+2*(v.d*v.d))) (v.a*v.b+v.b*v.a-3*(v.c*v.d+v.d*v.c)))
theorem aFe (v:Q4):C.sg v.toQ=sgG v:=by
 unfold Q4.toQ e4;rw [←aQz,rW,rW];have e:(⟨v.a,v.b⟩:Q2)*⟨v.a,v.b⟩-3*((⟨v.c,v.d⟩:Q2)*⟨v.c,v.d⟩)=⟨v.a*v.a+2*(v.b*v.b)-3*(v.c*v.c+2*(v.d*v.d)),v.a*v.b+v.b*v.a-3*(v.c*v.d+v.d*v.c)⟩:=by
  refine Q2.ext' ?_ ?_ <;> simp only [Q2.sub_re,Q2.sub_im,Q2.mul_re,Q2.mul_im,Q2.three_re,Q2.three_im] <;> grind
 rw [e,rW];rfl
def w2:Q4:=⟨0,1,0,0⟩
def w3:Q4:=⟨0,0,1,0⟩
def w6:Q4:=⟨0,0,0,1⟩
theorem aFq:C.sg w2.toQ=1:=by rw [aFe];decide +kernel
theorem aFr:C.sg w3.toQ=1:=by rw [aFe];decide +kernel
theorem aFs:C.sg w6.toQ=1:=by rw [aFe];decide +kernel
theorem aRp:w2.mul w2=Q4.real 2:=by decide +kernel
theorem aRq:w3.mul w3=Q4.real 3:=by decide +kernel
theorem aRr:w6.mul w6=Q4.real 6:=by decide +kernel
theorem yG (q:Rat):C.sg (Q4.real q).toQ=q.num.sign:=by
 unfold Q4.real Q4.toQ e4;have h0:B.sg (⟨0,0⟩:Q2)=0:=B.sg_zero;rw [←aQz,h0,rW];show iC (sg2G q 0) 0 _=_;have h1:sg2G q 0=q.num.sign:=by
  unfold sg2G iC;rw [show (0:Rat).num.sign=0 from rfl];split <;> rename_i h
  ·rfl
  ·rw [og rfl]
 rw [h1];unfold iC;split <;> rename_i h
 ·rfl
 ·rw [og rfl]
theorem dD {q:Rat}(h:0≤q):nn (Q4.real q):=by
 unfold nn;rw [yG];have:=kj.2 h;rcases Int.lt_or_eq_of_le this with h|h
 ·rw [vu h];decide
 ·rw [←h];decide
theorem rV {q:Rat}(h:nn (Q4.real q)):0≤q:=by
 unfold nn at h;rw [yG]at h;exact kj.1 (Int.sign_nonneg_iff.1 h)
theorem oK {q:Rat}(h:0<q):C.sg (Q4.real q).toQ=1:=by
 rw [yG];exact vu (jN h)
theorem bCq (w:Q4) (r n:Rat) (h:w.mul w=Q4.real n):(w.sub (Q4.real r)).mul (w.add (Q4.real r))=Q4.real (n-r*r):=by
 have e:(w.sub (Q4.real r)).mul (w.add (Q4.real r))=(w.mul w).sub (Q4.real (r*r)):=by
  obtain⟨a,b,c,d⟩:=w;refine Q4.ext' ?_ ?_ ?_ ?_ <;> simp only [Q4.mul,Q4.sub,Q4.add,Q4.neg,Q4.real] <;> grind
 rw [e,h];refine Q4.ext' ?_ ?_ ?_ ?_ <;> simp only [Q4.sub,Q4.add,Q4.neg,Q4.real] <;> grind
theorem bCa (w:Q4) (r n:Rat) (h:w.mul w=Q4.real n):((Q4.real r).sub w).mul (w.add (Q4.real r))=Q4.real (r*r-n):=by
 have e:((Q4.real r).sub w).mul (w.add (Q4.real r))=(Q4.real (r*r)).sub (w.mul w):=by
  obtain⟨a,b,c,d⟩:=w;refine Q4.ext' ?_ ?_ ?_ ?_ <;> simp only [Q4.mul,Q4.sub,Q4.add,Q4.neg,Q4.real] <;> grind
 rw [e,h];refine Q4.ext' ?_ ?_ ?_ ?_ <;> simp only [Q4.sub,Q4.add,Q4.neg,Q4.real] <;> grind
section
variable {w x:Q4}{n r s p:Rat}
theorem aHd (hw:C.sg w.toQ=1) (hs:w.mul w=Q4.real n) (h0:0≤r) (h:r*r≤n):nn (w.sub (Q4.real r)):=by
 refine lM ?_ (aEl hw (dD h0));rw [bCq w r n hs];exact dD (by grind)
theorem yL (hw:C.sg w.toQ=1) (hs:w.mul w=Q4.real n) (h0:0≤s) (h:n≤s*s):nn ((Q4.real s).sub w):=by
 refine lM ?_ (aEl hw (dD h0));rw [bCa w s n hs];exact dD (by grind)
def loT (p r s:Rat):Rat:=if p<0 then p*s else p*r
def hiT (p r s:Rat):Rat:=if p<0 then p*r else p*s
def aCv (p:Rat):Rat:=if p<0 then -p else p
theorem aNs (p r e:Rat):hiT p r (r+e)-loT p r (r+e)=aCv p*e:=by unfold hiT loT aCv;split <;> grind
theorem bH {x y:Q4}(h:nn x) (e:x=y):nn y:=e▸h
theorem yT (h1:nn (w.sub (Q4.real r))) (h2:nn ((Q4.real s).sub w)):nn (((Q4.real p).mul w).sub (Q4.real (loT p r s))):=by
 unfold loT;split <;> rename_i hp
 ·refine bH (kQ (dD (q:=-p) (by grind)) h2) ?_;refine Q4.ext' ?_ ?_ ?_ ?_ <;> simp only [Q4.mul,Q4.sub,Q4.add,Q4.neg,Q4.real] <;> grind
 ·refine bH (kQ (dD (q:=p) (by grind)) h1) ?_;refine Q4.ext' ?_ ?_ ?_ ?_ <;> simp only [Q4.mul,Q4.sub,Q4.add,Q4.neg,Q4.real] <;> grind
theorem yS (h1:nn (w.sub (Q4.real r))) (h2:nn ((Q4.real s).sub w)):nn ((Q4.real (hiT p r s)).sub ((Q4.real p).mul w)):=by
 unfold hiT;split <;> rename_i hp
 ·refine bH (kQ (dD (q:=-p) (by grind)) h1) ?_;refine Q4.ext' ?_ ?_ ?_ ?_ <;> simp only [Q4.mul,Q4.sub,Q4.add,Q4.neg,Q4.real] <;> grind
 ·refine bH (kQ (dD (q:=p) (by grind)) h2) ?_;refine Q4.ext' ?_ ?_ ?_ ?_ <;> simp only [Q4.mul,Q4.sub,Q4.add,Q4.neg,Q4.real] <;> grind
structure Apx (w:Q4) (r s:Rat):Prop where
 lo:nn (w.sub (Q4.real r))
 hi:nn ((Q4.real s).sub w)
def loB (x:Q4) (r2 s2 r3 s3 r6 s6:Rat):Rat:=x.a+loT x.b r2 s2+loT x.c r3 s3+loT x.d r6 s6
def hiB (x:Q4) (r2 s2 r3 s3 r6 s6:Rat):Rat:=x.a+hiT x.b r2 s2+hiT x.c r3 s3+hiT x.d r6 s6
variable {r2 s2 r3 s3 r6 s6:Rat}
theorem aVp (x:Q4) (l m n:Rat):((((Q4.real x.b).mul w2).sub (Q4.real l)).add (((Q4.real x.c).mul w3).sub (Q4.real m))).add (((Q4.real x.d).mul w6).sub (Q4.real n))=x.sub (Q4.real (x.a+l+m+n)):=by
 refine Q4.ext' ?_ ?_ ?_ ?_ <;> simp only [Q4.mul,Q4.sub,Q4.add,Q4.neg,Q4.real,w2,w3,w6] <;> grind
theorem aPn (x:Q4) (l m n:Rat):(((Q4.real l).sub ((Q4.real x.b).mul w2)).add ((Q4.real m).sub ((Q4.real x.c).mul w3))).add ((Q4.real n).sub ((Q4.real x.d).mul w6))=(Q4.real (x.a+l+m+n)).sub x:=by
 refine Q4.ext' ?_ ?_ ?_ ?_ <;> simp only [Q4.mul,Q4.sub,Q4.add,Q4.neg,Q4.real,w2,w3,w6] <;> grind
theorem aIe (x:Q4) (h2:Apx w2 r2 s2) (h3:Apx w3 r3 s3) (h6:Apx w6 r6 s6):nn (x.sub (Q4.real (loB x r2 s2 r3 s3 r6 s6))):=
 bH (dU (dU (yT h2.lo h2.hi) (yT h3.lo h3.hi)) (yT h6.lo h6.hi)) (aVp x _ _ _)
theorem aId (x:Q4) (h2:Apx w2 r2 s2) (h3:Apx w3 r3 s3) (h6:Apx w6 r6 s6):nn ((Q4.real (hiB x r2 s2 r3 s3 r6 s6)).sub x):=
 bH (dU (dU (yS h2.lo h2.hi) (yS h3.lo h3.hi)) (yS h6.lo h6.hi)) (aPn x _ _ _)
theorem aCy (x:Q4) (e:Rat):hiB x r2 (r2+e) r3 (r3+e) r6 (r6+e)-loB x r2 (r2+e) r3 (r3+e) r6 (r6+e)=(aCv x.b+aCv x.c+aCv x.d)*e:=by
 have h1:=aNs x.b r2 e;have h2:=aNs x.c r3 e;have h3:=aNs x.d r6 e;unfold hiB loB
 grind
end
def ab (u:Q4) (c:Rat):Prop:=nn ((Q4.real c).sub u)∧nn ((Q4.real c).add u)
theorem xW {x:Q4}(h:nn ((Q4.real 2).mul x)):nn x:=by
 unfold nn at *
 rw [gH,C.yN,oK oz,Int.one_mul]at h;exact h
section
variable {u v:Q4}{c d:Rat}
theorem aHy (h:ab u c):0≤c:=by
 have:=dU h.1 h.2;refine rV (xW (bH this ?_));refine Q4.ext' ?_ ?_ ?_ ?_ <;> simp only [Q4.mul,Q4.sub,Q4.add,Q4.neg,Q4.real] <;> grind
theorem mK (h:ab u c) (h':ab v d):ab (u.mul v) (c*d):=by
 constructor
 ·refine xW (bH (dU (kQ h.1 h'.2) (kQ h.2 h'.1)) ?_);refine Q4.ext' ?_ ?_ ?_ ?_ <;> simp only [Q4.mul,Q4.sub,Q4.add,Q4.neg,Q4.real] <;> grind
 ·refine xW (bH (dU (kQ h.1 h'.1) (kQ h.2 h'.2)) ?_);refine Q4.ext' ?_ ?_ ?_ ?_ <;> simp only [Q4.mul,Q4.sub,Q4.add,Q4.neg,Q4.real] <;> grind
theorem xC (h:ab u c) (h':ab v d):ab (u.add v) (c+d):=by
 constructor
 ·refine bH (dU h.1 h'.1) ?_;refine Q4.ext' ?_ ?_ ?_ ?_ <;> simp only [Q4.sub,Q4.add,Q4.neg,Q4.real] <;> grind
 ·refine bH (dU h.2 h'.2) ?_;refine Q4.ext' ?_ ?_ ?_ ?_ <;> simp only [Q4.add,Q4.real] <;> grind
theorem nE {q:Rat}(h1:-c≤q) (h2:q≤c):ab (Q4.real q) c:=by
 constructor
 ·refine bH (dD (q:=c-q) (by grind)) ?_;refine Q4.ext' ?_ ?_ ?_ ?_ <;> simp only [Q4.sub,Q4.add,Q4.neg,Q4.real] <;> grind
 ·refine bH (dD (q:=c+q) (by grind)) ?_;refine Q4.ext' ?_ ?_ ?_ ?_ <;> simp only [Q4.add,Q4.real] <;> grind
theorem aHc {q:Rat}(h:ab (Q4.real q) c):-c≤q∧q≤c:=by
 have h1:=rV (bH (y:=Q4.real (c-q)) h.1 (by refine Q4.ext' ?_ ?_ ?_ ?_ <;> simp only [Q4.sub,Q4.add,Q4.neg,Q4.real] <;> grind));have h2:=rV (bH (y:=Q4.real (c+q)) h.2 (by refine Q4.ext' ?_ ?_ ?_ ?_ <;> simp only [Q4.add,Q4.real] <;> grind));constructor <;> grind
theorem xD {w:Q4}{n:Rat}(hw:C.sg w.toQ=1) (hs:w.mul w=Q4.real n) (h0:0≤c) (h:n≤c*c):ab w c:=by
 refine⟨yL hw hs h0 h,?_⟩;have:=aEl hw (dD h0);unfold nn;rw [show (Q4.real c).add w=w.add (Q4.real c) by refine Q4.ext' ?_ ?_ ?_ ?_ <;> simp only [Q4.add,Q4.real] <;> grind,this];decide
theorem aWx (x:Q4):(((Q4.real x.a).add ((Q4.real x.b).mul w2)).add ((Q4.real x.c).mul w3)).add ((Q4.real x.d).mul w6)=x:=by
 refine Q4.ext' ?_ ?_ ?_ ?_ <;> simp only [Q4.mul,Q4.add,Q4.real,w2,w3,w6] <;> grind
theorem nD {x:Q4}{M:Rat}(a1:-M≤x.a) (a2:x.a≤M) (b1:-M≤x.b) (b2:x.b≤M) (c1:-M≤x.c) (c2:x.c≤M) (d1:-M≤x.d) (d2:x.d≤M):ab x (8*M):=by
 have h:=xC (xC (xC (nE a1 a2) (mK (nE b1 b2) (xD aFq aRp (c:=2) oz (by decide +kernel)))) (mK (nE c1 c2) (xD aFr aRq (c:=2) oz (by decide +kernel)))) (mK (nE d1 d2) (xD aFs aRr (c:=3) oz (by decide +kernel)));rw [aWx,show M+M*2+M*2+M*3=8*M by grind]at h;exact h
theorem aYf {x:Q4}{M:Rat}(a1:-M≤x.a) (a2:x.a≤M) (b1:-M≤x.b) (b2:x.b≤M) (c1:-M≤x.c) (c2:x.c≤M) (d1:-M≤x.d) (d2:x.d≤M):ab x.cnj (8*M*(8*M)*(8*M)):=by
 unfold Q4.cnj;refine mK (mK (nD ?_ ?_ ?_ ?_ ?_ ?_ ?_ ?_) (nD ?_ ?_ ?_ ?_ ?_ ?_ ?_ ?_)) (nD ?_ ?_ ?_ ?_ ?_ ?_ ?_ ?_) <;> simp only [Q4.t1,Q4.t2] <;> grind
end
def isI (q:Rat):Prop:=∃n:Int,q=n
theorem isI.add {p q:Rat}(h:isI p) (h':isI q):isI (p+q):=by obtain⟨m,rfl⟩:=h;obtain⟨n,rfl⟩:=h';exact⟨m+n,(vw m n).symm⟩
theorem isI.mul {p q:Rat}(h:isI p) (h':isI q):isI (p*q):=by obtain⟨m,rfl⟩:=h;obtain⟨n,rfl⟩:=h';exact⟨m*n,(xm m n).symm⟩
theorem isI.neg {p:Rat}(h:isI p):isI (-p):=by obtain⟨m,rfl⟩:=h;exact⟨-m,(kt m).symm⟩
theorem isI_two:isI 2:=⟨2,rfl⟩
theorem isI_three:isI 3:=⟨3,rfl⟩
theorem isI_six:isI 6:=⟨6,rfl⟩
structure isI4 (x:Q4):Prop where
 a:isI x.a
 b:isI x.b
 c:isI x.c
 d:isI x.d
theorem isI4.mul {x y:Q4}(h:isI4 x) (g:isI4 y):isI4 (x.mul y) where
 a:=(((h.a.mul g.a).add (isI_two.mul (h.b.mul g.b))).add (isI_three.mul (h.c.mul g.c))).add (isI_six.mul (h.d.mul g.d))
 b:=((h.a.mul g.b).add (h.b.mul g.a)).add (isI_three.mul ((h.c.mul g.d).add (h.d.mul g.c)))
 c:=((h.a.mul g.c).add (h.c.mul g.a)).add (isI_two.mul ((h.b.mul g.d).add (h.d.mul g.b)))
 d:=(((h.a.mul g.d).add (h.d.mul g.a)).add (h.b.mul g.c)).add (h.c.mul g.b)
theorem isI4.t1 {x:Q4}(h:isI4 x):isI4 x.t1:=⟨h.a,h.b.neg,h.c,h.d.neg⟩
theorem isI4.t2 {x:Q4}(h:isI4 x):isI4 x.t2:=⟨h.a,h.b,h.c.neg,h.d.neg⟩
theorem isI4.cnj {x:Q4}(h:isI4 x):isI4 x.cnj:=(h.t1.mul h.t2).mul h.t1.t2
theorem aLn (s t:Rat) (x y:Q4):((Q4.real s).mul x).mul ((Q4.real t).mul y)=(Q4.real (s*t)).mul (x.mul y):=by
 refine Q4.ext' ?_ ?_ ?_ ?_ <;> simp only [Q4.mul,Q4.real] <;> grind
theorem aJv (x:Q4):x.mul x.cnj=Q4.real (x.mul x.cnj).a:=by
 obtain⟨h1,h2,h3⟩:=x.cnj_norm;exact Q4.ext' rfl h1 h2 h3
theorem aGo (n:Nat):isI (n:Rat):=⟨n,by rw [xl]⟩
structure Parts4 (x:Q4) (M:Nat):Prop where
 a:x.a.num.natAbs≤M∧x.a.den≤M
 b:x.b.num.natAbs≤M∧x.b.den≤M
 c:x.c.num.natAbs≤M∧x.c.den≤M
 d:x.d.num.natAbs≤M∧x.d.den≤M
theorem aZm {q:Rat}(h:isI q) (h0:q≠0):q≤-1∨1≤q:=by
 obtain⟨n,rfl⟩:=h;have hn:n≠0:=fun e=>h0 (by rw [e];rfl);rcases Int.lt_or_gt_of_ne hn with h|h
 ·left
  have:((n:Int):Rat)≤((-1:Int):Rat):=we.2 oq;exact this
 ·right
  have:((1:Int):Rat)≤((n:Int):Rat):=we.2 oq;exact this
open Num Ieee FT
theorem aNr {X d S:Nat}(hd:0<d):half X (d*(2*S))=half (2*(X/d)+(if X % d=0 then 0 else 1)) (2*(2*S)):=by
 have h1:X/(d*(2*S))=X/d/(2*S):=(jq X d (2*S)).symm;have h2:X % (d*(2*S))=X % d+d*(X/d % (2*S)):=Nat.mod_mul;have hr:X % d<d:=qf _ hd;have h3:(2*(X/d)+(if X % d=0 then 0 else 1)) / (2*(2*S))=X/d/(2*S):=by
  rw [←jq]
  congr 1
  split <;> omega
 have h4:(2*(X/d)+(if X % d=0 then 0 else 1)) % (2*(2*S))=2*(X/d % (2*S))+(if X % d=0 then 0 else 1):=by
  rw [Nat.mod_mul];have e1:(2*(X/d)+(if X % d=0 then 0 else 1)) / 2=X/d:=by split <;> omega
  have e2:(2*(X/d)+(if X % d=0 then 0 else 1)) % 2=(if X % d=0 then 0 else 1):=by split <;> omega
  rw [e1,e2];omega
 unfold half;rw [h1,h2,h3,h4];generalize X/d/(2*S)=q;generalize X/d % (2*S)=m;generalize X % d=r at hr;have a1:decide (d*(2*S)<2*(r+d*m))=decide (2*(2*S)<2*(2*m+(if r=0 then 0 else 1))):=by
  apply decide_eq_decide.2;rw [show d*(2*S)=2*(d*S) by ac_rfl];rcases wu S m with g|g|g
  ·have:d*S+d≤d*m:=by
    have:=qy d (show S+1≤m from g)
    rwa [zh,jk]at this
   split <;> omega
  ·subst g;split <;> omega
  ·have:d*m+d≤d*S:=by
    have:=qy d (show m+1≤S from g)
    rwa [zh,jk]at this
   split <;> omega
 have a2:(d*(2*S) == 2*(r+d*m))=(2*(2*S) == 2*(2*m+(if r=0 then 0 else 1))):=by
  rw [vv,beq_iff_eq,beq_iff_eq];rw [show d*(2*S)=2*(d*S) by ac_rfl];rcases wu S m with g|g|g
  ·have:d*S+d≤d*m:=by
    have:=qy d (show S+1≤m from g)
    rwa [zh,jk]at this
   split <;> omega
  ·subst g;split <;> omega
  ·have:d*m+d≤d*S:=by
    have:=qy d (show m+1≤S from g)
    rwa [zh,jk]at this
   split <;> omega
 rw [a1,a2]
theorem aJd {x y G:Nat}(h:x≤y):half x G≤half y G:=by
 have h1:x/G≤y/G:=Nat.div_le_div_right h;rcases zy (x/G) (y/G) with g|g
 ·exact qg (nT x G) (qg g (rP y G))
 ·have e:x/G=y/G:=vd h1 g;have h2:x % G≤y % G:=by
   have a:=qi x G;have b:=qi y G;rw [e]at a;omega
  unfold half;rw [e];refine Nat.add_le_add_left ?_ _;generalize x % G=r at *
  generalize y % G=t at *
  generalize (y/G % 2 == 1)=o
  by_cases c:G<2*t
  ·rw [decide_eq_true c,Bool.true_or];generalize (decide (G<2*r) || (G == 2*r && o))=b;cases b <;> decide
  ·have c2:¬ G<2*r:=oq
   rw [decide_eq_false c,decide_eq_false c2,yg,yg]
   by_cases d:G=2*r
   ·have:G=2*t:=oq
    rw [beq_iff_eq.2 d,beq_iff_eq.2 this];exact oy _
   ·rw [beq_eq_false_iff_ne.2 d,Bool.false_and];exact jm _
def cP (G a d:Nat):Nat:=2*(a*2^G/d)+(if a*2^G % d=0 then 0 else 1)
def uV (bits t c:Nat):Nat:=half c (2^max (bl c-bits) t)*2^max (bl c-bits) t
def fC (s:Bool) (beyond:Int) (G u:Nat):Nat:=
 if u=0 then 0 else if beyond+(G+1)<bl u then double.nearest s 1 5000 else double.nearest s u (-((G+1:Nat):Int))
theorem aMl {m k:Nat}(hm:m≠0):bl (m*2^k)=bl m+k:=by
 have hne:m*2^k≠0:=zm hm (by have:=ot k;omega);unfold bl;rw [oh hm,oh hne,eS hm];omega
theorem bBb {m k:Nat}:k<bl m↔2^k≤m:=by
 have:=bZ (n:=m) (k:=k);omega
theorem aMm {z:Nat}(h:z≠0) (b:Nat) (hb:b≤1):bl (2*z+b)=bl z+1:=by
 have h1:=dR z;have h2:=dN h;have hb1:1≤bl z:=by unfold bl;rw [oh h];omega
 refine vd (bZ.2 ?_) (bBb.2 ?_)
 ·rw [ql];omega
 ·rw [show bl z=bl z-1+1 by omega,ql];omega
theorem aQb {G a d t:Nat}(hd:d≠0) (ht:2≤t):rI a d ((t:Int)-(G+1))=half (cP G a d) (2^t):=by
 have key:rI a d ((t:Int)-(G+1))=half (a*2^G) (d*(2*2^(t-2))):=by
  unfold rI;have e2:2*2^(t-2)=2^(t-1):=by rw [ol,←ql];congr 1;omega
  rw [e2];generalize he:(t:Int)-(G+1)=e;have e3:a*2^G=a*2^(-e).toNat*2^(G-(-e).toNat):=by
   rw [qd,←oi];congr 2;omega
  have e4:d*2^(t-1)=d*2^e.toNat*2^(G-(-e).toNat):=by
   rw [qd,←oi];congr 2;omega
  rw [e3,e4,tB (ot _)]
 rw [key,aNr oq]
 congr 1
 rw [show 2^t=2^(t-2+2) by congr 1;omega,ql,ql];omega
theorem aIj (G d:Nat):cP G 0 d=0:=by unfold cP;rw [vq,Nat.zero_div,Nat.zero_mod];rfl
theorem aOc {G a d bits:Nat}{least:Int}(ha:a≠0) (hd:d≠0) (hb:1≤bits) (hl:1≤least+G) :
 fX a d bits least=((max (bl (cP G a d)-bits) (least+G+1).toNat:Nat):Int)-(G+1):=by
 rw [aDo hd,show (if below2 a d ((bl a:Int)-bl d) then (bl a:Int)-bl d-1 else (bl a:Int)-bl d)=gI a d from rfl];have h0:=wG (a:=a) ha hd;have h1:below2 a d (gI a d+1):=by
  unfold gI;split
  ·rename_i h;rwa [show (bl a:Int)-bl d-1+1=(bl a:Int)-bl d by omega]
  ·exact sJ hd
 by_cases hz:a*2^G/d=0
 ·have hlt:a*2^G<d:=by
   rcases Nat.div_eq_zero_iff.1 hz with h|h
   ·exact absurd h hd
   ·exact h
  have hc:bl (cP G a d)≤1:=by
   unfold cP;rw [hz];split <;> decide
  have ht:gI a d < -(G:Int):=jp fun c=>h0 (by
   refine kH hd (e:=-(G:Int)) ?_ oq;unfold below2;rw [show (- -(G:Int)).toNat=G by omega,show (-(G:Int)).toNat=0 by omega,zf,jk]
   exact hlt)
  omega
 ·have hc:bl (cP G a d)=bl (a*2^G/d)+1:=by
   unfold cP;split
   ·exact aMm hz 0 oz
   ·exact aMm hz 1 oz
  have g1:gI a d+1≤(bl (a*2^G/d):Int)-G:=by
   refine jp fun c=>h0 (kH hd (e:=(bl (a*2^G/d):Int)-G) ?_ oq)
   have hq:=(jC (a:=a) (bits:=bl (a*2^G/d)) (f:=-(G:Int)) hd).1 (by
    unfold kW;rw [show (- -(G:Int)).toNat=G by omega,show (-(G:Int)).toNat=0 by omega,zf,jk]
    exact oy _)
   rwa [show -(G:Int)+(bl (a*2^G/d):Nat)=(bl (a*2^G/d):Int)-G by omega]at hq
  have g2:(bl (a*2^G/d):Int)-G≤gI a d+1:=by
   have hbz:1≤bl (a*2^G/d):=by unfold bl;rw [oh hz];omega
   refine jp fun c=>?_;have hq:=(jC (a:=a) (bits:=bl (a*2^G/d)-1) (f:=-(G:Int)) hd).2 (kH hd h1 oq);unfold kW at hq;rw [show (- -(G:Int)).toNat=G by omega,show (-(G:Int)).toNat=0 by omega,zf,jk]at hq;omega
  omega
theorem aDy {s:Bool}{G a d bits:Nat}{least beyond:Int}(hd:d≠0) (hb:1≤bits) (hl:1≤least+G) (hlb:least≤beyond) :
 fF s a d bits least beyond=fC s beyond G (uV bits (least+G+1).toNat (cP G a d)):=by
 unfold fF fC uV
 by_cases ha:a=0
 ·subst ha;rw [og rfl,aIj];have:half 0 (2^max (bl 0-bits) (least+G+1).toNat)=0:=by
   have:=tA (a:=0) (G:=2^max (bl 0-bits) (least+G+1).toNat) (ot _)
   rwa [vq]at this
  rw [this,vq,og rfl]
 rw [oh ha];have el:=aOc (bits:=bits) (least:=least) ha hd hb hl;have em:kD a d bits least=half (cP G a d) (2^max (bl (cP G a d)-bits) (least+G+1).toNat):=by
  unfold kD;rw [el];exact aQb hd oq
 rw [el,em];have hz:half (cP G a d) (2^max (bl (cP G a d)-bits) (least+G+1).toNat)=0→max (bl (cP G a d)-bits) (least+G+1).toNat=(least+G+1).toNat:=fun h=>by
  have h1:=rP (cP G a d) (2^max (bl (cP G a d)-bits) (least+G+1).toNat);rw [h]at h1;have h2:cP G a d<2^max (bl (cP G a d)-bits) (least+G+1).toNat:=by
   rcases Nat.div_eq_zero_iff.1 (Nat.le_zero.1 h1) with g|g
   ·have:=ot (max (bl (cP G a d)-bits) (least+G+1).toNat);omega
   ·exact g
  have h3:=bZ.2 h2;omega
 generalize max (bl (cP G a d)-bits) (least+G+1).toNat=t at *
 generalize half (cP G a d) (2^t)=m at *
 by_cases hm:m=0
 ·subst hm;rw [vq,og rfl,og rfl];have h0:bl 0=0:=rfl;have:=hz rfl;rw [h0,oh oq]
 ·have hne:m*2^t≠0:=zm hm (by have:=ot t;omega);rw [oh hm,oh hne,aMl hm];have e:double.nearest s (m*2^t) (-((G+1:Nat):Int))=double.nearest s m ((t:Int)-(G+1)):=by
   have:=cN (f:=double) (neg:=s) (m:=m) (k:=t) (p:=(t:Int)-(G+1)) hm
   rwa [show (t:Int)-(G+1)-(t:Nat)=-((G+1:Nat):Int) by omega]at this
  rw [e]
  by_cases c:beyond+(G+1)<((bl m+t:Nat):Int)
  ·rw [og oq,og c]
  ·rw [oh oq,oh c]
theorem zO {m n:Nat}(h:m≤n):bl m≤bl n:=bZ.2 (qe h (dR n))
theorem aNq {c t b:Nat}(h:c<2^b):half c (2^t)*2^t≤2^max b t:=by
 rcases zy b t with g|g
 ·have h1:c/2^t=0:=qr (ob h (om oz oq));have h2:=nT c (2^t);rw [h1]at h2;have h3:=od (2^t) h2;rw [jj,jw]at h3;rw [Nat.max_eq_right oq];exact h3
 ·have h1:c/2^t<2^(b-t):=Nat.div_lt_of_lt_mul (by rw [←oi,show t+(b-t)=b by omega];exact h);have h2:=nT c (2^t);have h3:=od (2^t) (show half c (2^t)≤2^(b-t) by omega);rw [←oi,show b-t+t=b by omega]at h3;rw [Nat.max_eq_left g];exact h3
theorem aKy {bits t c c':Nat}(hb:1≤bits) (h:c≤c'):uV bits t c≤uV bits t c':=by
 have hbl:=zO h;unfold uV
 by_cases e:max (bl c-bits) t=max (bl c'-bits) t
 ·rw [e];exact od _ (aJd h)
 ·have h1:max (bl c'-bits) t=bl c'-bits:=oq
  have h2:max (bl c-bits) t<bl c'-bits:=oq
  rw [h1];have a:=aNq (t:=max (bl c-bits) t) (dR c);have b:2^(bl c'-1)≤half c' (2^(bl c'-bits))*2^(bl c'-bits):=by
   have hne:c'≠0:=fun e=>by subst e;have:bl 0=0:=rfl;omega
   have h3:=dN hne;have h4:2^(bl c'-1-(bl c'-bits))≤c' / 2^(bl c'-bits):=by
    rw [zz (ot _),←oi,show bl c'-1-(bl c'-bits)+(bl c'-bits)=bl c'-1 by omega];exact h3
   have h5:=od (2^(bl c'-bits)) (qg h4 (rP c' (2^(bl c'-bits))))
   rwa [←oi,show bl c'-1-(bl c'-bits)+(bl c'-bits)=bl c'-1 by omega]at h5
  exact qg a (qg (om oz oq) b)
theorem vE {G a d a' d':Nat}(hd:0<d) (hd':0<d') (h:a*d'≤a'*d):cP G a d≤cP G a' d':=by
 have h1:a*2^G*d'≤a'*2^G*d:=by
  rw [Nat.mul_right_comm,Nat.mul_right_comm a'];exact od _ h
 unfold cP;generalize a*2^G=X at *
 generalize a'*2^G=Y at *
 have hx:=qi X d;have hy:=qi Y d';have hr:=qf X hd;have hr':=qf Y hd';have h2:X/d≤Y/d':=by
  rw [zz hd'];have h3:X/d*d'*d≤Y*d:=by
   refine qg ?_ h1;rw [Nat.mul_right_comm];exact od _ (za X d)
  exact Nat.le_of_mul_le_mul_right h3 hd
 rcases zy (X/d) (Y/d') with g|g
 ·split <;> split <;> omega
 ·have e:X/d=Y/d':=vd h2 g
  by_cases c:Y % d'=0
  ·have hc:X % d=0:=by
    rw [c,zp,←e]at hy;rw [←hx,←hy]at h1;generalize X/d=q at *
    rw [jl,qd,ol (d'*q) d,←qd,←qd]at h1;have e2:d*q*d'=d*d'*q:=by ac_rfl
    rw [e2]at h1;have h4:X % d*d'=0:=oq
    rcases Nat.mul_eq_zero.1 h4 with z|z
    ·exact z
    ·omega
   rw [og hc,og c];omega
  ·rw [oh c];split <;> omega
theorem aGb:bl 0=0:=rfl
def InF (G u:Nat):Prop:=∃m p,Has double m p∧-((G+1:Nat):Int)≤p∧u=m*2^(p+(G+1:Nat)).toNat
def Img (b:Int) (G u:Nat):Prop:=u=0∨(u≠0∧b+(G+1)<bl u)∨(u≠0∧¬ b+(G+1)<bl u∧InF G u)
theorem aQi {G bits t c:Nat}{b:Int}(hbits:bits≤53) (hb:b≤1024) (hG:1074≤G) (ht:(G:Int)+1-1074≤t):Img b G (uV bits t c):=by
 by_cases h0:uV bits t c=0
 ·exact .inl h0
 refine .inr ?_
 by_cases h1:b+(G+1)<bl (uV bits t c)
 ·exact .inl ⟨h0,h1⟩
 refine .inr ⟨h0,h1,?_⟩;unfold uV at *
 have hm:half c (2^max (bl c-bits) t)≤2^53:=by
  have a:=nT c (2^max (bl c-bits) t)
  have b:c/2^max (bl c-bits) t<2^bits:=Nat.div_lt_of_lt_mul (by
   rw [←oi]
   exact ob (dR c) (om oz oq))
  have d:2^bits≤2^53:=om oz hbits;omega
 have ht2:t≤max (bl c-bits) t:=yb _ _;generalize max (bl c-bits) t=w at *
 generalize half c (2^w)=m at *
 have hm0:m≠0:=fun e=>h0 (by rw [e,vq]);rw [aMl hm0]at h1;rcases zy m (2^53) with g|g
 ·refine⟨m,(w:Int)-(G+1:Nat),nU hm0 g oq oq,oq,?_⟩;rw [show ((w:Int)-(G+1:Nat)+(G+1:Nat)).toNat=w by omega]
 ·have e:m=2^53:=vd hm g;subst e;have hl:bl (2^53)=54:=by decide +kernel
  rw [hl]at h1;have h11:bl 1=1:=by decide +kernel
  refine⟨1,(w:Int)+53-(G+1:Nat),nU oz oz oq (by rw [h11];omega),oq,?_⟩;rw [show ((w:Int)+53-(G+1:Nat)+(G+1:Nat)).toNat=53+w by omega,jw,oi]
theorem InF.read {G u:Nat}(h:InF G u) (hG:1074≤G) (s:Bool):∃M i,double.read (double.nearest s u (-((G+1:Nat):Int)))=.number s M i∧M≠0∧-((G+1:Nat):Int)≤i∧u=M*2^(i+(G+1:Nat)).toNat:=by
 obtain⟨m,p,h,hp,rfl⟩:=h;have hle:=h.last_le;have hlow:(-1074:Int)≤last double m p:=yc _ _;refine⟨m*2^(p-last double m p).toNat,last double m p,?_,zm h.ne (Nat.ne_of_gt (ot _)),oq,?_⟩
 ·have e:double.nearest s (m*2^(p+(G+1:Nat)).toNat) (-((G+1:Nat):Int))=double.nearest s m p:=by
   have:=cN (f:=double) (neg:=s) (m:=m) (k:=(p+(G+1:Nat)).toNat) (p:=p) h.ne
   rwa [show p-((p+(G+1:Nat)).toNat:Nat)=-((G+1:Nat):Int) by omega]at this
  rw [e];exact h.read aY
 ·rw [qd,←oi]
  congr 2
  omega
theorem dP:double.read 0=.number false 0 (-1074):=by decide +kernel
theorem cR (s:Bool):double.read (double.nearest s 1 5000)=.infinity s:=by cases s <;> decide +kernel
theorem wY {b:Int}{G u u':Nat}{s s':Bool}(hG:1074≤G) (h:Img b G u) (h':Img b G u') (e:fC s b G u=fC s' b G u') :
 (u=0∧u'=0)∨(u≠0∧u'≠0∧s=s'∧((b+(G+1)<bl u∧b+(G+1)<bl u')∨u=u')):=by
 unfold fC at e;rcases h with h|⟨h,g⟩|⟨h,g,i⟩ <;> rcases h' with h'|⟨h',g'⟩|⟨h',g',i'⟩
 ·exact .inl ⟨h,h'⟩
 ·rw [og h,oh h',og g']at e;have:=congrArg double.read e;rw [dP,cR]at this;cases this
 ·rw [og h,oh h',oh g']at e;obtain⟨M,j,r,hM,_⟩:=i'.read hG s';have:=congrArg double.read e;rw [dP,r]at this;injection this with _ a;exact absurd a.symm hM
 ·rw [og h',oh h,og g]at e;have:=congrArg double.read e;rw [dP,cR]at this;cases this
 ·rw [oh h,oh h',og g,og g']at e;have:=congrArg double.read e;rw [cR,cR]at this;injection this with a;exact .inr ⟨h,h',a,.inl ⟨g,g'⟩⟩
 ·rw [oh h,oh h',og g,oh g']at e;obtain⟨M,j,r,hM,_⟩:=i'.read hG s';have:=congrArg double.read e;rw [cR,r]at this;cases this
 ·rw [og h',oh h,oh g]at e;obtain⟨M,j,r,hM,_⟩:=i.read hG s;have:=congrArg double.read e;rw [dP,r]at this;injection this with _ a;exact absurd a hM
 ·rw [oh h,oh h',oh g,og g']at e;obtain⟨M,j,r,hM,_⟩:=i.read hG s;have:=congrArg double.read e;rw [cR,r]at this;cases this
 ·rw [oh h,oh h',oh g,oh g']at e;obtain⟨M,j,r,hM,_,eu⟩:=i.read hG s;obtain⟨M',j',r',hM',_,eu'⟩:=i'.read hG s';have:=congrArg double.read e;rw [r,r']at this;injection this with a1 a2 a3;exact .inr ⟨h,h',a1,.inr (by rw [eu,eu',a2,a3])⟩
theorem aTw (z:Int):(some (compare z z) == some Ordering.eq)=true:=by rw [show compare z z=Ordering.eq from by simp [compare,compareOfLessAndEq]];rfl
theorem pA {x y:Int}(h:(some (compare x y) == some Ordering.eq)=true):x=y:=by
 simp only [compare,compareOfLessAndEq]at h
 by_cases a:x<y
 ·rw [og a]at h;cases h
 ·rw [oh a]at h
  by_cases c:x=y
  ·exact c
  ·rw [oh c]at h;cases h
theorem aEf {w:Nat}(h:∀s t,double.read w≠.nan s t):(double.order w w == some Ordering.eq)=true:=by
 unfold Format.order;generalize double.read w=d at h;cases d with
 | nan s t=>exact absurd rfl (h s t)
 | infinity s=>unfold Datum.order;cases s <;> rfl
 | number s m i=>exact aTw _
theorem aEg {b:Int}{G u u':Nat}{s s':Bool}(hG:1074≤G) (h:Img b G u) (h':Img b G u') :
 (double.order (fC s b G u) (fC s' b G u') == some Ordering.eq)=decide (fC s b G u=fC s' b G u'):=by
 by_cases e:fC s b G u=fC s' b G u'
 ·rw [←e,decide_eq_true rfl];refine aEf ?_;unfold fC;rcases h with h|⟨h,g⟩|⟨h,g,i⟩
  ·rw [og h,dP];intro _ _ c;cases c
  ·rw [oh h,og g,cR];intro _ _ c;cases c
  ·obtain⟨M,j,r,hM,_⟩:=i.read hG s;rw [oh h,oh g,r];intro _ _ c;cases c
 ·rw [decide_eq_false e];refine Bool.eq_false_iff.2 fun o=>e ?_;unfold fC at o ⊢;unfold Format.order at o;rcases h with h|⟨h,g⟩|⟨h,g,i⟩ <;> rcases h' with h'|⟨h',g'⟩|⟨h',g',i'⟩
  ·rw [og h,og h']
  ·rw [og h,oh h',og g',dP,cR]at o;cases s' <;> cases o
  ·obtain⟨M,j,r,hM,_⟩:=i'.read hG s';rw [og h,oh h',oh g',dP,r]at o;have o:_=_:=pA o;exfalso;unfold signed at o;simp only [vk,vq]at o;have p1:=zm hM (Nat.ne_of_gt (ot (j-min (-1074) j).toNat));generalize M*2^(j-min (-1074) j).toNat=x at o p1;clear h h' e g' r;cases s' <;> simp at o <;> omega
  ·rw [oh h,og h',og g,dP,cR]at o;cases s <;> cases o
  ·rw [oh h,oh h',og g,og g',cR,cR]at o;rw [oh h,oh h',og g,og g'];cases s <;> cases s' <;> first|rfl|cases o
  ·obtain⟨M,j,r,hM,_⟩:=i'.read hG s';rw [oh h,oh h',og g,oh g',cR,r]at o;cases s <;> cases o
  ·obtain⟨M,j,r,hM,_⟩:=i.read hG s;rw [oh h,og h',oh g,dP,r]at o;have o:_=_:=pA o;exfalso;unfold signed at o;simp only [vk,vq]at o;have p1:=zm hM (Nat.ne_of_gt (ot (j-min j (-1074)).toNat));generalize M*2^(j-min j (-1074)).toNat=x at o p1;clear h h' e g r;cases s <;> simp at o <;> omega
  ·obtain⟨M,j,r,hM,_⟩:=i.read hG s;rw [oh h,oh h',oh g,og g',cR,r]at o;cases s' <;> cases o
  ·obtain⟨M,j,r,hM,hj,eu⟩:=i.read hG s;obtain⟨M',j',r',hM',hj',eu'⟩:=i'.read hG s';rw [oh h,oh h',oh g,oh g',r,r']at o;have o:_=_:=pA o;rw [oh h,oh h',oh g,oh g'];unfold signed at o;simp only [vk]at o;have p1:=zm hM (show 2^(j-min j j').toNat≠0 by have:=ot (j-min j j').toNat;omega);have p2:=zm hM' (show 2^(j'-min j j').toNat≠0 by have:=ot (j'-min j j').toNat;omega);have key:s=s'∧M*2^(j-min j j').toNat=M'*2^(j'-min j j').toNat:=by
    generalize M*2^(j-min j j').toNat=x at o p1;generalize M'*2^(j'-min j j').toNat=y at o p2;cases s <;> cases s' <;> simp at o ⊢ <;> omega
   obtain⟨rfl,k2⟩:=key;have:u=u':=by
    rw [eu,eu',show (j+(G+1:Nat)).toNat=(j-min j j').toNat+(min j j'+(G+1:Nat)).toNat by omega,show (j'+(G+1:Nat)).toNat=(j'-min j j').toNat+(min j j'+(G+1:Nat)).toNat by omega,oi,oi,←qd,←qd,k2]
   rw [this]
theorem wZ {b:Int}{G u u' u'':Nat}{s:Bool}(hG:1074≤G) (h:Img b G u) (h'':Img b G u'') (a:u≤u') (c:u'≤u'') (e:fC s b G u=fC s b G u''):fC s b G u'=fC s b G u:=by
 rcases wY hG h h'' e with ⟨h1,h2⟩|⟨h1,h2,_,⟨h3,h4⟩|h3⟩
 ·rw [show u'=u by omega]
 ·have:=zO a;unfold fC;rw [oh h1,oh oq,og h3,og oq]
 ·rw [show u'=u by omega]
def fE (q:Rat) (bits:Nat) (least beyond:Int):Nat:=fF (decide (q.num<0)) q.num.natAbs q.den bits least beyond
section
variable {lo hi x:Rat}{bits:Nat}{least beyond:Int}
structure Fmt (bits:Nat) (least beyond:Int):Prop where
 one:1≤bits
 bits:bits≤53
 low:-1074≤least
 top:beyond≤1024
 mid:least≤beyond
theorem nR:Fmt 53 (-1074) 1024:=⟨oz,oz,oz,oz,oz⟩
theorem gL:Fmt 24 (-149) 128:=⟨oz,oz,oz,oz,oz⟩
def uQ (q:Rat) (bits:Nat) (least:Int):Nat:=uV bits (least+(1075:Nat)+1).toNat (cP 1075 q.num.natAbs q.den)
theorem fT (F:Fmt bits least beyond) (q:Rat):fE q bits least beyond=fC (decide (q.num<0)) beyond 1075 (uQ q bits least):=
 aDy q.den_nz F.one (by have:=F.low;omega) F.mid
theorem lD (F:Fmt bits least beyond) (q:Rat):Img beyond 1075 (uQ q bits least):=aQi F.bits F.top oz (by have:=F.low;omega)
theorem lW (F:Fmt bits least beyond) (h:lo.num.natAbs*hi.den≤hi.num.natAbs*lo.den):uQ lo bits least≤uQ hi bits least:=aKy F.one (vE lo.den_pos hi.den_pos h)
theorem sE {x y:Rat}(h:x≤y) (h0:0≤x.num):x.num.natAbs*y.den≤y.num.natAbs*x.den:=by
 have h1:=(Rat.le_iff x y).1 h;have hd:=y.den_pos;have h2:0≤y.num:=by
  have:0≤x.num*y.den:=Int.mul_nonneg h0 oq;refine jp fun c=>?_;have:=Int.mul_neg_of_neg_of_pos (show y.num<0 by omega) (show (0:Int)<x.den by have:=x.den_pos;omega);omega
 have e1:x.num=(x.num.natAbs:Int):=oq
 have e2:y.num=(y.num.natAbs:Int):=oq
 rw [e1,e2]at h1
 exact_mod_cast h1
theorem jG {x y:Rat}(h:x≤y) (h0:y.num≤0):y.num.natAbs*x.den≤x.num.natAbs*y.den:=by
 have:=sE (Rat.neg_le_neg h) (by rw [Rat.neg_num];omega)
 rwa [Rat.neg_num,Rat.neg_num,Rat.neg_den,Rat.neg_den,Int.natAbs_neg,Int.natAbs_neg]at this
theorem lN {x y:Rat}(h:x≤y) (h0:0≤x.num):0≤y.num:=kj.2 (Rat.le_trans (kj.1 h0) h)
theorem wD (F:Fmt bits least beyond) (h1:lo≤x) (h2:x≤hi) (e:fE lo bits least beyond=fE hi bits least beyond):fE x bits least beyond=fE lo bits least beyond:=by
 rw [fT F,fT F]at e;rw [fT F,fT F]
 by_cases a:0≤lo.num
 ·have b:=lN h1 a;have c:=lN h2 b;rw [decide_eq_false (show ¬ lo.num<0 by omega),decide_eq_false (show ¬ hi.num<0 by omega)]at e;rw [decide_eq_false (show ¬ lo.num<0 by omega),decide_eq_false (show ¬ x.num<0 by omega)];exact wZ oz (lD F lo) (lD F hi) (lW F (sE h1 a)) (lW F (sE h2 b)) e
 ·by_cases c:0≤hi.num
  ·rw [decide_eq_true (show lo.num<0 by omega),decide_eq_false (show ¬ hi.num<0 by omega)]at e;rcases wY oz (lD F lo) (lD F hi) e with ⟨z1,z2⟩|⟨_,_,z,_⟩
   ·have:uQ x bits least=0:=by
     by_cases b:0≤x.num
     ·have:=lW F (sE h2 b);omega
     ·have:=lW F (jG h1 oq);omega
    rw [this,z1];rfl
   ·cases z
  ·have b:x.num<0:=jp fun g=>c (lN h2 oq);rw [decide_eq_true (show lo.num<0 by omega),decide_eq_true (show hi.num<0 by omega)]at e;rw [decide_eq_true (show lo.num<0 by omega),decide_eq_true b];have:=wZ oz (lD F hi) (lD F lo) (lW F (jG h2 oq)) (lW F (jG h1 oq)) e.symm;rw [this,e]
theorem qD (F:Fmt bits least beyond) (x y:Rat):(double.order (fE x bits least beyond) (fE y bits least beyond) == some Ordering.eq)=decide (fE x bits least beyond=fE y bits least beyond):=by
 rw [fT F,fT F];exact aEg oz (lD F x) (lD F y)
theorem vF {G a d a' d':Nat}(hd:0<d) (hd':0<d') (h:a*d'≤a'*d) (hz:a'*2^G/d'*d<a*2^G):cP G a d=cP G a' d':=by
 have h1:=vE (G:=G) hd hd' h;refine vd h1 ?_;unfold cP;generalize a*2^G=X at *
 generalize a'*2^G/d'=z at *
 have h2:z≤X/d:=(zz hd).2 oq;have hx:=qi X d;rcases zy z (X/d) with g|g
 ·split <;> split <;> omega
 ·have e:z=X/d:=vd h2 g;have:X % d≠0:=fun c=>by
   rw [c,zp,←e,ol]at hx;omega
  rw [oh this];split <;> omega
theorem aAm (q:Rat) (G:Nat):q*((2^G:Nat):Rat)*(q.den:Rat)=((q.num*((2^G:Nat):Int):Int):Rat):=by
 rw [yf,Rat.mul_comm ((2^G:Nat):Rat),←yf,kP,xm];rfl
theorem aAl (q:Rat) (z:Int):(z:Rat)*(q.den:Rat)=((z*(q.den:Int):Int):Rat):=by
 rw [xm];rfl
theorem xO {q:Rat}{z:Int}{G:Nat}(h:¬ (z:Rat) / ((2^G:Nat):Rat)≤q):q.num*((2^G:Nat):Int)<z*q.den:=by
 have hp:(0:Rat)<((2^G:Nat):Rat):=zu.2 (ot G);have hd:(0:Rat)<(q.den:Rat):=zu.2 q.den_pos;have h1:=(wk hd).2 ((Rat.lt_div_iff hp).1 (Rat.not_le.1 h));rw [aAm,aAl]at h1;exact Rat.intCast_lt_intCast.1 h1
theorem xP {q:Rat}{z:Int}{G:Nat}(h:¬ q≤(z:Rat) / ((2^G:Nat):Rat)):z*q.den<q.num*((2^G:Nat):Int):=by
 have hp:(0:Rat)<((2^G:Nat):Rat):=zu.2 (ot G);have hd:(0:Rat)<(q.den:Rat):=zu.2 q.den_pos;have h1:=(wk hd).2 ((Rat.div_lt_iff hp).1 (Rat.not_le.1 h));rw [aAm,aAl]at h1;exact Rat.intCast_lt_intCast.1 h1
theorem cK (a b:Nat):((a:Int)*(b:Int))=((a*b:Nat):Int):=(zi a b).symm
theorem aDx (F:Fmt bits least beyond) (h:lo≤hi) (hno:∀z:Int,lo≤(z:Rat) / ((2^1075:Nat):Rat)→(z:Rat) / ((2^1075:Nat):Rat)≤hi→False) :
 fE lo bits least beyond=fE hi bits least beyond:=by
 rw [fT F,fT F];unfold uQ;generalize (1075:Nat)=G at *
 have hl:=lo.den_pos;have hh:=hi.den_pos
 by_cases a:0≤lo.num
 ·have b:=lN h a;have hab:=sE h a;have e1:hi.num=(hi.num.natAbs:Int):=oq
  have e2:lo.num=(lo.num.natAbs:Int):=oq
  rw [decide_eq_false (show ¬ lo.num<0 by omega),decide_eq_false (show ¬ hi.num<0 by omega)];have key:(hi.num.natAbs*2^G/hi.den)*lo.den<lo.num.natAbs*2^G:=by
   have g:((hi.num.natAbs*2^G/hi.den:Nat):Int)*lo.den<lo.num*((2^G:Nat):Int):=xP fun c=>hno _ c (jp fun c2=>by
    have:=xO c2;have h3:=za (hi.num.natAbs*2^G) hi.den;generalize hi.num.natAbs=n at *
    rw [e1,cK,cK]at this
    omega)
   generalize lo.num.natAbs=n at *
   rw [e2,cK,cK]at g;omega
  rw [vF hl hh hab key]
 ·by_cases b:0≤hi.num
  ·exact (hno 0 (jp fun c=>by
    have:=xP c;have:=Int.mul_neg_of_neg_of_pos (show lo.num<0 by omega) (show (0:Int)<((2^G:Nat):Int) by have:=ot G;omega)
    omega) (jp fun c=>by
    have:=xO c;have:=Int.mul_nonneg b (show (0:Int)≤((2^G:Nat):Int) from Int.natCast_nonneg _)
    omega)).elim
  ·have hab:=jG h oq;have e1:hi.num=-(hi.num.natAbs:Int):=oq
   have e2:lo.num=-(lo.num.natAbs:Int):=oq
   rw [decide_eq_true (show lo.num<0 by omega),decide_eq_true (show hi.num<0 by omega)];have key:(lo.num.natAbs*2^G/lo.den)*hi.den<hi.num.natAbs*2^G:=by
    have g:hi.num*((2^G:Nat):Int) < -((lo.num.natAbs*2^G/lo.den:Nat):Int)*hi.den:=xO fun c=>hno _ (jp fun c2=>by
     have:=xP c2;have h3:=za (lo.num.natAbs*2^G) lo.den;generalize lo.num.natAbs=n at *
     rw [e2,uv,uv,cK,cK]at this
     omega) c
    generalize hi.num.natAbs=n at *
    rw [e1,uv,uv,cK,cK]at g;omega
   rw [vF hh hl hab key]
end
def Near4 (x:Q4) (bits:Nat) (least beyond:Int) (W:Nat):Prop:=
 ∃lo hi:Rat,nn (x.sub (Q4.real lo))∧nn ((Q4.real hi).sub x)∧fE lo bits least beyond=W∧fE hi bits least beyond=W
section
variable {x:Q4}{bits:Nat}{least beyond:Int}{W W':Nat}{lo hi:Rat}
theorem aOq (hl:nn (x.sub (Q4.real lo))) (hh:nn ((Q4.real hi).sub x)):lo≤hi:=by
 have:=rV (q:=hi-lo) (bH (dU hl hh) (by refine Q4.ext' ?_ ?_ ?_ ?_ <;> simp only [Q4.sub,Q4.add,Q4.neg,Q4.real] <;> grind))
 grind
theorem Near4.unique (F:Fmt bits least beyond) (h:Near4 x bits least beyond W) (h':Near4 x bits least beyond W'):W=W':=by
 obtain⟨l,u,a1,a2,a3,a4⟩:=h;obtain⟨l',u',b1,b2,b3,b4⟩:=h';have c1:=aOq a1 b2;have c2:=aOq b1 a2
 by_cases g:l≤l'
 ·have e1:=wD F g c2 (by rw [a3,a4]);rw [←b3,e1,a3]
 ·have g:l'≤l:=xr (Rat.not_le.1 g);have e1:=wD F g c1 (by rw [b3,b4]);rw [←a3,e1,b3]
theorem rS (q:Rat):nn ((Q4.real q).sub (Q4.real q)):=bH (dD (q:=0) oz) (by refine Q4.ext' ?_ ?_ ?_ ?_ <;> simp only [Q4.sub,Q4.add,Q4.neg,Q4.real] <;> grind)
theorem Near4.real (q:Rat):Near4 (Q4.real q) bits least beyond (fE q bits least beyond):=⟨q,q,rS q,rS q,rfl,rfl⟩
end
structure IntForm (x:Q4) (D N:Nat):Prop where
 pos:0<D
 le:D≤N
 int:isI4 ((Q4.real (D:Rat)).mul x)
 a:-(N:Rat)≤(D:Rat)*x.a∧(D:Rat)*x.a≤N
 b:-(N:Rat)≤(D:Rat)*x.b∧(D:Rat)*x.b≤N
 c:-(N:Rat)≤(D:Rat)*x.c∧(D:Rat)*x.c≤N
 d:-(N:Rat)≤(D:Rat)*x.d∧(D:Rat)*x.d≤N
theorem pD (s:Rat) (x:Q4):((Q4.real s).mul x).a=s*x.a∧((Q4.real s).mul x).b=s*x.b∧((Q4.real s).mul x).c=s*x.c∧((Q4.real s).mul x).d=s*x.d:=by
 refine⟨?_,?_,?_,?_⟩ <;> simp only [Q4.mul,Q4.real] <;> grind
theorem aUq {Y:Q4}{M c:Rat}(hI:isI4 Y) (hne:Y≠Q4.zero) (hab:ab Y c) (ha:-M≤Y.a∧Y.a≤M) (hb:-M≤Y.b∧Y.b≤M) (hc:-M≤Y.c∧Y.c≤M) (hd:-M≤Y.d∧Y.d≤M) :
 1≤c*(8*M*(8*M)*(8*M)):=by
 have hN:=mK hab (aYf ha.1 ha.2 hb.1 hb.2 hc.1 hc.2 hd.1 hd.2);rw [aJv]at hN;obtain⟨n1,n2⟩:=aHc hN;have hz:=Q4.norm_ne hne;have hi:=aZm (hI.mul hI.cnj).a hz;rcases hi with h|h <;> grind
theorem aOp {x:Q4}{D N G k B:Nat}{lo hi:Rat}{z:Int}(F:IntForm x D N) (hirr:¬ (x.b=0∧x.c=0∧x.d=0)) (hl:nn (x.sub (Q4.real lo))) (hh:nn ((Q4.real hi).sub x))
 (hg:hi-lo≤3*(N:Rat)*(1/((2^k:Nat):Rat))) (h1:lo≤(z:Rat) / ((2^G:Nat):Rat)) (h2:(z:Rat) / ((2^G:Nat):Rat)≤hi) (hN:N≤2^B):k≤5*B+4*G+21:=by
 refine jp fun hk=>?_;have hP:(0:Rat)<((2^G:Nat):Rat):=zu.2 (ot G);have hK:(0:Rat)<((2^k:Nat):Rat):=zu.2 (ot k);have hD:(0:Rat)<(D:Rat):=zu.2 F.pos;have hDN:(D:Rat)≤(N:Rat):=vp.2 F.le;have hN0:(0:Rat)<(N:Rat):=by grind
 -- the gap is at most 1
 have hkN:3*N≤2^k:=by
  have a:3*N≤2^(B+2):=by rw [oi];omega
  exact qg a (om oz oq)
 have hkR:3*(N:Rat)≤((2^k:Nat):Rat):=by
  have:=vp.2 hkN;rw [je]at this;exact this
 have hbig:3*N*N*2^G*(72*2^G*N*(72*2^G*N)*(72*2^G*N))<2^k:=by
  have e:3*N*N*2^G*(72*2^G*N*(72*2^G*N)*(72*2^G*N))=1119744*(N*N*N*N*N)*(2^G*2^G*2^G*2^G):=by
   have:3*N*N*2^G*(72*2^G*N*(72*2^G*N)*(72*2^G*N))=3*72*72*72*(N*N*N*N*N)*(2^G*2^G*2^G*2^G):=by ac_rfl
   rw [this]
  rw [e];have p1:N*N*N*N*N≤2^(5*B):=by
   have:=vo (vo (vo (vo hN hN) hN) hN) hN
   rwa [←oi,←oi,←oi,←oi,show B+B+B+B+B=5*B by omega]at this
  have p2:2^G*2^G*2^G*2^G=2^(4*G):=by rw [←oi,←oi,←oi];congr 1;omega
  rw [p2];have p3:1119744*(N*N*N*N*N)*2^(4*G)<2^21*2^(5*B)*2^(4*G):=by
   refine jx ?_ (ot _);exact qe (qy _ p1) (jx oz (ot _))
  refine ob p3 ?_;rw [←oi,←oi];exact om oz oq
 have hbigR:3*(N:Rat)*N*((2^G:Nat):Rat)*(72*((2^G:Nat):Rat)*N*(72*((2^G:Nat):Rat)*N)*(72*((2^G:Nat):Rat)*N))<((2^k:Nat):Rat):=by
  have:=Rat.natCast_lt_natCast.2 hbig;simp only [je]at this;exact this
 have ht:(z:Rat) / ((2^G:Nat):Rat)*((2^G:Nat):Rat)=z:=vf (by grind);have hgk:3*(N:Rat)*(1/((2^k:Nat):Rat))*((2^k:Nat):Rat)=3*(N:Rat):=by rw [yf,vf (by grind),Rat.mul_one]
 have hzI:isI (z:Rat):=⟨z,rfl⟩;have hPI:isI ((2^G:Nat):Rat):=aGo _;have hDI:isI (D:Rat):=aGo _;have fa:=F.int;have fc:=F.b;have fd:=F.c;have fe:=F.d;clear hbig hkN hN F;generalize (z:Rat) / ((2^G:Nat):Rat)=t at *
 generalize ((2^G:Nat):Rat)=P at *
 generalize ((2^k:Nat):Rat)=E at *
 generalize (N:Rat)=n at *
 generalize (z:Rat)=y at *
 generalize 3*n*(1/E)=g at *
 generalize (D:Rat)=q at *
 obtain⟨m1,m2,m3,m4⟩:=pD q x;have i1:=fa.a;have i2:=fa.b;have i3:=fa.c;have i4:=fa.d;rw [m1]at i1;rw [m2]at i2;rw [m3]at i3;rw [m4]at i4;clear m1 m2 m3 m4 fa;have hgap:ab (x.sub (Q4.real t)) g:=by
  constructor
  ·refine bH (dU hh (dD (q:=g-(hi-t)) (by grind))) ?_;refine Q4.ext' ?_ ?_ ?_ ?_ <;> simp only [Q4.sub,Q4.add,Q4.neg,Q4.real] <;> grind
  ·refine bH (dU hl (dD (q:=g-(t-lo)) (by grind))) ?_;refine Q4.ext' ?_ ?_ ?_ ?_ <;> simp only [Q4.sub,Q4.add,Q4.neg,Q4.real] <;> grind
 have hg0:=aHy hgap;have hqP:0<q*P:=uw hD hP;have habY:ab ((Q4.real (q*P)).mul (x.sub (Q4.real t))) (q*P*g):=mK (nE (by grind) (Rat.le_refl)) hgap;obtain⟨y1,y2,y3,y4⟩:=pD (q*P) (x.sub (Q4.real t));generalize (Q4.real (q*P)).mul (x.sub (Q4.real t))=Y at *
 have z1:Y.a=P*(q*x.a)-q*y:=by rw [y1];simp only [Q4.sub,Q4.add,Q4.neg,Q4.real];grind
 have z2:Y.b=P*(q*x.b):=by rw [y2];simp only [Q4.sub,Q4.add,Q4.neg,Q4.real];grind
 have z3:Y.c=P*(q*x.c):=by rw [y3];simp only [Q4.sub,Q4.add,Q4.neg,Q4.real];grind
 have z4:Y.d=P*(q*x.d):=by rw [y4];simp only [Q4.sub,Q4.add,Q4.neg,Q4.real];grind
 have hYI:isI4 Y:=by
  constructor
  ·rw [z1,ya];exact (hPI.mul i1).add (hDI.mul hzI).neg
  ·rw [z2];exact hPI.mul i2
  ·rw [z3];exact hPI.mul i3
  ·rw [z4];exact hPI.mul i4
 have hYne:Y≠Q4.zero:=fun e=>hirr (by
  have w2:=congrArg Q4.b e;have w3:=congrArg Q4.c e;have w4:=congrArg Q4.d e;rw [y2]at w2;rw [y3]at w3;rw [y4]at w4;simp only [Q4.sub,Q4.add,Q4.neg,Q4.real,Q4.zero]at w2 w3 w4;refine⟨?_,?_,?_⟩
  ·rcases Rat.mul_eq_zero.1 w2 with h|h <;> grind
  ·rcases Rat.mul_eq_zero.1 w3 with h|h <;> grind
  ·rcases Rat.mul_eq_zero.1 w4 with h|h <;> grind)
 have mulP:∀u:Rat,-n≤u∧u≤n→-(P*n)≤P*u∧P*u≤P*n:=fun u hu=>by
  have a1:=Rat.mul_le_mul_of_nonneg_left hu.1 (xr hP);have a2:=Rat.mul_le_mul_of_nonneg_left hu.2 (xr hP);constructor <;> grind
 have hPn:0<P*n:=uw hP hN0;have b2:-(P*n)≤Y.b∧Y.b≤P*n:=by rw [z2];exact mulP _ fc
 have b3:-(P*n)≤Y.c∧Y.c≤P*n:=by rw [z3];exact mulP _ fd
 have b4:-(P*n)≤Y.d∧Y.d≤P*n:=by rw [z4];exact mulP _ fe
 have hg1:g≤1:=by
  refine Rat.not_lt.1 fun h=>?_;have:=(wk hK).2 h;rw [hgk,Rat.one_mul]at this
  grind
 have hc1:q*P*g≤P*n:=by
  have a1:=Rat.mul_le_mul_of_nonneg_left hg1 (xr hqP);have a2:=zw hDN (xr hP)
  grind
 have b1:-(9*(P*n))≤Y.a∧Y.a≤9*(P*n):=by
  have h0:ab (Q4.mk 0 (-Y.b) (-Y.c) (-Y.d)) (8*(P*n)):=nD (by grind) (by grind) (by grind) (by grind) (by grind) (by grind) (by grind) (by grind);have h1:=xC habY h0;rw [show Y.add (Q4.mk 0 (-Y.b) (-Y.c) (-Y.d))=Q4.real Y.a by refine Q4.ext' ?_ ?_ ?_ ?_ <;> simp only [Q4.add,Q4.real] <;> grind]at h1;obtain⟨r1,r2⟩:=aHc h1;constructor <;> grind
 have key:=aUq hYI hYne habY b1 (by constructor <;> grind) (by constructor <;> grind) (by constructor <;> grind);have e8:8*(9*(P*n))=72*P*n:=by grind
 rw [e8]at key;have hpos:0≤72*P*n*(72*P*n)*(72*P*n):=by
  have:0<72*P*n:=by grind
  exact xr (uw (uw this this) this)
 generalize 72*P*n*(72*P*n)*(72*P*n)=S at *
 have c1:q*P*g*S≤n*P*g*S:=by
  refine zw (zw (zw hDN (xr hP)) hg0) hpos
 have c2:1*E≤n*P*g*S*E:=zw (Rat.le_trans key c1) (xr hK);have c3:n*P*g*S*E=3*n*n*P*S:=by
  rw [show n*P*g*S*E=n*P*S*(g*E) by grind,hgk]
  grind
 rw [c3]at c2
 grind
open IntKind (wrap)
open Go.RowKit
open Value (agg slice int bool tuple)
open Sy (Up Sees CallsG Seg execFn_use)
set_option maxRecDepth 100000
variable {k:World}{R:World→Value→Prop}{A0 A1 A3 A5 A7 A8:Option Addr}{c0 c1 c3 c5 c7 c8 l0 l1 l3 l5 l7 l8:Nat}{b0 b2 b4 b6:Bool}{n4 n5 n6 n9:Int}{cs0 cs1 cs2 cs3:Array Value}
theorem aSq 
 (h:Tt∧(Br (((l0:Nat):Int) == 0) (Rt R k (slice none 0 0)) (∀p1 k1,Up k k1→Sy.Blk k1 p1 59 #[int .u64 1]→
 ∃A2 l2 c2,some (slice (some ⟨p1,0,none⟩) 1 1)=some (slice A2 l2 c2)∧
 Cl k1 229 #[slice A0 l0 c0] fun k3 r2=>Gi r2 fun n3=>
 Cl k3 230 #[slice A2 l2 c2,int .i64 (wrap .i64 ((wrap .i64 (Int.tdiv n3 2))+1))] fun k5 r4=>∃A4 l4 c4,some (slice A4 l4 c4)=some r4∧
 ∃I6:Nat→World→List Value→Prop,(∃m6,∀k6,Up k5 k6→I6 m6 k6 [slice A4 l4 c4])∧
 ∀m6 k6 vs6,Up k5 k6→I6 m6 k6 vs6→∃A5 l5 c5,some [slice A5 l5 c5]=some vs6∧
 Cl k6 195 #[slice A0 l0 c0,slice A5 l5 c5] fun k8 r7=>∃A6 l6 c6,∃A7 l7 c7,some (tuple #[slice A6 l6 c6,slice A7 l7 c7])=some r7∧
 Cl k8 190 #[slice A5 l5 c5,slice A6 l6 c6] fun k10 r9=>∃A8 l8 c8,some (slice A8 l8 c8)=some r9∧
 Cl k10 273 #[slice A8 l8 c8,int .i64 1] fun k12 r11=>∃A9 l9 c9,some (slice A9 l9 c9)=some r11∧
 Cl k12 191 #[slice A9 l9 c9,slice A5 l5 c5] fun k14 r13=>Gi r13 fun n10=>
 Br (decide ((n10:Int) ≥ 0)) (Rt R k14 (slice A5 l5 c5)) (∀k16,Up k14 k16→∃m,m<m6∧I6 m k16 [slice A9 l9 c9])))) :
  CallsG Tryz.prog 311 #[slice A0 l0 c0] k R:=
  qY { opq:=[],loops:=[(0,[.tmp 3 false [.slice]])] } h
theorem aWz 
 (h:Cl k 230 #[slice A1 l1 c1,int .i64 n9] fun k1 r0=>∃A10 l10 c10,some (slice A10 l10 c10)=some r0∧
 Cl k1 171 #[bool b0,slice A10 l10 c10] fun k3 r2=>∃b11,∃A12 l12 c12,some (agg #[bool b11,slice A12 l12 c12])=some r2∧
 Cl k3 230 #[slice A1 l1 c1,int .i64 n9] fun k5 r4=>∃A13 l13 c13,some (slice A13 l13 c13)=some r4∧
 Cl k5 171 #[bool b0,slice A13 l13 c13] fun k7 r6=>∃b14,∃A15 l15 c15,some (agg #[bool b14,slice A15 l15 c15])=some r6∧
 ∃J8:World→List Value→Prop,(∀k8,Up k7 k8→J8 k8 [agg #[bool b11,slice A12 l12 c12],agg #[bool b14,slice A15 l15 c15]])∧
 ∀k9 vs9,Up k7 k9→J8 k9 vs9→∃b16,∃A17 l17 c17,∃b18,∃A19 l19 c19,some [agg #[bool b16,slice A17 l17 c17],agg #[bool b18,slice A19 l19 c19]]=some vs9∧
 ∃J10:World→List Value→Prop,(Tt∧(Br (((l3:Nat):Int) == 0) (∀k10,Up k9 k10→J10 k10 [agg #[bool b16,slice A17 l17 c17],agg #[bool b18,slice A19 l19 c19]]) (Cl k9 108 #[slice A3 l3 c3,slice A3 l3 c3] fun k12 r11=>∃A20 l20 c20,some (slice A20 l20 c20)=some r11∧
 Cl k12 189 #[int .u64 2] fun k14 r13=>∃A21 l21 c21,some (slice A21 l21 c21)=some r13∧
 Cl k14 108 #[slice A20 l20 c20,slice A21 l21 c21] fun k16 r15=>∃A22 l22 c22,some (slice A22 l22 c22)=some r15∧
 Cl k16 230 #[slice A22 l22 c22,int .i64 (wrap .i64 (2*n9))] fun k18 r17=>∃A23 l23 c23,some (slice A23 l23 c23)=some r17∧
 Cl k18 311 #[slice A23 l23 c23] fun k20 r19=>∃A24 l24 c24,some (slice A24 l24 c24)=some r19∧
 Cl k20 171 #[bool b2,slice A24 l24 c24] fun k22 r21=>∃b25,∃A26 l26 c26,some (agg #[bool b25,slice A26 l26 c26])=some r21∧
 Cl k22 189 #[int .u64 1] fun k24 r23=>∃A27 l27 c27,some (slice A27 l27 c27)=some r23∧
 Cl k24 190 #[slice A24 l24 c24,slice A27 l27 c27] fun k26 r25=>∃A28 l28 c28,some (slice A28 l28 c28)=some r25∧
 Cl k26 171 #[bool b2,slice A28 l28 c28] fun k28 r27=>∃b29,∃A30 l30 c30,some (agg #[bool b29,slice A30 l30 c30])=some r27∧
 Br b2 (Cl k28 106 #[agg #[bool b16,slice A17 l17 c17],agg #[bool b29,slice A30 l30 c30]] fun k30 r29=>∃b31,∃A32 l32 c32,some (agg #[bool b31,slice A32 l32 c32])=some r29∧
 Cl k30 106 #[agg #[bool b18,slice A19 l19 c19],agg #[bool b25,slice A26 l26 c26]] fun k32 r31=>∃b33,∃A34 l34 c34,some (agg #[bool b33,slice A34 l34 c34])=some r31∧
 ∀k33,Up k32 k33→J10 k33 [agg #[bool b31,slice A32 l32 c32],agg #[bool b33,slice A34 l34 c34]]) (Cl k28 106 #[agg #[bool b16,slice A17 l17 c17],agg #[bool b25,slice A26 l26 c26]] fun k35 r34=>∃b31,∃A32 l32 c32,some (agg #[bool b31,slice A32 l32 c32])=some r34∧
 Cl k35 106 #[agg #[bool b18,slice A19 l19 c19],agg #[bool b29,slice A30 l30 c30]] fun k37 r36=>∃b33,∃A34 l34 c34,some (agg #[bool b33,slice A34 l34 c34])=some r36∧
 ∀k38,Up k37 k38→J10 k38 [agg #[bool b31,slice A32 l32 c32],agg #[bool b33,slice A34 l34 c34]]))))∧
 ∀k39 vs39,Up k9 k39→J10 k39 vs39→∃b20,∃A21 l21 c21,∃b22,∃A23 l23 c23,some [agg #[bool b20,slice A21 l21 c21],agg #[bool b22,slice A23 l23 c23]]=some vs39∧
 ∃J40:World→List Value→Prop,(Tt∧(Br (((l5:Nat):Int) == 0) (∀k40,Up k39 k40→J40 k40 [agg #[bool b20,slice A21 l21 c21],agg #[bool b22,slice A23 l23 c23]]) (Cl k39 108 #[slice A5 l5 c5,slice A5 l5 c5] fun k42 r41=>∃A24 l24 c24,some (slice A24 l24 c24)=some r41∧
 Cl k42 189 #[int .u64 3] fun k44 r43=>∃A25 l25 c25,some (slice A25 l25 c25)=some r43∧
 Cl k44 108 #[slice A24 l24 c24,slice A25 l25 c25] fun k46 r45=>∃A26 l26 c26,some (slice A26 l26 c26)=some r45∧
 Cl k46 230 #[slice A26 l26 c26,int .i64 (wrap .i64 (2*n9))] fun k48 r47=>∃A27 l27 c27,some (slice A27 l27 c27)=some r47∧
 Cl k48 311 #[slice A27 l27 c27] fun k50 r49=>∃A28 l28 c28,some (slice A28 l28 c28)=some r49∧
 Cl k50 171 #[bool b4,slice A28 l28 c28] fun k52 r51=>∃b29,∃A30 l30 c30,some (agg #[bool b29,slice A30 l30 c30])=some r51∧
 Cl k52 189 #[int .u64 1] fun k54 r53=>∃A31 l31 c31,some (slice A31 l31 c31)=some r53∧
 Cl k54 190 #[slice A28 l28 c28,slice A31 l31 c31] fun k56 r55=>∃A32 l32 c32,some (slice A32 l32 c32)=some r55∧
 Cl k56 171 #[bool b4,slice A32 l32 c32] fun k58 r57=>∃b33,∃A34 l34 c34,some (agg #[bool b33,slice A34 l34 c34])=some r57∧
 Br b4 (Cl k58 106 #[agg #[bool b20,slice A21 l21 c21],agg #[bool b33,slice A34 l34 c34]] fun k60 r59=>∃b35,∃A36 l36 c36,some (agg #[bool b35,slice A36 l36 c36])=some r59∧
 Cl k60 106 #[agg #[bool b22,slice A23 l23 c23],agg #[bool b29,slice A30 l30 c30]] fun k62 r61=>∃b37,∃A38 l38 c38,some (agg #[bool b37,slice A38 l38 c38])=some r61∧
 ∀k63,Up k62 k63→J40 k63 [agg #[bool b35,slice A36 l36 c36],agg #[bool b37,slice A38 l38 c38]]) (Cl k58 106 #[agg #[bool b20,slice A21 l21 c21],agg #[bool b29,slice A30 l30 c30]] fun k65 r64=>∃b35,∃A36 l36 c36,some (agg #[bool b35,slice A36 l36 c36])=some r64∧
 Cl k65 106 #[agg #[bool b22,slice A23 l23 c23],agg #[bool b33,slice A34 l34 c34]] fun k67 r66=>∃b37,∃A38 l38 c38,some (agg #[bool b37,slice A38 l38 c38])=some r66∧
 ∀k68,Up k67 k68→J40 k68 [agg #[bool b35,slice A36 l36 c36],agg #[bool b37,slice A38 l38 c38]]))))∧
 ∀k69 vs69,Up k39 k69→J40 k69 vs69→∃b24,∃A25 l25 c25,∃b26,∃A27 l27 c27,some [agg #[bool b24,slice A25 l25 c25],agg #[bool b26,slice A27 l27 c27]]=some vs69∧
 ∃J70:World→List Value→Prop,(Tt∧(Br (((l7:Nat):Int) == 0) (∀k70,Up k69 k70→J70 k70 [agg #[bool b24,slice A25 l25 c25],agg #[bool b26,slice A27 l27 c27]]) (Cl k69 108 #[slice A7 l7 c7,slice A7 l7 c7] fun k72 r71=>∃A28 l28 c28,some (slice A28 l28 c28)=some r71∧
 Cl k72 189 #[int .u64 6] fun k74 r73=>∃A29 l29 c29,some (slice A29 l29 c29)=some r73∧
 Cl k74 108 #[slice A28 l28 c28,slice A29 l29 c29] fun k76 r75=>∃A30 l30 c30,some (slice A30 l30 c30)=some r75∧
 Cl k76 230 #[slice A30 l30 c30,int .i64 (wrap .i64 (2*n9))] fun k78 r77=>∃A31 l31 c31,some (slice A31 l31 c31)=some r77∧
 Cl k78 311 #[slice A31 l31 c31] fun k80 r79=>∃A32 l32 c32,some (slice A32 l32 c32)=some r79∧
 Cl k80 171 #[bool b6,slice A32 l32 c32] fun k82 r81=>∃b33,∃A34 l34 c34,some (agg #[bool b33,slice A34 l34 c34])=some r81∧
 Cl k82 189 #[int .u64 1] fun k84 r83=>∃A35 l35 c35,some (slice A35 l35 c35)=some r83∧
 Cl k84 190 #[slice A32 l32 c32,slice A35 l35 c35] fun k86 r85=>∃A36 l36 c36,some (slice A36 l36 c36)=some r85∧
 Cl k86 171 #[bool b6,slice A36 l36 c36] fun k88 r87=>∃b37,∃A38 l38 c38,some (agg #[bool b37,slice A38 l38 c38])=some r87∧
 Br b6 (Cl k88 106 #[agg #[bool b24,slice A25 l25 c25],agg #[bool b37,slice A38 l38 c38]] fun k90 r89=>∃b39,∃A40 l40 c40,some (agg #[bool b39,slice A40 l40 c40])=some r89∧
 Cl k90 106 #[agg #[bool b26,slice A27 l27 c27],agg #[bool b33,slice A34 l34 c34]] fun k92 r91=>∃b41,∃A42 l42 c42,some (agg #[bool b41,slice A42 l42 c42])=some r91∧
 ∀k93,Up k92 k93→J70 k93 [agg #[bool b39,slice A40 l40 c40],agg #[bool b41,slice A42 l42 c42]]) (Cl k88 106 #[agg #[bool b24,slice A25 l25 c25],agg #[bool b33,slice A34 l34 c34]] fun k95 r94=>∃b39,∃A40 l40 c40,some (agg #[bool b39,slice A40 l40 c40])=some r94∧
 Cl k95 106 #[agg #[bool b26,slice A27 l27 c27],agg #[bool b37,slice A38 l38 c38]] fun k97 r96=>∃b41,∃A42 l42 c42,some (agg #[bool b41,slice A42 l42 c42])=some r96∧
 ∀k98,Up k97 k98→J70 k98 [agg #[bool b39,slice A40 l40 c40],agg #[bool b41,slice A42 l42 c42]]))))∧
 ∀k99 vs99,Up k69 k99→J70 k99 vs99→∃b28,∃A29 l29 c29,∃b30,∃A31 l31 c31,some [agg #[bool b28,slice A29 l29 c29],agg #[bool b30,slice A31 l31 c31]]=some vs99∧
 Cl k99 104 #[slice A8 l8 c8] fun k101 r100=>∃A32 l32 c32,some (slice A32 l32 c32)=some r100∧
 Cl k101 230 #[slice A32 l32 c32,int .i64 n9] fun k103 r102=>∃A33 l33 c33,some (slice A33 l33 c33)=some r102∧
 Cl k103 146 #[agg #[bool b28,slice A29 l29 c29],slice A33 l33 c33] fun k105 r104=>Gt 3 r104 fun cs34=>
 Cl k105 146 #[agg #[bool b30,slice A31 l31 c31],slice A33 l33 c33] fun k107 r106=>Gt 3 r106 fun cs35=>
 Rt R k107 (tuple #[agg cs34,agg cs35])) :
  CallsG Tryz.prog 251 #[agg #[bool b0,slice A1 l1 c1,bool b2,slice A3 l3 c3,bool b4,slice A5 l5 c5,bool b6,slice A7 l7 c7,slice A8 l8 c8],int .i64 n9] k R:=
  qY { opq:=[88],meets:=[(1,[.blk 3 [.bool,.slice],.blk 4 [.bool,.slice]])] } h
theorem aMa (hcs0:Seg 9 cs0) (hcs1:Seg 3 cs1)
 (h:Cl k 250 #[agg cs0] fun k1 r0=>∃cs2,Seg 3 cs2∧∃b3,some (tuple #[agg cs2,bool b3])=some r0∧
 Br b3 (Cl k1 145 #[agg cs1,agg cs2] fun k3 r2=>∃n4:Nat,some (Value.float .f64 n4)=some r2∧
 Rt R k3 (Value.float .f64 n4)) (∃I5:Nat→World→List Value→Prop,(∃m5,∀k5,Up k1 k5→I5 m5 k5 [int .i64 64])∧
 ∀m5 k5 vs5,Up k1 k5→I5 m5 k5 vs5→∃n4,some [int .i64 n4]=some vs5∧
 Cl k5 251 #[agg cs0,int .i64 n4] fun k7 r6=>∃cs5,Seg 3 cs5∧∃cs6,Seg 3 cs6∧some (tuple #[agg cs5,agg cs6])=some r6∧
 Cl k7 145 #[agg cs1,agg cs5] fun k9 r8=>∃n7:Nat,some (Value.float .f64 n7)=some r8∧
 Cl k9 145 #[agg cs1,agg cs6] fun k11 r10=>∃n8:Nat,some (Value.float .f64 n8)=some r10∧
 Br (Ieee.Format.order (FloatKind.format .f64) n7 n8 == some Ordering.eq) (Rt R k11 (Value.float .f64 n7)) (∀k13,Up k11 k13→∃m,m<m5∧I5 m k13 [int .i64 (wrap .i64 (n4*2))]))) :
  CallsG Tryz.prog 161 #[agg cs0,agg cs1] k R:=
  qX { opq:=[88,35,308],loops:=[(0,[.tmp 7 false [.int .i64]])] } [.agg [.seg 0 9],.agg [.seg 1 3]] [agg cs0,agg cs1] [.seg 9,.seg 3] ⟨⟨cs0,rfl,hcs0⟩,⟨cs1,rfl,hcs1⟩,trivial⟩ h
theorem aLz (hcs0:Seg 9 cs0)
 (h:Cl k 249 #[] fun k1 r0=>∃n1,∃n2,∃n3,some (agg #[int .i64 n1,int .i64 n2,int .i64 n3])=some r0∧
 Cl k1 161 #[agg cs0,agg #[int .i64 n1,int .i64 n2,int .i64 n3]] fun k3 r2=>∃n4:Nat,some (Value.float .f64 n4)=some r2∧
 Rt R k3 (Value.float .f64 n4)) :
  CallsG Tryz.prog 160 #[agg cs0] k R:=
  qX { opq:=[35] } [.agg [.seg 0 9]] [agg cs0] [.seg 9] ⟨⟨cs0,rfl,hcs0⟩,trivial⟩ h
theorem aLf (hcs0:Seg 3 cs0) (hcs1:Seg 3 cs1) (hcs2:Seg 3 cs2) (hcs3:Seg 3 cs3)
 (h:∃J0:World→List Value→Prop,(Cl k 162 #[agg cs1] fun k1 r0=>Gb r0 fun b7=>
 Br b7 (Cl k1 162 #[agg cs2] fun k3 r2=>Gb r2 fun b8=>
 Br b8 (Cl k3 162 #[agg cs3] fun k5 r4=>Gb r4 fun b9=>
 ∀k6,Up k5 k6→J0 k6 [bool b9]) (∀k7,Up k3 k7→J0 k7 [bool false])) (∀k8,Up k1 k8→J0 k8 [bool false]))∧
 ∀k9 vs9,Up k k9→J0 k9 vs9→∃b7,some [bool b7]=some vs9∧
 Br b7 (Cl k9 163 #[agg cs0,int .i64 n4,int .i64 n5,int .i64 n6] fun k11 r10=>∃n8:Nat,some (Value.float .f64 n8)=some r10∧
 Rt R k11 (Value.float .f64 n8)) (∃I13:Nat→World→List Value→Prop,(∃m13,∀k13,Up k9 k13→I13 m13 k13 [int .i64 64])∧
 ∀m13 k13 vs13,Up k9 k13→I13 m13 k13 vs13→∃n8,some [int .i64 n8]=some vs13∧
 Cl k13 164 #[Rg cs0 cs1 cs2 cs3,int .i64 n8] fun k15 r14=>∃cs9,Seg 3 cs9∧∃cs10,Seg 3 cs10∧some (tuple #[agg cs9,agg cs10])=some r14∧
 Cl k15 163 #[agg cs9,int .i64 n4,int .i64 n5,int .i64 n6] fun k17 r16=>∃n11:Nat,some (Value.float .f64 n11)=some r16∧
 Cl k17 163 #[agg cs10,int .i64 n4,int .i64 n5,int .i64 n6] fun k19 r18=>∃n12:Nat,some (Value.float .f64 n12)=some r18∧
 Br (Ieee.Format.order (FloatKind.format .f64) n11 n12 == some Ordering.eq) (Rt R k19 (Value.float .f64 n11)) (∀k21,Up k19 k21→∃m,m<m13∧I13 m k21 [int .i64 (wrap .i64 (2*n8))]))) :
  CallsG Tryz.prog 75 #[Rg cs0 cs1 cs2 cs3,int .i64 n4,int .i64 n5,int .i64 n6] k R:=
  qX { opq:=[42],loops:=[(0,[.tmp 9 false [.int .i64]])],joins:=[(1,[.tmp 26 false [.bool]])] } [.agg [.seg 0 3,.seg 1 3,.seg 2 3,.seg 3 3],.one (.var 4),.one (.var 5),.one (.var 6)] [agg cs0,agg cs1,agg cs2,agg cs3,int .i64 n4,int .i64 n5,int .i64 n6] [.seg 3,.seg 3,.seg 3,.seg 3,.int .i64,.int .i64,.int .i64] ⟨⟨cs0,rfl,hcs0⟩,⟨cs1,rfl,hcs1⟩,⟨cs2,rfl,hcs2⟩,⟨cs3,rfl,hcs3⟩,⟨_,rfl⟩,⟨_,rfl⟩,⟨_,rfl⟩,trivial⟩ h
theorem aLe (hcs0:Seg 12 cs0)
 (h:Cl k 75 #[agg cs0,int .i64 53,int .i64 (-1074),int .i64 1023] fun k1 r0=>∃n1:Nat,some (Value.float .f64 n1)=some r0∧
 Rt R k1 (Value.float .f64 n1)) :
  CallsG Tryz.prog 74 #[agg cs0] k R:=
  qX { opq:=[44] } [.agg [.seg 0 12]] [agg cs0] [.seg 12] ⟨⟨cs0,rfl,hcs0⟩,trivial⟩ h
end Go.Proofs.YtifcjpacobpdmaaGreat

namespace Go.Proofs.YtifcjpacobpdmaaGreat
open IntKind (wrap)
open Go.RowKit
open Value (agg slice int bool tuple)
open Sy (Up Sees CallsG Seg execFn_use)
set_option maxRecDepth 100000
variable {k:World}{R:World→Value→Prop}{A0:Option Addr}{c0 l0:Nat}{n0 n1 n4:Int}{cs0 cs1 cs2 cs3:Array Value}
theorem aOs 
 (h:Tt∧(Br (((l0:Nat):Int) == 0) (Rt R k (slice none 0 0)) (Cl k 252 #[slice A0 l0 c0] fun k2 r1=>Gi r1 fun n1=>
 ∀p2 k3,Up k2 k3→Sy.Blk k3 p2 64 #[int .u32 1]→
 Cl k3 227 #[slice (some ⟨p2,0,none⟩) 1 1,int .i64 (wrap .i64 (Int.tdiv (wrap .i64 (n1+1)) 2))] fun k5 r4=>∃A3 l3 c3,some (slice A3 l3 c3)=some r4∧
 ∃I6:Nat→World→List Value→Prop,(∃m6,∀k6,Up k5 k6→I6 m6 k6 [slice A3 l3 c3])∧
 ∀m6 k6 vs6,Up k5 k6→I6 m6 k6 vs6→∃A4 l4 c4,some [slice A4 l4 c4]=some vs6∧
 Cl k6 261 #[slice A0 l0 c0,slice A4 l4 c4] fun k8 r7=>∃A5 l5 c5,∃A6 l6 c6,some (tuple #[slice A5 l5 c5,slice A6 l6 c6])=some r7∧
 Cl k8 177 #[slice A4 l4 c4,slice A5 l5 c5] fun k10 r9=>∃A7 l7 c7,some (slice A7 l7 c7)=some r9∧
 Cl k10 314 #[slice A7 l7 c7,int .i64 1] fun k12 r11=>∃A8 l8 c8,some (slice A8 l8 c8)=some r11∧
 Cl k12 178 #[slice A8 l8 c8,slice A4 l4 c4] fun k14 r13=>Gi r13 fun n9=>
 Br (decide ((n9:Int) ≥ 0)) (Rt R k14 (slice A4 l4 c4)) (∀k16,Up k14 k16→∃m,m<m6∧I6 m k16 [slice A8 l8 c8])))) :
  CallsG Tryz.prog 313 #[slice A0 l0 c0] k R:=
  qY { opq:=[],loops:=[(0,[.tmp 3 false [.slice]])] } h
theorem aQm 
 (h:Cl k 174 #[int .u64 n0] fun k1 r0=>∃A2 l2 c2,some (slice A2 l2 c2)=some r0∧
 Cl k1 227 #[slice A2 l2 c2,int .i64 (wrap .i64 (2*n1))] fun k3 r2=>∃A3 l3 c3,some (slice A3 l3 c3)=some r2∧
 Cl k3 313 #[slice A3 l3 c3] fun k5 r4=>∃A4 l4 c4,some (slice A4 l4 c4)=some r4∧
 ∀p5 k6,Up k5 k6→Sy.Blk k6 p5 64 #[int .u32 1]→
 Cl k6 227 #[slice (some ⟨p5,0,none⟩) 1 1,int .i64 n1] fun k8 r7=>∃A6 l6 c6,some (slice A6 l6 c6)=some r7∧
 Cl k8 173 #[bool false,slice A4 l4 c4,slice A6 l6 c6] fun k10 r9=>Gt 3 r9 fun cs7=>
 Rt R k10 (agg cs7)) :
  CallsG Tryz.prog 257 #[int .u64 n0,int .i64 n1] k R:=
  qY { opq:=[42] } h
theorem aLd 
 (h:Br (decide ((n0:Int)<0)) (∀p1 k0,Up k k0→Sy.Blk k0 p1 64 #[int .u32 1]→
 Cl k0 227 #[slice (some ⟨p1,0,none⟩) 1 1,int .i64 (wrap .i64 (0-n0))] fun k2 r1=>∃A2 l2 c2,some (slice A2 l2 c2)=some r1∧
 ∀p3 k3,Up k2 k3→Sy.Blk k3 p3 64 #[int .u32 1]→
 Cl k3 173 #[bool false,slice (some ⟨p3,0,none⟩) 1 1,slice A2 l2 c2] fun k5 r4=>Gt 3 r4 fun cs4=>
 Rt R k5 (agg cs4)) (Cl k 294 #[int .i64 n0] fun k8 r7=>Gt 3 r7 fun cs1=>
 Rt R k8 (agg cs1))) :
  CallsG Tryz.prog 253 #[int .i64 n0] k R:=
  qY { opq:=[42] } h
theorem aEs (hcs0:Seg 3 cs0) (hcs1:Seg 3 cs1) (hcs2:Seg 3 cs2) (hcs3:Seg 3 cs3)
 (h:∀p5 k0,Up k k0→Sy.Blk k0 p5 59 #[int .u64 1,int .u64 2,int .u64 3,int .u64 6]→
 ∃A6 l6 c6,some (slice (some ⟨p5,0,none⟩) 4 4)=some (slice A6 l6 c6)∧
 Cl k0 253 #[int .i64 (wrap .i64 (0-n4))] fun k2 r1=>Gt 3 r1 fun cs7=>
 Ad A6∧((0:Int)≤1∧(1:Int)<(l6:Nat))∧
 ∃n8,Sy.ReadAt k2.cell? A6 (Int.toNat 1*1+0) 1 (int .u64 n8)∧
 Cl k2 257 #[int .u64 n8,int .i64 n4] fun k4 r3=>Gt 3 r3 fun cs9=>
 Cl k4 258 #[agg cs1,agg cs9] fun k6 r5=>Gt 3 r5 fun cs10=>
 Cl k6 90 #[agg cs9,agg cs7] fun k8 r7=>Gt 3 r7 fun cs11=>
 Cl k8 258 #[agg cs1,agg cs11] fun k10 r9=>Gt 3 r9 fun cs12=>
 Cl k10 182 #[agg cs1] fun k12 r11=>Gi r11 fun n13=>
 Br (decide ((n13:Int)<0)) (Cl k12 90 #[agg cs0,agg cs12] fun k14 r13=>Gt 3 r13 fun cs14=>
 Cl k14 90 #[agg cs0,agg cs10] fun k16 r15=>Gt 3 r15 fun cs15=>
 Ad A6∧((0:Int)≤2∧(2:Int)<(l6:Nat))∧
 ∃n16,Sy.ReadAt k16.cell? A6 (Int.toNat 2*1+0) 1 (int .u64 n16)∧
 Cl k16 257 #[int .u64 n16,int .i64 n4] fun k18 r17=>Gt 3 r17 fun cs17=>
 Cl k18 258 #[agg cs2,agg cs17] fun k20 r19=>Gt 3 r19 fun cs18=>
 Cl k20 90 #[agg cs17,agg cs7] fun k22 r21=>Gt 3 r21 fun cs19=>
 Cl k22 258 #[agg cs2,agg cs19] fun k24 r23=>Gt 3 r23 fun cs20=>
 Cl k24 182 #[agg cs2] fun k26 r25=>Gi r25 fun n21=>
 Br (decide ((n21:Int)<0)) (Cl k26 90 #[agg cs14,agg cs20] fun k28 r27=>Gt 3 r27 fun cs22=>
 Cl k28 90 #[agg cs15,agg cs18] fun k30 r29=>Gt 3 r29 fun cs23=>
 Ad A6∧((0:Int)≤3∧(3:Int)<(l6:Nat))∧
 ∃n24,Sy.ReadAt k30.cell? A6 (Int.toNat 3*1+0) 1 (int .u64 n24)∧
 Cl k30 257 #[int .u64 n24,int .i64 n4] fun k32 r31=>Gt 3 r31 fun cs25=>
 Cl k32 258 #[agg cs3,agg cs25] fun k34 r33=>Gt 3 r33 fun cs26=>
 Cl k34 90 #[agg cs25,agg cs7] fun k36 r35=>Gt 3 r35 fun cs27=>
 Cl k36 258 #[agg cs3,agg cs27] fun k38 r37=>Gt 3 r37 fun cs28=>
 Cl k38 182 #[agg cs3] fun k40 r39=>Gi r39 fun n29=>
 Br (decide ((n29:Int)<0)) (Cl k40 90 #[agg cs22,agg cs28] fun k42 r41=>Gt 3 r41 fun cs30=>
 Cl k42 90 #[agg cs23,agg cs26] fun k44 r43=>Gt 3 r43 fun cs31=>
 Rt R k44 (tuple #[agg cs30,agg cs31])) (Cl k40 90 #[agg cs22,agg cs26] fun k47 r46=>Gt 3 r46 fun cs30=>
 Cl k47 90 #[agg cs23,agg cs28] fun k49 r48=>Gt 3 r48 fun cs31=>
 Rt R k49 (tuple #[agg cs30,agg cs31]))) (Cl k26 90 #[agg cs14,agg cs18] fun k52 r51=>Gt 3 r51 fun cs22=>
 Cl k52 90 #[agg cs15,agg cs20] fun k54 r53=>Gt 3 r53 fun cs23=>
 Ad A6∧((0:Int)≤3∧(3:Int)<(l6:Nat))∧
 ∃n24,Sy.ReadAt k54.cell? A6 (Int.toNat 3*1+0) 1 (int .u64 n24)∧
 Cl k54 257 #[int .u64 n24,int .i64 n4] fun k56 r55=>Gt 3 r55 fun cs25=>
 Cl k56 258 #[agg cs3,agg cs25] fun k58 r57=>Gt 3 r57 fun cs26=>
 Cl k58 90 #[agg cs25,agg cs7] fun k60 r59=>Gt 3 r59 fun cs27=>
 Cl k60 258 #[agg cs3,agg cs27] fun k62 r61=>Gt 3 r61 fun cs28=>
 Cl k62 182 #[agg cs3] fun k64 r63=>Gi r63 fun n29=>
 Br (decide ((n29:Int)<0)) (Cl k64 90 #[agg cs22,agg cs28] fun k66 r65=>Gt 3 r65 fun cs30=>
 Cl k66 90 #[agg cs23,agg cs26] fun k68 r67=>Gt 3 r67 fun cs31=>
 Rt R k68 (tuple #[agg cs30,agg cs31])) (Cl k64 90 #[agg cs22,agg cs26] fun k71 r70=>Gt 3 r70 fun cs30=>
 Cl k71 90 #[agg cs23,agg cs28] fun k73 r72=>Gt 3 r72 fun cs31=>
 Rt R k73 (tuple #[agg cs30,agg cs31])))) (Cl k12 90 #[agg cs0,agg cs10] fun k76 r75=>Gt 3 r75 fun cs14=>
 Cl k76 90 #[agg cs0,agg cs12] fun k78 r77=>Gt 3 r77 fun cs15=>
 Ad A6∧((0:Int)≤2∧(2:Int)<(l6:Nat))∧
 ∃n16,Sy.ReadAt k78.cell? A6 (Int.toNat 2*1+0) 1 (int .u64 n16)∧
 Cl k78 257 #[int .u64 n16,int .i64 n4] fun k80 r79=>Gt 3 r79 fun cs17=>
 Cl k80 258 #[agg cs2,agg cs17] fun k82 r81=>Gt 3 r81 fun cs18=>
 Cl k82 90 #[agg cs17,agg cs7] fun k84 r83=>Gt 3 r83 fun cs19=>
 Cl k84 258 #[agg cs2,agg cs19] fun k86 r85=>Gt 3 r85 fun cs20=>
 Cl k86 182 #[agg cs2] fun k88 r87=>Gi r87 fun n21=>
 Br (decide ((n21:Int)<0)) (Cl k88 90 #[agg cs14,agg cs20] fun k90 r89=>Gt 3 r89 fun cs22=>
 Cl k90 90 #[agg cs15,agg cs18] fun k92 r91=>Gt 3 r91 fun cs23=>
 Ad A6∧((0:Int)≤3∧(3:Int)<(l6:Nat))∧
 ∃n24,Sy.ReadAt k92.cell? A6 (Int.toNat 3*1+0) 1 (int .u64 n24)∧
 Cl k92 257 #[int .u64 n24,int .i64 n4] fun k94 r93=>Gt 3 r93 fun cs25=>
 Cl k94 258 #[agg cs3,agg cs25] fun k96 r95=>Gt 3 r95 fun cs26=>
 Cl k96 90 #[agg cs25,agg cs7] fun k98 r97=>Gt 3 r97 fun cs27=>
 Cl k98 258 #[agg cs3,agg cs27] fun k100 r99=>Gt 3 r99 fun cs28=>
 Cl k100 182 #[agg cs3] fun k102 r101=>Gi r101 fun n29=>
 Br (decide ((n29:Int)<0)) (Cl k102 90 #[agg cs22,agg cs28] fun k104 r103=>Gt 3 r103 fun cs30=>
 Cl k104 90 #[agg cs23,agg cs26] fun k106 r105=>Gt 3 r105 fun cs31=>
 Rt R k106 (tuple #[agg cs30,agg cs31])) (Cl k102 90 #[agg cs22,agg cs26] fun k109 r108=>Gt 3 r108 fun cs30=>
 Cl k109 90 #[agg cs23,agg cs28] fun k111 r110=>Gt 3 r110 fun cs31=>
 Rt R k111 (tuple #[agg cs30,agg cs31]))) (Cl k88 90 #[agg cs14,agg cs18] fun k114 r113=>Gt 3 r113 fun cs22=>
 Cl k114 90 #[agg cs15,agg cs20] fun k116 r115=>Gt 3 r115 fun cs23=>
 Ad A6∧((0:Int)≤3∧(3:Int)<(l6:Nat))∧
 ∃n24,Sy.ReadAt k116.cell? A6 (Int.toNat 3*1+0) 1 (int .u64 n24)∧
 Cl k116 257 #[int .u64 n24,int .i64 n4] fun k118 r117=>Gt 3 r117 fun cs25=>
 Cl k118 258 #[agg cs3,agg cs25] fun k120 r119=>Gt 3 r119 fun cs26=>
 Cl k120 90 #[agg cs25,agg cs7] fun k122 r121=>Gt 3 r121 fun cs27=>
 Cl k122 258 #[agg cs3,agg cs27] fun k124 r123=>Gt 3 r123 fun cs28=>
 Cl k124 182 #[agg cs3] fun k126 r125=>Gi r125 fun n29=>
 Br (decide ((n29:Int)<0)) (Cl k126 90 #[agg cs22,agg cs28] fun k128 r127=>Gt 3 r127 fun cs30=>
 Cl k128 90 #[agg cs23,agg cs26] fun k130 r129=>Gt 3 r129 fun cs31=>
 Rt R k130 (tuple #[agg cs30,agg cs31])) (Cl k126 90 #[agg cs22,agg cs26] fun k133 r132=>Gt 3 r132 fun cs30=>
 Cl k133 90 #[agg cs23,agg cs28] fun k135 r134=>Gt 3 r134 fun cs31=>
 Rt R k135 (tuple #[agg cs30,agg cs31]))))) :
  CallsG Tryz.prog 164 #[Rg cs0 cs1 cs2 cs3,int .i64 n4] k R:=
  qX { opq:=[42] } [.agg [.seg 0 3,.seg 1 3,.seg 2 3,.seg 3 3],.one (.var 4)] [agg cs0,agg cs1,agg cs2,agg cs3,int .i64 n4] [.seg 3,.seg 3,.seg 3,.seg 3,.int .i64] ⟨⟨cs0,rfl,hcs0⟩,⟨cs1,rfl,hcs1⟩,⟨cs2,rfl,hcs2⟩,⟨cs3,rfl,hcs3⟩,⟨_,rfl⟩,trivial⟩ h
end Go.Proofs.YtifcjpacobpdmaaGreat

namespace Go.Proofs.YtifcjpacobpdmaaGreat.W32
open IntKind (wrap)
open Go.RowKit Num
open Sy (Up Sees CallsG Seg)
theorem bAx (x p:Nat):4*(p*x)≤(x+p)*(x+p):=by
 rcases Nat.le_total x p with h|h
 ·obtain⟨d,rfl⟩:=Nat.exists_eq_add_of_le h;have e:(x+(x+d))*(x+(x+d))=4*((x+d)*x)+d*d:=by grind
  omega
 ·obtain⟨d,rfl⟩:=Nat.exists_eq_add_of_le h;have e:(p+d+p)*(p+d+p)=4*(p*(p+d))+d*d:=by grind
  omega
theorem newton_lo {a x:Nat}(hx:0<x):a<((x+a/x) / 2+1)*((x+a/x) / 2+1):=by
 have hq:a<(a/x+1)*x:=by rw [ol];exact Nat.lt_mul_div_succ a hx
 generalize a/x=q at hq ⊢;generalize hy:(x+q) / 2=y;have h1:x+(q+1)≤2*(y+1):=oq
 have h2:=bAx x (q+1);have h3:=vo h1 h1;have h4:2*(y+1)*(2*(y+1))=4*((y+1)*(y+1)):=by grind
 omega
theorem newton_stop {a x:Nat}(hx:0<x) (h:x≤(x+a/x) / 2):x*x≤a:=by
 have hq:x≤a/x:=oq
 exact (zz hx).1 hq
section
variable {k k':World}{A A':Option Addr}{n c m n' c' m' a b l l':Nat}{cs cs':Array Value}{R:World→Value→Prop}{x y q:Rat}{K L:Nat}
theorem aJb {b:Nat}(hb:b≤1000000000000):wrap .i64 (Int.tdiv (wrap .i64 ((b:Nat)+1)) 2)=(((b+1) / 2:Nat):Int):=by
 have h1:wrap .i64 (((b:Nat):Int)+1)=((b+1:Nat):Int):=by rw [qk];omega
 rw [h1,Int.tdiv_eq_ediv_of_nonneg oq,qk];omega
theorem bAb (h:NatN k A n c a) (hn:n≤10000000000) (C:∀k' A c r,Up k k'→r*r≤a→a<(r+1)*(r+1)→NatN k' A (nw r) c r→R k' (.slice A (nw r) c)) :
 Cl k 313 #[.slice A n c] R:=by
 intro k0 u0;replace h:=h.up u0;replace C:=fun k' A c r u=>C k' A c r (u0.trans u);refine aOs ⟨rfl,fun h0=>fun k1 u1=>?_,fun h0=>?_⟩
 ·have hn0:n=0:=by have:=eq_of_beq h0;omega
  have ha:=h.zero.1 hn0;have:=C k1 none 0 0 u1 oq oq (by rw [nw_zero];exact NatN.none k1);rw [nw_zero]at this;exact this
 ·have hn0:n≠0:=fun e=>by rw [e]at h0;exact absurd h0 oz
  have ha:0<a:=jc fun e=>hn0 (h.zero.2 e);have hlt:a<2^(32*n):=by
   have:=h.1.lt;rw [kF,←ze]at this;exact this
  have hbl:bl a≤32*n:=bZ.2 hlt;refine iO h oq fun k2 u2=>⟨_,rfl,?_⟩;intro p k3 u3 hp;rw [aJb oq];refine fU (k:=k3) (s:=(bl a+1) / 2) (eG hp) oz oq fun k5 A3 c3 u5 h3=>⟨A3,_,c3,rfl,?_⟩;have hx0:a<2^((bl a+1) / 2)*2^((bl a+1) / 2):=by
   rw [←oi];exact ob (dR a) (om oz oq)
  have hX:nw (1*2^((bl a+1) / 2))≤n+1:=by
   refine aF ?_;rw [jw,kF,←ze];exact zn oz oq
  generalize hXe:1*2^((bl a+1) / 2)=X at h3 hX;have hXX:2^((bl a+1) / 2)=X:=by rw [←hXe,jw]
  rw [hXX]at hx0;have hXp:0<X:=by rw [←hXX];exact oo oz
  clear hXe hXX;replace h:=((h.up u2).up u3).up u5;replace C:=fun k' A c r u=>C k' A c r (((u2.trans u3).trans u5).trans u);refine⟨fun m k' vs=>∃A x c,m=x∧vs=[.slice A (nw x) c]∧NatN k' A (nw x) c x∧0<x∧a<(x+1)*(x+1)∧x≤X,⟨X,fun k' u=>⟨A3,X,c3,rfl,rfl,h3.up u,hXp,xc hx0 (xb oq oq),oy _⟩⟩,?_⟩;rintro m k6 vs u6 ⟨A4,x,c4,rfl,rfl,hx,hx0,hxa,hxX⟩;have hnx:=aJ hxX;refine⟨A4,_,c4,rfl,?_⟩;refine gZ (h.up u6) hx oq oq hx0 fun k8 A5 c5 A6 c6 u8 hq hr=>⟨A5,_,c5,A6,_,c6,rfl,?_⟩;have hnq:=aJ (jo a m);have hna:=h.2;refine aRh (K:=n+1) (hx.1.up u8) hq.1 oq oq oq fun k10 A7 c7 u10 hs hsl=>⟨A7,_,c7,rfl,?_⟩;refine vU (s:=1) hs oq oq fun k12 A8 c8 u12 hl=>⟨A8,_,c8,rfl,?_⟩;have hny:=aJ (jo (m+a/m) (2^1));refine jP hl (((hx.up u8).up u10).up u12) oq oq fun k14 u14=>⟨_,rfl,fun ho=>?_,fun ho=>?_⟩
  ·have ho:=aPe ho;intro k15 u15;have v:=(((u8.trans u10).trans u12).trans u14).trans u15;exact C k15 A4 c4 m (u6.trans v) (newton_stop hx0 ho) hxa (hx.up v)
  ·have ho:=aGy ho;intro k16 u16;have hlo:=newton_lo (a:=a) hx0;refine⟨_,ho,A8,_,c8,rfl,rfl,(hl.up u14).up u16,?_,hlo,oq⟩;refine jc fun e=>?_;have e:(m+a/m) / 2=0:=e;rw [e]at hlo;omega
end
open Go.RowKit Num Plain
section
variable {k k':World}{A A':Option Addr}{n c m n' c' m' a b l l':Nat}{cs cs' c0 c1:Array Value}{R:World→Value→Prop}{x y q p r lo hi:Rat}{K L M:Nat}{v v':Q4}
theorem wH (s:Nat):nw (1*2^s)≤s/32+1:=by
 refine aF ?_;rw [jw,kF,←ze];exact zn oz oq
def aDn (n kk:Nat) (q:Rat):Prop:=∃r:Nat,q=(r:Rat) / ((2^kk:Nat):Rat)∧r*r≤n*2^(2*kk)∧n*2^(2*kk)<(r+1)*(r+1)
theorem aWc {n kk:Nat}(hn:n≤6) (hk:kk≤1000000000) (C:∀k' ds q,Up k k'→aDn n kk q→QV k' ds q (kk/32+2)→R k' (.agg ds)) :
 Cl k 257 #[.int .u64 (n:Int),.int .i64 (kk:Int)] R:=by
 intro k0 u0;have w1:wrap .i64 (2*(kk:Int))=((2*kk:Nat):Int):=by rw [qk];omega
 refine aQm (aAv (x:=n) oq fun k1 A1 c1 u1 h1=>⟨A1,_,c1,rfl,?_⟩);have hn1:nw n≤1:=aF (by rw [kF];omega);rw [w1];refine fU h1 oq oq fun k3 A3 c3 u3 h3=>⟨A3,_,c3,rfl,?_⟩;have hb:n*2^(2*kk)<2^(2*kk+3):=by
  rw [oi,ol];exact Nat.mul_lt_mul_of_pos_left oq (oo oz)
 have hn3:nw (n*2^(2*kk))≤kk/16+2:=by
  refine aF (ob hb ?_);rw [kF,←ze];exact om oz oq
 refine bAb h3 oq fun k5 A5 c5 r u5 r1 r2 h5=>⟨A5,_,c5,rfl,?_⟩;intro p k6 u6 hp;refine fU (k:=k6) (s:=kk) (eG hp) oz oq fun k8 A8 c8 u8 h8=>⟨A8,_,c8,rfl,?_⟩;have hr:r<2^(kk+2):=by
  refine vr fun hle=>?_;have h:=vo hle hle;rw [←oi]at h;have h2:2^(2*kk+3)≤2^(kk+2+(kk+2)):=om oz oq;omega
 have hnr:nw r≤kk/32+2:=by
  refine aF (ob hr ?_);rw [kF,←ze];exact om oz oq
 have hnp:=wH kk;refine eR (K:=kk/32+2) ((h5.up u6).up u8) h8 (by rw [jw];exact oo oz) hnr oq oq (q:=(r:Rat) / ((2^kk:Nat):Rat)) ?_ fun k10 b A l c A' l' c' u10 hQ f1 f2=>⟨_,(QV.mk1 hQ f1 f2).seg,rfl,fun k11 u11=>C k11 _ _ (((((((u0.trans u1).trans u3).trans u5).trans u6).trans u8).trans u10).trans u11) ⟨r,rfl,r1,r2⟩ (QV.mk1 (hQ.up u11) f1 f2)⟩;rw [jw,ji];rfl
theorem aVr {kk:Nat}(hk1:0<kk) (hk:kk≤1000000000) (C:∀k' ds,Up k k'→QV k' ds (1/((2^kk:Nat):Rat)) (kk/32+2)→R k' (.agg ds)) :
 Cl k 253 #[.int .i64 (-(kk:Int))] R:=by
 intro k0 u0;have w1:wrap .i64 (0 - -(kk:Int))=(kk:Int):=by rw [qk];omega
 refine aLd ⟨fun _=>?_,fun h=>absurd (ov h) oq⟩;intro p k1 u1 hp;rw [w1];refine fU (k:=k1) (s:=kk) (eG hp) oz oq fun k2 A2 c2 u2 h2=>⟨A2,_,c2,rfl,?_⟩;intro p3 k3 u3 hp3;have hnp:=wH kk;refine eR (k:=k3) (K:=kk/32+2) (eG hp3) (h2.up u3) (by rw [jw];exact oo oz) oq oq oq (q:=1/((2^kk:Nat):Rat)) ?_ fun k10 b A l c A' l' c' u10 hQ f1 f2=>⟨_,(QV.mk1 hQ f1 f2).seg,rfl,fun k11 u11=>C k11 _ (((((u0.trans u1).trans u2).trans u3).trans u10).trans u11) (QV.mk1 (hQ.up u11) f1 f2)⟩;rw [jw,ji];rfl
theorem sG {w:Q4}{n kk:Nat}(hw:C.sg w.toQ=1) (hs:w.mul w=Q4.real ((n:Nat):Rat)) (h:aDn n kk q):Apx w q (q+1/((2^kk:Nat):Rat)):=by
 obtain⟨r,rfl,h1,h2⟩:=h;have hP:(0:Rat)<((2^kk:Nat):Rat):=zu.2 (oo oz);have e1:2^(2*kk)=2^kk*2^kk:=by rw [←oi];congr 1;omega
 rw [e1]at h1 h2;have h1:=vp.2 h1;have h2:=vp.2 (kz h2);rw [je,je,je]at h1;rw [je,je,je,Rat.natCast_add,show ((1:Nat):Rat)=1 from rfl]at h2;have hr:(0:Rat)≤(r:Rat):=Rat.natCast_nonneg;generalize ((2^kk:Nat):Rat)=P at *
 generalize (r:Rat)=r at *
 generalize (n:Rat)=n at *
 have hi:(0:Rat)<P⁻¹:=Rat.inv_pos.2 hP;have hPi:P*P⁻¹=1:=Rat.mul_inv_cancel _ (by grind);rw [ky,ky,Rat.one_mul];generalize P⁻¹=i at *
 have hii:0≤i*i:=xr (uw hi hi);have h3:=zw h1 hii;have h4:=zw h2 hii;have e2:n*(P*P)*(i*i)=n:=by
  have:n*(P*P)*(i*i)=n*((P*i)*(P*i)):=by grind
  rw [this,hPi];grind
 rw [e2]at h3 h4;refine⟨aHd hw hs (Rat.mul_nonneg hr (xr hi)) ?_,yL hw hs ?_ ?_⟩
 ·grind
 ·have:=Rat.mul_nonneg hr (xr hi)
  grind
 ·grind
theorem rneg {q:Rat}:q.num<0↔q<0:=by rw [←Int.not_le,kj,Rat.not_le]
theorem bAi {q:Rat}:q.num.sign<0↔q<0:=by
 rw [←rneg];rcases Int.lt_trichotomy q.num 0 with h|h|h
 ·rw [xu h];exact⟨fun _=>h,fun _=>oz⟩
 ·rw [h];exact Iff.rfl
 ·rw [vu h];exact⟨fun h=>absurd h oz,fun h=>oq⟩
theorem aGv (p:Rat):(decide (p.num.sign<0))=decide (p<0):=decide_eq_decide.2 bAi
theorem bstep {Q:World→Array Value→Array Value→Prop}{B:Option Addr}{l6 i n kk:Nat}{cx c7:Array Value}(hA:∃b o,B=some ⟨b,o,none⟩) (hi6:i<l6) (hrd:∀k',Up k k'→Sy.ReadAt k'.cell? B (Int.toNat (i:Int)*1+0) 1 (Value.int .u64 (n:Int)))
 (hn:n≤6) (hk:kk≤1000000000) (hx:QV k cx p K) (h7:QV k c7 (1/((2^kk:Nat):Rat)) (kk/32+2)) (h0:QV k c0 lo L) (h1:QV k c1 hi L) (hL:L≤1000000000) (hK:K≤1000000000)
 (C:∀k' d0 d1 r,Up k k'→aDn n kk r→QV k' d0 (lo+loT p r (r+1/((2^kk:Nat):Rat))) (L+K+kk/16+6)→QV k' d1 (hi+hiT p r (r+1/((2^kk:Nat):Rat))) (L+K+kk/16+6)→Q k' d0 d1) :
 (∃b o,B=some ⟨b,o,none⟩)∧((0:Int)≤(i:Int)∧(i:Int)<(l6:Nat))∧
 ∃n8,Sy.ReadAt k.cell? B (Int.toNat (i:Int)*1+0) 1 (Value.int .u64 n8)∧
 Cl k 257 #[Value.int .u64 n8,Value.int .i64 (kk:Int)] fun k4 r3=>Gt 3 r3 fun cs9=>
 Cl k4 258 #[Value.agg cx,Value.agg cs9] fun k6 r5=>Gt 3 r5 fun cs10=>
 Cl k6 90 #[Value.agg cs9,Value.agg c7] fun k8 r7=>Gt 3 r7 fun cs11=>
 Cl k8 258 #[Value.agg cx,Value.agg cs11] fun k10 r9=>Gt 3 r9 fun cs12=>
 Cl k10 182 #[Value.agg cx] fun k12 r11=>∃n13,some (Value.int .i64 n13)=some r11∧
 ((decide ((n13:Int)<0))=true→
 (Cl k12 90 #[Value.agg c0,Value.agg cs12] fun k14 r13=>Gt 3 r13 fun cs14=>
 Cl k14 90 #[Value.agg c1,Value.agg cs10] fun k16 r15=>Gt 3 r15 fun cs15=>Q k16 cs14 cs15))∧
 ((decide ((n13:Int)<0))=false→
 (Cl k12 90 #[Value.agg c0,Value.agg cs10] fun k76 r75=>Gt 3 r75 fun cs14=>
 Cl k76 90 #[Value.agg c1,Value.agg cs12] fun k78 r77=>Gt 3 r77 fun cs15=>Q k78 cs14 cs15)):=by
  refine⟨hA,⟨oq,oq⟩,(n:Int),hrd k (Up.refl k),?_⟩;refine aWc hn hk fun k1 d1 r u1 hr q1=>⟨d1,q1.seg,rfl,?_⟩;refine tG (hx.up u1) q1 oq fun k2 d2 u2 q2=>⟨d2,q2.seg,rfl,?_⟩;refine sF (q1.up u2) ((h7.up u1).up u2) oq fun k3 d3 u3 q3=>⟨d3,q3.seg,rfl,?_⟩;refine tG (((hx.up u1).up u2).up u3) q3 oq fun k4 d4 u4 q4=>⟨d4,q4.seg,rfl,?_⟩;have u14:=((u1.trans u2).trans u3).trans u4;refine aRd (hx.up u14) fun k5 u5=>⟨_,rfl,fun h=>?_,fun h=>?_⟩
  ·rw [aGv]at h;have hp:=ow h;refine sF ((h0.up u14).up u5) (q4.up u5) oq fun k6 d6 u6 q6=>⟨d6,q6.seg,rfl,?_⟩;refine sF (((h1.up u14).up u5).up u6) ((((q2.up u3).up u4).up u5).up u6) oq fun k7 d7 u7 q7=>⟨d7,q7.seg,rfl,?_⟩;refine C k7 d6 d7 r (((u14.trans u5).trans u6).trans u7) hr (((q6.up u7).cast ?_).mono oq) ((q7.cast ?_).mono oq)
   ·unfold loT;rw [og hp]
   ·unfold hiT;rw [og hp]
  ·rw [aGv]at h;have hp:=ov h;refine sF ((h0.up u14).up u5) (((q2.up u3).up u4).up u5) oq fun k6 d6 u6 q6=>⟨d6,q6.seg,rfl,?_⟩;refine sF (((h1.up u14).up u5).up u6) ((q4.up u5).up u6) oq fun k7 d7 u7 q7=>⟨d7,q7.seg,rfl,?_⟩;refine C k7 d6 d7 r (((u14.trans u5).trans u6).trans u7) hr (((q6.up u7).cast ?_).mono oq) ((q7.cast ?_).mono oq)
   ·unfold loT;rw [oh hp]
   ·unfold hiT;rw [oh hp]
theorem read64 {k:World}{p i n:Nat}(h:Sy.Blk k p 59 #[Value.int .u64 1,Value.int .u64 2,Value.int .u64 3,Value.int .u64 6]) (hv:(#[Value.int .u64 1,Value.int .u64 2,Value.int .u64 3,Value.int .u64 6]:Array Value)[i]?=some (Value.int .u64 (n:Int))) :
 ∀k',Up k k'→Sy.ReadAt k'.cell? (some ⟨p,0,none⟩) (Int.toNat (i:Int)*1+0) 1 (Value.int .u64 (n:Int)):=fun k' u=>by
 refine tQ rfl (p:=i) ?_ oq;unfold Sy.cellAt;simp only [jj,(h.up u).cell,hv];rfl
theorem aMo {kk:Nat}(hx:SQ k cs v K) (hk1:0<kk) (hk:kk≤1000000000) (hK:K≤100000000)
 (C:∀k' d0 d1 r2 r3 r6,Up k k'→Apx w2 r2 (r2+1/((2^kk:Nat):Rat))→Apx w3 r3 (r3+1/((2^kk:Nat):Rat))→Apx w6 r6 (r6+1/((2^kk:Nat):Rat))→
   QV k' d0 (loB v r2 (r2+1/((2^kk:Nat):Rat)) r3 (r3+1/((2^kk:Nat):Rat)) r6 (r6+1/((2^kk:Nat):Rat))) (4*K+3*(kk/16)+18)→
   QV k' d1 (hiB v r2 (r2+1/((2^kk:Nat):Rat)) r3 (r3+1/((2^kk:Nat):Rat)) r6 (r6+1/((2^kk:Nat):Rat))) (4*K+3*(kk/16)+18)→R k' (.tuple #[.agg d0,.agg d1])) :
 Cl k 164 #[.agg cs,.int .i64 (kk:Int)] R:=by
 intro k0 u0;obtain⟨c0,c1,c2,c3,rfl,h0,h1,h2,h3⟩:=hx.up u0;replace C:=fun k' d0 d1 r2 r3 r6 u=>C k' d0 d1 r2 r3 r6 (u0.trans u);refine aEs h0.seg h1.seg h2.seg h3.seg fun p5 k1 u1 hb=>⟨_,_,_,rfl,?_⟩;rw [show wrap .i64 (0-(kk:Int))=-(kk:Int) by rw [qk];omega];refine aVr hk1 hk fun k2 d2 u2 q2=>⟨d2,q2.seg,rfl,?_⟩;have v2:=u1.trans u2;replace C:=fun k' d0 d1 r2 r3 r6 u=>C k' d0 d1 r2 r3 r6 (v2.trans u);replace hb:=hb.up u2;replace h0:=h0.up v2;replace h1:=h1.up v2;replace h2:=h2.up v2;replace h3:=h3.up v2;clear u0 u1 u2 v2 hx;refine bstep (i:=1) (n:=2) ⟨_,_,rfl⟩ oz (read64 hb rfl) oz hk h1 q2 h0 h0 oq oq fun k4 e0 e1 r2 u4 a2 f0 f1=>?_;refine bstep (i:=2) (n:=3) ⟨_,_,rfl⟩ oz (read64 (hb.up u4) rfl) oz hk (h2.up u4) (q2.up u4) f0 f1 oq oq fun k5 e2 e3 r3 u5 a3 f2 f3=>?_;refine bstep (i:=3) (n:=6) ⟨_,_,rfl⟩ oz (read64 ((hb.up u4).up u5) rfl) oz hk ((h3.up u4).up u5) ((q2.up u4).up u5) f2 f3 oq oq fun k6 e4 e5 r6 u6 a6 f4 f5=>fun k7 u7=>?_;exact C k7 e4 e5 r2 r3 r6 (((u4.trans u5).trans u6).trans u7) (sG aFq aRp a2) (sG aFr aRq a3) (sG aFs aRr a6) ((f4.up u7).mono oq) ((f5.up u7).mono oq)
end
end Go.Proofs.YtifcjpacobpdmaaGreat.W32

namespace Go.Proofs.YtifcjpacobpdmaaGreat
open IntKind (wrap)
open Go.RowKit
open Value (agg slice int bool tuple)
open Sy (Up Sees CallsG Seg execFn_use)
set_option maxRecDepth 100000
variable {k:World}{R:World→Value→Prop}{b0 b2 b4 b6:Bool}{A1 A3 A5 A7 A8:Option Addr}{c1 c3 c5 c7 c8 l1 l3 l5 l7 l8:Nat}
theorem yZ 
 (h:Tt∧(Tt∧(Tt∧(Br (decide (((wrap .i64 ((wrap .i64 ((l3:Nat)+(l5:Nat)))+(l7:Nat))):Int) > 0)) (Rt R k (tuple #[agg #[bool false,slice none 0 0,slice none 0 0],bool false])) (Rt R k (tuple #[agg #[bool b0,slice A1 l1 c1,slice A8 l8 c8],bool true])))))) :
 CallsG Tryz.prog 250 #[agg #[bool b0,slice A1 l1 c1,bool b2,slice A3 l3 c3,bool b4,slice A5 l5 c5,bool b6,slice A7 l7 c7,slice A8 l8 c8]] k R:=
 qY { opq:=[] } h
end Go.Proofs.YtifcjpacobpdmaaGreat

namespace Go.Proofs.YtifcjpacobpdmaaGreat
open Go.RowKit
open Value (agg slice int bool tuple)
open Sy (Up Sees CallsG Seg execFn_use)
set_option maxRecDepth 100000
variable {k:World}{R:World→Value→Prop}
end Go.Proofs.YtifcjpacobpdmaaGreat

namespace Go.Proofs.YtifcjpacobpdmaaGreat
open IntKind (wrap)
open Go.RowKit Num Plain W32
open Sy (Up Sees CallsG Seg)
section
variable {k k':World}{R:World→Value→Prop}{x q:Rat}{K L:Nat}{cs cs':Array Value}{v:Q4}{w:W4}
theorem RatV.nilz (K:Nat):RatV k #[.bool false,.slice none 0 0,.slice none 0 0] 0 K:=⟨_,_,_,_,_,_,_,rfl,⟨⟨rfl,LimR.nil⟩,LimR.nil⟩,jm _,jm _⟩
def irr (v:Q4):Bool:=decide (v.b=0) && (decide (v.c=0) && decide (v.d=0))
theorem aCs (hx:SurdV k cs v K) (hK:K≤268435456) (C:∀k' ds,Up k k'→RatV k' ds (if irr v then v.a else 0) K→R k' (.tuple #[.agg ds,.bool (irr v)])) :
 Cl k 250 #[.agg cs] R:=by
 intro k0 u0;obtain⟨c0,c1,c2,c3,D,d,e,x0,x1,x2,x3,m,rfl,hm,hg,rfl,⟨b0,A0,n0,e0,rfl,i0,l0⟩,⟨b1,A1,n1,e1,rfl,i1,l1⟩,⟨b2,A2,n2,e2,rfl,i2,l2⟩,⟨b3,A3,n3,e3,rfl,i3,l3⟩,lx,hd⟩:=hx;have hcs:mk9 #[.bool b0,.slice A0 n0 e0] #[.bool b1,.slice A1 n1 e1] #[.bool b2,.slice A2 n2 e2] #[.bool b3,.slice A3 n3 e3] (.slice D d e)=#[.bool b0,.slice A0 n0 e0,.bool b1,.slice A1 n1 e1,.bool b2,.slice A2 n2 e2,.bool b3,.slice A3 n3 e3,.slice D d e]:=rfl;rw [hcs];have q1:=i1.lim.zero_iff;have q2:=i2.lim.zero_iff;have q3:=i3.lim.zero_iff;have ee:wrap .i64 (wrap .i64 ((n1:Nat)+(n2:Nat))+(n3:Nat))=((n1+n2+n3:Nat):Int):=by
  rw [uO (x:=(n1:Nat)+(n2:Nat)) oq oq,uO (x:=(n1:Nat)+(n2:Nat)+(n3:Nat)) oq oq];omega
 have hirr:irr (mkQ x0 x1 x2 x3 m)=decide (x1=0∧x2=0∧x3=0):=by
  unfold irr mkQ;rw [vv];simp only [qa,decide_eq_true_eq,kO hm]
 refine yZ ⟨rfl,rfl,rfl,fun h=>fun k1 u1=>?_,fun h=>fun k1 u1=>?_⟩
 ·rw [ee]at h;have h:=ow h;have er:irr (mkQ x0 x1 x2 x3 m)=false:=by rw [hirr];exact decide_eq_false oq
  have:=C k1 _ (u0.trans u1) (by rw [er];exact RatV.nilz K)
  rwa [er]at this
 ·rw [ee]at h;have h:=ov h;have hz:x1=0∧x2=0∧x3=0:=oq
  have er:irr (mkQ x0 x1 x2 x3 m)=true:=by rw [hirr];exact decide_eq_true hz
  obtain⟨z1,z2,z3⟩:=hz;have hgm:Nat.Coprime x0.natAbs m:=by
   unfold gcd5 at hg;rw [z1,z2,z3]at hg;simp only [Int.natAbs_zero,yj]at hg;rw [Nat.coprime_comm];exact hg
  have hn:(mkRat x0 m).num=x0∧(mkRat x0 m).den=m:=by
   rw [←Rat.mk_eq_mkRat x0 m oq hgm];exact⟨rfl,rfl⟩
  have u:=u0.trans u1
  have:=C k1 #[.bool b0,.slice A0 n0 e0,.slice D d e] u (by
   rw [er,og rfl];show RatV k1 _ (mkRat x0 m) K
   exact⟨b0,A0,n0,e0,D,d,_,rfl,⟨by rw [hn.1];exact i0.up u,by rw [hn.2];exact lx.up u⟩,l0,hd⟩)
  rwa [er]at this
end
open Go.RowKit Num Ieee FT Plain
section
variable {k k':World}{A A':Option Addr}{n n' c c' a b:Nat}{R:World→Value→Prop}
theorem aWa {s:Nat}(h:LimR k A n c a) (hn:n≤17179869184) (hs:s≤17179869184) (K:∀k' B j d,Up k k'→LimR k' B j d (a/2^s)→j≤n→R k' (.slice B j d)) :
 Cl k 273 #[.slice A n c,.int .i64 (s:Int)] R:=
 after (fun _k0 u=>aDv (K:=n) fun w hs'=>by
  have h':=(h.up u).sees hs';obtain⟨rfl,h'⟩:=h'
  exact (wP A c a s w h' hn oq).mono fun e w' q=>jQ q (aJ (jo a _))) fun k' _v u ⟨B,j,d,e,h1,h2⟩=>e▸K k' B j d u h1 h2
theorem aOz {p:Nat}(h:Sy.Blk k p 59 #[Value.int .u64 1]):LimR k (some ⟨p,0,none⟩) 1 1 1:=by
 have h1:nw 1=1:=iJ (Len.one oz oz);refine⟨h1.symm,?_⟩;show RW _ _ (nw 1) _ _;rw [h1];refine⟨by decide +kernel,oy _,fun _=>⟨p,0,rfl,h.lt,fun i hi=>?_⟩⟩;have:i=0:=oq
 subst this;rw [h.cell];have:wq 1 0=1:=by decide +kernel
 rw [this];rfl
theorem aTv {a b:Nat}(h:decide (dF a b ≥ 0)=true):b≤a:=by
 have h:=ow h;unfold dF at h;split at h
 ·omega
 ·omega
theorem aMs {a b:Nat}(h:decide (dF a b ≥ 0)=false):a<b:=by
 have h:=ov h;unfold dF at h;split at h
 ·assumption
 ·split at h <;> omega
theorem aUo {b:Nat}(hb:b≤1000000000000):wrap .i64 ((wrap .i64 (Int.tdiv ((b:Nat):Int) 2))+1)=((b/2+1:Nat):Int):=by
 rw [Int.tdiv_eq_ediv_of_nonneg oq,qk,qk];omega
theorem aXf (h:LimR k A n c a) (hn:n≤10000000) (C:∀k' B j d r,Up k k'→r*r≤a→a<(r+1)*(r+1)→LimR k' B j d r→R k' (.slice B j d)) :
 Cl k 311 #[.slice A n c] R:=by
 intro k0 u0;replace h:=h.up u0;replace C:=fun k' B j d r u=>C k' B j d r (u0.trans u);refine aSq ⟨rfl,fun h0=>fun k1 u1=>?_,fun h0=>?_⟩
 ·have hn0:n=0:=by have:=eq_of_beq h0;omega
  have ha:=h.zero_iff.1 hn0;exact C k1 none 0 0 0 u1 oq oq LimR.nil
 ·have hn0:n≠0:=fun e=>by rw [e]at h0;exact absurd h0 oz
  have ha:0<a:=jc fun e=>hn0 (h.zero_iff.2 e);have hlt:a<2^(64*n):=by
   have:=(bE a).lt;rw [eB,←ze,←h.len]at this;exact this
  have hbl:bl a≤64*n:=bZ.2 hlt;intro p k1 u1 hp;refine⟨_,_,_,rfl,?_⟩;refine uD (h.up u1) oq fun k3 u3=>⟨_,rfl,?_⟩
  try dsimp only
  rw [aUo oq];refine iQ ((aOz hp).up u3) oz oq fun k5 B j d u5 h5 l5=>⟨_,_,_,rfl,?_⟩;have hX0:a<2^(bl a/2+1)*2^(bl a/2+1):=by
   rw [←oi];exact ob (dR a) (om oz oq)
  have hX:nw (1*2^(bl a/2+1))≤n+1:=by
   refine aF ?_;rw [jw,eB,←ze];exact zn oz oq
  generalize hXe:1*2^(bl a/2+1)=X at h5 hX;have hXX:2^(bl a/2+1)=X:=by rw [←hXe,jw]
  rw [hXX]at hX0;have hXp:0<X:=by rw [←hXX];exact oo oz
  clear hXe hXX;have v5:=u1.trans (u3.trans u5);replace h:=h.up v5;replace C:=fun k' B j d r u=>C k' B j d r (v5.trans u);refine⟨fun m k' vs=>∃A x l c,m=x∧vs=[.slice A l c]∧LimR k' A l c x∧0<x∧a<(x+1)*(x+1)∧x≤X,⟨X,fun k' u=>⟨B,X,j,d,rfl,rfl,h5.up u,hXp,xc hX0 (xb oq oq),oy _⟩⟩,?_⟩;rintro m k6 vs u6 ⟨A4,x,l4,c4,rfl,rfl,hx,hx0,hxa,hxX⟩;have hnx:=aJ hxX;have hlx:=hx.len;refine⟨A4,_,c4,rfl,?_⟩;refine cW (h.up u6) hx hx0 oq oq fun k8 B5 j5 d5 B6 j6 d6 u8 hq hr l6 l7=>⟨_,_,_,_,_,_,rfl,?_⟩;refine yC (L:=n+1) (hx.up u8) hq oq oq oq fun k10 B7 j7 d7 u10 hs hsl=>⟨_,_,_,rfl,?_⟩;refine aWa (s:=1) hs oq oz fun k12 B8 j8 d8 u12 hl l8=>⟨_,_,_,rfl,?_⟩;refine aXn hl ((hx.up u8).up (u10.trans u12)) oq oq fun k14 u14=>⟨_,rfl,fun ho=>?_,fun ho=>?_⟩
  ·have ho:=aTv ho;intro k15 u15;have v:=u8.trans (u10.trans (u12.trans (u14.trans u15)));exact C k15 A4 l4 c4 m (u6.trans v) (W32.newton_stop hx0 ho) hxa (hx.up v)
  ·have ho:=aMs ho;intro k16 u16;have hlo:=W32.newton_lo (a:=a) hx0;refine⟨_,ho,B8,_,j8,d8,rfl,rfl,(hl.up u14).up u16,?_,hlo,qg (kz ho) hxX⟩;refine jc fun e=>?_;rw [e]at hlo;have h1:a/m=a:=by
    have:(m+a/m) / 2^1=0:=e;have h2:m+a/m<2:=oq
    have h3:m=1:=oq
    rw [h3,xa]
   have:(m+a/m) / 2^1=0:=e;omega
end
structure Rtn (w:Q4) (n:Int) (kk:Nat) (a b:Int):Prop where
 lo:nn (((Q4.real ((n:Rat)*((2^kk:Nat):Rat))).mul w).sub (Q4.real (a:Rat)))
 hi:nn ((Q4.real (b:Rat)).sub ((Q4.real ((n:Rat)*((2^kk:Nat):Rat))).mul w))
 gap:b≤a+1
 small:a.natAbs≤3*n.natAbs*2^kk+1∧b.natAbs≤3*n.natAbs*2^kk+1
theorem Rtn.zero (w:Q4) (kk:Nat):Rtn w 0 kk 0 0:=by
 have e:(Q4.real (((0:Int):Rat)*((2^kk:Nat):Rat))).mul w=Q4.real ((0:Int):Rat):=by
  have:((0:Int):Rat)*((2^kk:Nat):Rat)=0:=Rat.zero_mul _;rw [this];refine Q4.ext' ?_ ?_ ?_ ?_ <;> simp only [Q4.mul,Q4.real] <;> grind
 exact⟨by rw [e];exact rS _,by rw [e];exact rS _,oz,by simp⟩
theorem aWb {r n s kk:Nat}(hs:s≤9) (h:r*r≤n*n*s*2^(2*kk)):r≤3*n*2^kk:=by
 refine jp fun c=>?_;have c:3*n*2^kk<r:=oq
 have h1:=xb c c;have h2:n*n*s*2^(2*kk)≤3*n*2^kk*(3*n*2^kk):=by
  have e:3*n*2^kk*(3*n*2^kk)=n*n*9*2^(2*kk):=by
   rw [show 2*kk=kk+kk by omega,oi];have:3*n*2^kk*(3*n*2^kk)=n*n*(3*3)*(2^kk*2^kk):=by ac_rfl
   exact this
  rw [e];exact od _ (qy _ hs)
 omega
theorem Rtn.mk' {w:Q4}{n:Int}{sq kk r:Nat}(hw:C.sg w.toQ=1) (hs:w.mul w=Q4.real ((sq:Nat):Rat)) (hsq:sq≤9) (hn:n≠0) (h1:r*r≤n.natAbs*n.natAbs*sq*2^(2*kk)) (h2:n.natAbs*n.natAbs*sq*2^(2*kk)<(r+1)*(r+1)) :
 Rtn w n kk (if n<0 then -((r+1:Nat):Int) else (r:Int)) (if n<0 then -(r:Int) else ((r+1:Nat):Int)):=by
 have hrle:=aWb hsq h1;have hP:(0:Rat)<((2^kk:Nat):Rat):=zu.2 (ot kk);have hm:(0:Rat)<((n.natAbs:Nat):Rat):=zu.2 oq;have hW:C.sg ((Q4.real (((n.natAbs:Nat):Rat)*((2^kk:Nat):Rat))).mul w).toQ=1:=by
  rw [gH,C.yN,hw,oK (uw hm hP)];rfl
 have hWW:((Q4.real (((n.natAbs:Nat):Rat)*((2^kk:Nat):Rat))).mul w).mul ((Q4.real (((n.natAbs:Nat):Rat)*((2^kk:Nat):Rat))).mul w)=Q4.real (((n.natAbs*n.natAbs*sq*2^(2*kk):Nat)):Rat):=by
  rw [aLn,hs];have e:((n.natAbs*n.natAbs*sq*2^(2*kk):Nat):Rat)=((n.natAbs:Nat):Rat)*((n.natAbs:Nat):Rat)*((sq:Nat):Rat)*(((2^kk:Nat):Rat)*((2^kk:Nat):Rat)):=by
   rw [show 2*kk=kk+kk by omega,oi,je,je,je,je]
  rw [e];refine Q4.ext' ?_ ?_ ?_ ?_ <;> simp only [Q4.mul,Q4.real] <;> grind
 have q1:((r:Nat):Rat)*((r:Nat):Rat)≤((n.natAbs*n.natAbs*sq*2^(2*kk):Nat):Rat):=by
  rw [←je];exact vp.2 h1
 have q2:((n.natAbs*n.natAbs*sq*2^(2*kk):Nat):Rat)≤((r+1:Nat):Rat)*((r+1:Nat):Rat):=by
  rw [←je];exact vp.2 (kz h2)
 have lo:=aHd hW hWW (show (0:Rat)≤((r:Nat):Rat) from Rat.natCast_nonneg) q1;have hi:=yL hW hWW (show (0:Rat)≤((r+1:Nat):Rat) from Rat.natCast_nonneg) q2
 by_cases g:n<0
 ·rw [og g,og g];have en:(n:Rat)=-((n.natAbs:Nat):Rat):=by
   have:n=-((n.natAbs:Nat):Int):=oq
   have h:=congrArg (fun z:Int=>(z:Rat)) this;rw [show ((-((n.natAbs:Nat):Int):Int):Rat)=-((n.natAbs:Nat):Rat) from kt _]at h;exact h
  have e1:((-((r+1:Nat):Int):Int):Rat)=-((r+1:Nat):Rat):=kt _;have e2:((-((r:Nat):Int):Int):Rat)=-((r:Nat):Rat):=kt _;refine⟨?_,?_,oq,oq⟩
  ·rw [en,e1];refine bH hi ?_;refine Q4.ext' ?_ ?_ ?_ ?_ <;> simp only [Q4.mul,Q4.sub,Q4.add,Q4.neg,Q4.real] <;> grind
  ·rw [en,e2];refine bH lo ?_;refine Q4.ext' ?_ ?_ ?_ ?_ <;> simp only [Q4.mul,Q4.sub,Q4.add,Q4.neg,Q4.real] <;> grind
 ·rw [oh g,oh g];have en:(n:Rat)=((n.natAbs:Nat):Rat):=by
   have:n=((n.natAbs:Nat):Int):=oq
   exact congrArg (fun z:Int=>(z:Rat)) this
  refine⟨?_,?_,oq,oq⟩
  ·rw [en];exact lo
  ·rw [en];exact hi
section
variable {k:World}{J:World→List Value→Prop}{A3 A17 A19:Option Addr}{l3 c3 l17 c17 l19 c19 sq kk K M:Nat}{b2 b16 b18:Bool}{n lo hi sqI:Int}{w:Q4}
theorem sK (hn:IntV k #[.bool b2,.slice A3 l3 c3] n K) (hlo:IntV k #[.bool b16,.slice A17 l17 c17] lo M) (hhi:IntV k #[.bool b18,.slice A19 l19 c19] hi M)
 (hw:C.sg w.toQ=1) (hs:w.mul w=Q4.real ((sq:Nat):Rat)) (hsq:sq≤9) (hsqI:sqI=(sq:Int)) (_:K≤10000) (hkk:kk≤1000000) (hM:2*K+2*kk+2≤M) (hM2:M≤9000000)
 (C:∀k' b A l c b' A' l' c' x y,Up k k'→Rtn w n kk x y→IntV k' #[.bool b,.slice A l c] (lo+x) (M+1)→IntV k' #[.bool b',.slice A' l' c'] (hi+y) (M+1)→J k' [.agg #[.bool b,.slice A l c],.agg #[.bool b',.slice A' l' c']]) :
 (true=true∧(((((l3:Nat):Int) == 0)=true→
 (∀k10,Up k k10→J k10 [Value.agg #[Value.bool b16,Value.slice A17 l17 c17],Value.agg #[Value.bool b18,Value.slice A19 l19 c19]]))∧
 ((((l3:Nat):Int) == 0)=false→
 (Cl k 108 #[Value.slice A3 l3 c3,Value.slice A3 l3 c3] fun k12 r11=>∃A20 l20 c20,some (Value.slice A20 l20 c20)=some r11∧
 Cl k12 189 #[Value.int .u64 sqI] fun k14 r13=>∃A21 l21 c21,some (Value.slice A21 l21 c21)=some r13∧
 Cl k14 108 #[Value.slice A20 l20 c20,Value.slice A21 l21 c21] fun k16 r15=>∃A22 l22 c22,some (Value.slice A22 l22 c22)=some r15∧
 Cl k16 230 #[Value.slice A22 l22 c22,Value.int .i64 (wrap .i64 (2*((kk:Nat):Int)))] fun k18 r17=>∃A23 l23 c23,some (Value.slice A23 l23 c23)=some r17∧
 Cl k18 311 #[Value.slice A23 l23 c23] fun k20 r19=>∃A24 l24 c24,some (Value.slice A24 l24 c24)=some r19∧
 Cl k20 171 #[Value.bool b2,Value.slice A24 l24 c24] fun k22 r21=>∃b25,∃A26 l26 c26,some (Value.agg #[Value.bool b25,Value.slice A26 l26 c26])=some r21∧
 Cl k22 189 #[Value.int .u64 1] fun k24 r23=>∃A27 l27 c27,some (Value.slice A27 l27 c27)=some r23∧
 Cl k24 190 #[Value.slice A24 l24 c24,Value.slice A27 l27 c27] fun k26 r25=>∃A28 l28 c28,some (Value.slice A28 l28 c28)=some r25∧
 Cl k26 171 #[Value.bool b2,Value.slice A28 l28 c28] fun k28 r27=>∃b29,∃A30 l30 c30,some (Value.agg #[Value.bool b29,Value.slice A30 l30 c30])=some r27∧
 (b2=true→
 (Cl k28 106 #[Value.agg #[Value.bool b16,Value.slice A17 l17 c17],Value.agg #[Value.bool b29,Value.slice A30 l30 c30]] fun k30 r29=>∃b31,∃A32 l32 c32,some (Value.agg #[Value.bool b31,Value.slice A32 l32 c32])=some r29∧
 Cl k30 106 #[Value.agg #[Value.bool b18,Value.slice A19 l19 c19],Value.agg #[Value.bool b25,Value.slice A26 l26 c26]] fun k32 r31=>∃b33,∃A34 l34 c34,some (Value.agg #[Value.bool b33,Value.slice A34 l34 c34])=some r31∧
 ∀k33,Up k32 k33→J k33 [Value.agg #[Value.bool b31,Value.slice A32 l32 c32],Value.agg #[Value.bool b33,Value.slice A34 l34 c34]]))∧
 (b2=false→
 (Cl k28 106 #[Value.agg #[Value.bool b16,Value.slice A17 l17 c17],Value.agg #[Value.bool b25,Value.slice A26 l26 c26]] fun k35 r34=>∃b31,∃A32 l32 c32,some (Value.agg #[Value.bool b31,Value.slice A32 l32 c32])=some r34∧
 Cl k35 106 #[Value.agg #[Value.bool b18,Value.slice A19 l19 c19],Value.agg #[Value.bool b29,Value.slice A30 l30 c30]] fun k37 r36=>∃b33,∃A34 l34 c34,some (Value.agg #[Value.bool b33,Value.slice A34 l34 c34])=some r36∧
 ∀k38,Up k37 k38→J k38 [Value.agg #[Value.bool b31,Value.slice A32 l32 c32],Value.agg #[Value.bool b33,Value.slice A34 l34 c34]])))))):=by
  subst hsqI;obtain⟨_,_,_,_,e,hi0,hl0⟩:=hn;injection e with e;injection e with e1 e;injection e1 with e1;injection e with e2 e;injection e2 with e2 e3 e4;subst e1 e2 e3 e4;have hz:=hi0.lim.zero_iff;have hneg:=hi0.neg;refine⟨rfl,fun f k10 u10=>?_,fun f=>?_⟩
  ·have f:l3=0:=by have:=eq_of_beq f;omega
   have hn0:n=0:=Int.natAbs_eq_zero.1 (hz.1 f);subst hn0;exact C k10 _ _ _ _ _ _ _ _ 0 0 u10 (Rtn.zero w kk) (by rw [Int.add_zero];exact (hlo.up u10).mono oq) (by rw [Int.add_zero];exact (hhi.up u10).mono oq)
  have f:l3≠0:=fun e=>by rw [e]at f;exact absurd f oz
  have hn0:n≠0:=fun e=>f (hz.2 (by rw [e];rfl));have hL:=hi0.lim;refine iM hL hL oq oq fun k12 B j d u12 h12 l12=>⟨_,_,_,rfl,?_⟩;refine iT (x:=sq) oq fun k14 B1 j1 d1 u14 h14 l14=>⟨_,_,_,rfl,?_⟩;refine iM (h12.up u14) h14 oq oq fun k16 B2 j2 d2 u16 h16 l16=>⟨_,_,_,rfl,?_⟩;have ew:wrap .i64 (2*((kk:Nat):Int))=((2*kk:Nat):Int):=by rw [qk];omega
  try dsimp only
  rw [ew];refine iQ h16 oq oq fun k18 B3 j3 d3 u18 h18 l18=>⟨_,_,_,rfl,?_⟩;refine aXf h18 oq fun k20 B4 j4 d4 r u20 r1 r2 h20=>⟨_,_,_,rfl,?_⟩;have hR:=Rtn.mk' hw hs hsq hn0 r1 r2;have l20:j4≤M:=by
   have a:=h20.len;have b:=h18.len;have c:=aJ (show r≤n.natAbs*n.natAbs*sq*2^(2*kk) from qg (Nat.le_mul_self r) r1);omega
  have l20':j4+1≤M:=by
   have a:=h20.len;have b:=h18.len;have c:=aJ (show r≤n.natAbs*n.natAbs*sq*2^(2*kk) from qg (Nat.le_mul_self r) r1);omega
  refine whole_s (K:=M) h20 oq oq fun k22 ds u22 hA=>?_;obtain⟨b25,A26,l26,c26,rfl,hA⟩:=hA.open;refine⟨_,_,_,_,rfl,?_⟩;refine iT (x:=1) oz fun k24 B5 j5 d5 u24 h24 l24=>⟨_,_,_,rfl,?_⟩;refine yC (L:=j4+1) ((h20.up u22).up u24) h24 oq oq oq fun k26 B6 j6 d6 u26 h26 l26'=>⟨_,_,_,rfl,?_⟩;have l26'':j6≤M:=by
   have a:=h26.len;have b:=h18.len;have c:=aJ (show r+1≤n.natAbs*n.natAbs*sq*2^(2*kk)+1 from by have:=qg (Nat.le_mul_self r) r1;omega);have e:=aOt (n.natAbs*n.natAbs*sq*2^(2*kk)) 1;have e1:nw 1=1:=iJ (Len.one oz oz);omega
  refine whole_s (K:=M) h26 oq oq fun k28 ds u28 hB=>?_;obtain⟨b29,A30,l30,c30,rfl,hB⟩:=hB.open;refine⟨_,_,_,_,rfl,?_⟩;have v28:=u12.trans (u14.trans (u16.trans (u18.trans (u20.trans (u22.trans (u24.trans (u26.trans u28)))))));have hA28:=hA.up (u24.trans (u26.trans u28));refine⟨fun g=>?_,fun g=>?_⟩
  ·rw [g]at hA28 hB;have hneg':n<0:=ow (hneg.symm.trans g);rw [og hneg',og hneg']at hR;refine bV (M:=M) (hlo.up v28) hB oq oq oq fun k30 ds u30 h30=>?_;obtain⟨_,_,_,_,rfl,h30⟩:=h30.open;refine⟨_,_,_,_,rfl,?_⟩;refine bV (M:=M) ((hhi.up v28).up u30) (hA28.up u30) oq oq oq fun k32 ds u32 h32=>?_;obtain⟨_,_,_,_,rfl,h32⟩:=h32.open;refine⟨_,_,_,_,rfl,fun k33 u33=>C k33 _ _ _ _ _ _ _ _ _ _ (v28.trans (u30.trans (u32.trans u33))) hR ((h30.up u32).up u33) (h32.up u33)⟩
  ·rw [g]at hA28 hB;have hneg':¬ n<0:=ov (hneg.symm.trans g);rw [oh hneg',oh hneg']at hR;refine bV (M:=M) (hlo.up v28) hA28 oq oq oq fun k30 ds u30 h30=>?_;obtain⟨_,_,_,_,rfl,h30⟩:=h30.open;refine⟨_,_,_,_,rfl,?_⟩;refine bV (M:=M) ((hhi.up v28).up u30) (hB.up u30) oq oq oq fun k32 ds u32 h32=>?_;obtain⟨_,_,_,_,rfl,h32⟩:=h32.open;refine⟨_,_,_,_,rfl,fun k33 u33=>C k33 _ _ _ _ _ _ _ _ _ _ (v28.trans (u30.trans (u32.trans u33))) hR ((h30.up u32).up u33) (h32.up u33)⟩
end
theorem qJ (y:Int) (P:Nat):((y*(P:Int):Int):Rat)=(y:Rat)*(P:Rat):=by rw [xm];rfl
theorem aIf {y0 y1 y2 y3 a1 a2 a3 b1 b2 b3:Int}{m kk:Nat}(hm:0<m) (r1:Rtn w2 y1 kk a1 b1) (r2:Rtn w3 y2 kk a2 b2) (r3:Rtn w6 y3 kk a3 b3) :
 nn ((mkQ y0 y1 y2 y3 m).sub (Q4.real (mkRat (y0*(2^kk:Nat)+a1+a2+a3) (m*2^kk))))∧nn ((Q4.real (mkRat (y0*(2^kk:Nat)+b1+b2+b3) (m*2^kk))).sub (mkQ y0 y1 y2 y3 m))∧
 mkRat (y0*(2^kk:Nat)+b1+b2+b3) (m*2^kk)-mkRat (y0*(2^kk:Nat)+a1+a2+a3) (m*2^kk)≤3*(1/((2^kk:Nat):Rat)):=by
 have hP:(0:Rat)<((2^kk:Nat):Rat):=zu.2 (ot kk);have hM:(0:Rat)<(m:Rat):=zu.2 hm;have hM1:(1:Rat)≤(m:Rat):=by
  have:((1:Nat):Rat)≤((m:Nat):Rat):=vp.2 hm;exact this
 have hMP:0<(m:Rat)*((2^kk:Nat):Rat):=uw hM hP;have gap:((b1+b2+b3:Int):Rat)≤((a1+a2+a3+3:Int):Rat):=we.2 (by have:=r1.gap;have:=r2.gap;have:=r3.gap;omega);have l1:=r1.lo;have l2:=r2.lo;have l3:=r3.lo;have u1:=r1.hi;have u2:=r2.hi;have u3:=r3.hi;have el:∀x:Int,mkRat x (m*2^kk)=(x:Rat) / ((m:Rat)*((2^kk:Nat):Rat)):=fun x=>by rw [ji,je]
 have ed:∀x:Int,mkRat x m=(x:Rat) / (m:Rat):=fun x=>ji x m;rw [el,el];unfold mkQ;rw [ed,ed,ed,ed];have s1:((y0*((2^kk:Nat):Int)+a1+a2+a3:Int):Rat)=(y0:Rat)*((2^kk:Nat):Rat)+a1+a2+a3:=by rw [vw,vw,vw,qJ]
 have s2:((y0*((2^kk:Nat):Int)+b1+b2+b3:Int):Rat)=(y0:Rat)*((2^kk:Nat):Rat)+b1+b2+b3:=by rw [vw,vw,vw,qJ]
 rw [s1,s2];have s3:((b1+b2+b3:Int):Rat)=(b1:Rat)+b2+b3:=by rw [vw,vw]
 have s4:((a1+a2+a3+3:Int):Rat)=(a1:Rat)+a2+a3+3:=by rw [vw,vw,vw];rfl
 rw [s3,s4]at gap;clear el ed s1 s2 s3 s4 r1 r2 r3 hm;generalize ((2^kk:Nat):Rat)=P at *
 generalize (m:Rat)=M at *
 generalize (y0:Rat)=z0 at *
 generalize (y1:Rat)=z1 at *
 generalize (y2:Rat)=z2 at *
 generalize (y3:Rat)=z3 at *
 generalize (a1:Rat)=p1 at *
 generalize (a2:Rat)=p2 at *
 generalize (a3:Rat)=p3 at *
 generalize (b1:Rat)=q1 at *
 generalize (b2:Rat)=q2 at *
 generalize (b3:Rat)=q3 at *
 have d0:z0/M*(M*P)=z0*P:=by rw [←yf,vf (by grind)]
 have d1:z1/M*(M*P)=z1*P:=by rw [←yf,vf (by grind)]
 have d2:z2/M*(M*P)=z2*P:=by rw [←yf,vf (by grind)]
 have d3:z3/M*(M*P)=z3*P:=by rw [←yf,vf (by grind)]
 have dl:∀t:Rat,t/(M*P)*(M*P)=t:=fun t=>vf (by grind);refine⟨?_,?_,?_⟩
 ·refine lM (y:=Q4.real (M*P)) (bH (dU (dU l1 l2) l3) ?_) (oK hMP);have dd:=dl (z0*P+p1+p2+p3);generalize (z0*P+p1+p2+p3) / (M*P)=L at *
  generalize z0/M=e0 at *
  generalize z1/M=e1 at *
  generalize z2/M=e2 at *
  generalize z3/M=e3 at *
  refine Q4.ext' ?_ ?_ ?_ ?_ <;> simp only [Q4.mul,Q4.sub,Q4.add,Q4.neg,Q4.real,w2,w3,w6] <;> grind
 ·refine lM (y:=Q4.real (M*P)) (bH (dU (dU u1 u2) u3) ?_) (oK hMP);have dd:=dl (z0*P+q1+q2+q3);generalize (z0*P+q1+q2+q3) / (M*P)=L at *
  generalize z0/M=e0 at *
  generalize z1/M=e1 at *
  generalize z2/M=e2 at *
  generalize z3/M=e3 at *
  refine Q4.ext' ?_ ?_ ?_ ?_ <;> simp only [Q4.mul,Q4.sub,Q4.add,Q4.neg,Q4.real,w2,w3,w6] <;> grind
 ·refine Rat.not_lt.1 fun h=>?_;have h:=(wk hMP).2 h;have c1:=dl (z0*P+q1+q2+q3);have c2:=dl (z0*P+p1+p2+p3);have c3:3*(1/P)*(M*P)=3*M:=by
   have:1/P*P=1:=vf (by grind);generalize 1/P=i at *
   grind
  rw [c3,ya,Rat.add_mul,Rat.neg_mul,c1,c2]at h
  grind
theorem Bel.form {v:Q4}{b:Nat}(h:Bel v b):∃D,IntForm v D b:=by
 obtain⟨y0,y1,y2,y3,m,hm,rfl,h0,h1,h2,h3,h4⟩:=h;have hM:(0:Rat)<(m:Rat):=zu.2 hm;have e:∀y:Int,(m:Rat)*mkRat y m=(y:Rat):=fun y=>by rw [ji,Rat.mul_comm,vf (by grind)]
 have bd:∀y:Int,y.natAbs<b→-(b:Rat)≤(m:Rat)*mkRat y m∧(m:Rat)*mkRat y m≤b:=fun y hy=>by
  rw [e];have a1:((-(b:Int):Int):Rat)≤(y:Rat):=we.2 oq;have a2:(y:Rat)≤((b:Int):Rat):=we.2 oq;rw [kt]at a1;exact⟨a1,a2⟩
 obtain⟨m1,m2,m3,m4⟩:=pD (m:Rat) (mkQ y0 y1 y2 y3 m);exact⟨m,hm,kz h4,⟨by rw [m1];exact⟨y0,e y0⟩,by rw [m2];exact⟨y1,e y1⟩,by rw [m3];exact⟨y2,e y2⟩,by rw [m4];exact⟨y3,e y3⟩⟩,bd y0 h0,bd y1 h1,bd y2 h2,bd y3 h3⟩
theorem oJ (K:Nat):B64^K=2^(64*K):=by rw [eB,←ze]
section
variable {k:World}{R:World→Value→Prop}{cs:Array Value}{v:Q4}{K kk:Nat}{q:Rat}
theorem RatV.lim {L:Nat}(h:RatV k cs q K) (h1:q.num.natAbs<B64^L) (h2:q.den<B64^L):RatV k cs q L:=by
 obtain⟨b,A,n,c,D,d,e,rfl,hr,e1,e2⟩:=h;refine⟨b,A,n,c,D,d,e,rfl,hr,?_,?_⟩
 ·rw [hr.num.lim.len];exact aF h1
 ·rw [hr.den.len];split
  ·rw [nw_zero];exact jm _
  ·exact aF h2
theorem aGi {x:Int}{m K kk L N:Nat}(hm:0<m) (hx:x.natAbs≤10*(B64^K*2^kk)) (hd:m≤B64^K) (hL:64*K+kk+5≤64*L) {cs:Array Value}(h:RatV k cs (mkRat x (m*2^kk)) N):RatV k cs (mkRat x (m*2^kk)) L:=by
 have hp:0<m*2^kk:=jn hm (ot kk);have hb:16*(B64^K*2^kk)<B64^L:=by
  rw [oJ,oJ,←oi,show (16:Nat)=2^4 from rfl,←oi];exact zn oz oq
 have hpos:0<B64^K*2^kk:=jn (oo oz) (ot kk);have hd2:=od (2^kk) hd;refine h.lim ?_ ?_
 ·rw [fJ _ hp];have:=jo x.natAbs (Nat.gcd x.natAbs (m*2^kk));omega
 ·rw [gW _ hp];have:=jo (m*2^kk) (Nat.gcd x.natAbs (m*2^kk));omega
def aHv (w:Q4) (n:Int) (kk M:Nat) (lo hi:Int) (k:World) (vs:List Value):Prop:=
 ∃b A l c b' A' l' c' x y,vs=[.agg #[.bool b,.slice A l c],.agg #[.bool b',.slice A' l' c']]∧Rtn w n kk x y∧IntV k #[.bool b,.slice A l c] (lo+x) M∧IntV k #[.bool b',.slice A' l' c'] (hi+y) M
theorem aIc (hx:SurdV k cs v K) (hK1:1≤K) (hK:K≤10000) (hkk:kk≤1000000)
 (C:∀k' ds ds' lo hi,Up k k'→nn (v.sub (Q4.real lo))→nn ((Q4.real hi).sub v)→hi-lo≤3*(1/((2^kk:Nat):Rat))→RatV k' ds lo (K+kk/64+2)→RatV k' ds' hi (K+kk/64+2)→R k' (.tuple #[.agg ds,.agg ds'])) :
 Cl k 251 #[.agg cs,.int .i64 (kk:Int)] R:=by
 intro k0 u0;replace hx:=hx.up u0;replace C:=fun k' ds ds' lo hi u=>C k' ds ds' lo hi (u0.trans u);obtain⟨c0,c1,c2,c3,D,d,e,y0,y1,y2,y3,m,rfl,hm,hg,rfl,i0,i1,i2,i3,lx,hd⟩:=hx;have t0:=IntV.lt i0;have t1:=IntV.lt i1;have t2:=IntV.lt i2;have t3:=IntV.lt i3;have tm:m≤B64^K:=by
  by_cases g:m=1
  ·rw [g];exact oo oz
  ·rw [oh g]at lx;have:=(bE m).lt;rw [←lx.len]at this;exact kz (ob this (om oz hd))
 obtain⟨b0,A0,n0,e0,rfl,i0⟩:=i0.open;obtain⟨b1,A1,n1,e1,rfl,i1⟩:=i1.open;obtain⟨b2,A2,n2,e2,rfl,i2⟩:=i2.open;obtain⟨b3,A3,n3,e3,rfl,i3⟩:=i3.open;have hcs:mk9 #[.bool b0,.slice A0 n0 e0] #[.bool b1,.slice A1 n1 e1] #[.bool b2,.slice A2 n2 e2] #[.bool b3,.slice A3 n3 e3] (.slice D d e)=#[.bool b0,.slice A0 n0 e0,.bool b1,.slice A1 n1 e1,.bool b2,.slice A2 n2 e2,.bool b3,.slice A3 n3 e3,.slice D d e]:=rfl;rw [hcs];clear hcs hg;obtain⟨M,hM⟩:∃M,M=2*K+2*kk+2:=⟨_,rfl⟩;have l0:∀ {k'},Up k0 k'→LimR k' A0 n0 e0 y0.natAbs∧n0≤K∧b0=decide (y0<0):=fun u=>by
  obtain⟨_,_,_,_,e,h,h'⟩:=i0;injection e with e;injection e with e1 e;injection e1 with e1;injection e with e2 e;injection e2 with e2 e3 e4;subst e1 e2 e3 e4;exact⟨h.lim.up u,h',h.neg⟩
 have en:sgn b0 (y0.natAbs*2^kk)=y0*((2^kk:Nat):Int):=by
  rw [(l0 (Up.refl _)).2.2];unfold sgn
  by_cases g:y0<0
  ·rw [decide_eq_true g,og rfl,zi,←uv]
   congr 1
   omega
  ·rw [decide_eq_false g,oh oz,zi]
   congr 1
   omega
 refine aWz ?_;refine iQ (l0 (Up.refl _)).1 (by have:=(l0 (Up.refl _)).2.1;omega) oq fun k1 B j d1 u1 h1 l1=>⟨_,_,_,rfl,?_⟩;refine whole_s (K:=M) h1 (by have:=(l0 (Up.refl _)).2.1;omega) (by have:=(l0 (Up.refl _)).2.1;omega) fun k3 ds u3 h3=>?_;rw [en]at h3;obtain⟨_,_,_,_,rfl,h3⟩:=h3.open;refine⟨_,_,_,_,rfl,?_⟩;refine iQ (l0 (u1.trans u3)).1 (by have:=(l0 (Up.refl _)).2.1;omega) oq fun k5 B j d5 u5 h5 l5=>⟨_,_,_,rfl,?_⟩;refine whole_s (K:=M) h5 (by have:=(l0 (Up.refl _)).2.1;omega) (by have:=(l0 (Up.refl _)).2.1;omega) fun k7 ds u7 h7=>?_;rw [en]at h7;obtain⟨_,_,_,_,rfl,h7⟩:=h7.open;refine⟨_,_,_,_,rfl,?_⟩;have v7:=u1.trans (u3.trans (u5.trans u7))
 refine⟨fun k vs=>∃b A l c b' A' l' c',vs=[.agg #[.bool b,.slice A l c],.agg #[.bool b',.slice A' l' c']]∧IntV k #[.bool b,.slice A l c] (y0*((2^kk:Nat):Int)) M∧IntV k #[.bool b',.slice A' l' c'] (y0*((2^kk:Nat):Int)) M,
  fun k8 u8=>⟨_,_,_,_,_,_,_,_,rfl,h3.up (u5.trans (u7.trans u8)),h7.up u8⟩,?_⟩
 rintro k9 vs u9 ⟨_,_,_,_,_,_,_,_,rfl,g0,g1⟩;refine⟨_,_,_,_,_,_,_,_,rfl,?_⟩;have v9:=v7.trans u9;refine⟨aHv w2 y1 kk (M+1) (y0*((2^kk:Nat):Int)) (y0*((2^kk:Nat):Int)),sK (J:=aHv w2 y1 kk (M+1) (y0*((2^kk:Nat):Int)) (y0*((2^kk:Nat):Int))) (sq:=2) (i1.up v9) g0 g1 aFq aRp oz rfl hK hkk oq oq fun k' b A l c b' A' l' c' x y _ r1 r2 r3=>⟨b,A,l,c,b',A',l',c',x,y,rfl,r1,r2,r3⟩,?_⟩;rintro k39 vs u39 ⟨_,_,_,_,_,_,_,_,x1,z1,rfl,r1,g0,g1⟩;refine⟨_,_,_,_,_,_,_,_,rfl,?_⟩;have v39:=v9.trans u39;refine⟨aHv w3 y2 kk (M+2) (y0*((2^kk:Nat):Int)+x1) (y0*((2^kk:Nat):Int)+z1),sK (J:=aHv w3 y2 kk (M+2) (y0*((2^kk:Nat):Int)+x1) (y0*((2^kk:Nat):Int)+z1)) (sq:=3) (i2.up v39) g0 g1 aFr aRq oz rfl hK hkk oq oq fun k' b A l c b' A' l' c' x y _ r1 r2 r3=>⟨b,A,l,c,b',A',l',c',x,y,rfl,r1,r2,r3⟩,?_⟩;rintro k69 vs u69 ⟨_,_,_,_,_,_,_,_,x2,z2,rfl,r2,g0,g1⟩;refine⟨_,_,_,_,_,_,_,_,rfl,?_⟩;have v69:=v39.trans u69;refine⟨aHv w6 y3 kk (M+3) (y0*((2^kk:Nat):Int)+x1+x2) (y0*((2^kk:Nat):Int)+z1+z2),sK (J:=aHv w6 y3 kk (M+3) (y0*((2^kk:Nat):Int)+x1+x2) (y0*((2^kk:Nat):Int)+z1+z2)) (sq:=6) (i3.up v69) g0 g1 aFs aRr oz rfl hK hkk oq oq fun k' b A l c b' A' l' c' x y _ r1 r2 r3=>⟨b,A,l,c,b',A',l',c',x,y,rfl,r1,r2,r3⟩,?_⟩;rintro k99 vs u99 ⟨_,_,_,_,_,_,_,_,x3,z3,rfl,r3,g0,g1⟩;refine⟨_,_,_,_,_,_,_,_,rfl,?_⟩;have v99:=v69.trans u99;refine aV (L:=K) (lx.up v99) hm hd hK1 oq fun k101 B j d1 u101 h101 l101=>⟨_,_,_,rfl,?_⟩;refine iQ h101 oq oq fun k103 B2 j2 d2 u103 h103 l103=>⟨_,_,_,rfl,?_⟩;have hp:0<m*2^kk:=jn hm (ot kk);refine pE (K:=M+3) (g0.up (u101.trans u103)) h103 hp oq oq fun k105 d3 u105 h105=>⟨d3,h105.seg,rfl,?_⟩;refine pE (K:=M+3) (g1.up (u101.trans (u103.trans u105))) (h103.up u105) hp oq oq fun k107 d4 u107 h107=>⟨d4,h107.seg,rfl,fun k108 u108=>?_⟩;obtain⟨p1,p2,p3⟩:=aIf (y0:=y0) hm r1 r2 r3;have sm:=r1.small;have sm2:=r2.small;have sm3:=r3.small;have hpp:0<2^kk:=ot kk;have k0':y0.natAbs*2^kk+2^kk≤B64^K*2^kk:=by rw [←zr];exact od _ t0
 have kb:∀y:Int,y.natAbs<B64^K→3*y.natAbs*2^kk+3*2^kk≤3*(B64^K*2^kk):=fun y hy=>by
  have:=od (2^kk) (Nat.succ_le_of_lt hy);rw [zr]at this;rw [qd];omega
 have k1':=kb y1 t1;have k2':=kb y2 t2;have k3':=kb y3 t3;have ea:(y0*((2^kk:Nat):Int)).natAbs=y0.natAbs*2^kk:=by rw [wj,zk]
 refine C k108 d3 d4 _ _ (v99.trans (u101.trans (u103.trans (u105.trans (u107.trans u108))))) p1 p2 p3 (aGi (K:=K) hm ?_ tm oq (h105.up (u107.trans u108))) (aGi (K:=K) hm ?_ tm oq (h107.up u108))
 ·generalize y0*((2^kk:Nat):Int)=Y at *
  omega
 ·generalize y0*((2^kk:Nat):Int)=Y at *
  omega
theorem aGu {D N B:Nat}{lo hi:Rat}{bits:Nat}{least beyond:Int}(F:Fmt bits least beyond) (hf:IntForm v D N) (hN:N≤2^B) (hirr:¬ (v.b=0∧v.c=0∧v.d=0)) (hl:nn (v.sub (Q4.real lo))) (hh:nn ((Q4.real hi).sub v))
 (hg:hi-lo≤3*(N:Rat)*(1/((2^kk:Nat):Rat))) (hne:fE lo bits least beyond≠fE hi bits least beyond):kk≤5*B+4321:=by
 refine jp fun c=>hne (aDx F (aOq hl hh) fun z h1 h2=>c ?_);have:=aOp (G:=1075) hf hirr hl hh hg h1 h2 hN;omega
theorem aGn (h:irr v=false):¬ (v.b=0∧v.c=0∧v.d=0):=fun ⟨h1,h2,h3⟩=>by
 unfold irr at h;rw [decide_eq_true h1,decide_eq_true h2,decide_eq_true h3]at h;cases h
theorem aAn (h:irr v=true):v=Q4.real v.a:=by
 unfold irr at h;simp only [qa,decide_eq_true_eq]at h;exact Q4.ext' rfl h.1 h.2.1 h.2.2
theorem uP {bits:Nat}{least beyond:Int}(F:Fmt bits least beyond) (hl0:least≤1000) (hx:SurdV k cs v K) (hK1:1≤K) (hK:K≤500) (C:∀k' W,Up k k'→Near4 v bits least beyond W→R k' (.float .f64 W)) :
 Cl k 161 #[.agg cs,.agg #[.int .i64 bits,.int .i64 least,.int .i64 beyond]] R:=by
 intro k0 u0;replace hx:=hx.up u0;replace C:=fun k' W u=>C k' W (u0.trans u);have hb:=hx.bel hK1;obtain⟨D,hf⟩:=hb.form;rw [oJ]at hf;refine aMa hx.seg ⟨rfl,by simp [Value.scalar,Value.noWord]⟩ ?_;refine aCs hx oq fun k1 d1 u1 h1=>⟨d1,h1.seg,_,rfl,fun g=>?_,fun g=>?_⟩
 ·rw [og g]at h1;refine zF h1 oq F.bits F.low hl0 F.top fun k3 u3=>⟨_,rfl,fun k4 u4=>?_⟩;refine C k4 _ (u1.trans (u3.trans u4)) ?_;have:=Near4.real (bits:=bits) (least:=least) (beyond:=beyond) v.a
  rwa [←aAn g]at this
 ·have hirr:=aGn g;have one:(1:Rat)≤((2^(64*K):Nat):Rat):=by
   have:((1:Nat):Rat)≤((2^(64*K):Nat):Rat):=vp.2 (ot _);exact this
  refine⟨fun m k' vs=>∃kk:Nat,64≤kk∧kk≤2*(320*K+4321)∧m=640*K+8642-kk∧vs=[.int .i64 (kk:Int)],⟨640*K+8578,fun k' _=>⟨64,oq,oq,oq,rfl⟩⟩,?_⟩;rintro m k5 vs u5 ⟨kk,hk1,hk2,rfl,rfl⟩;refine⟨_,rfl,?_⟩;have hk3:kk≤1000000:=qg hk2 (qg (qy 2 (Nat.add_le_add_right (qy 320 hK) 4321)) oz);refine aIc (hx.up (u1.trans u5)) hK1 (qg hK oz) hk3 fun k7 d5 d6 lo hi u7 hlo hhi hg q5 q6=>⟨d5,q5.seg,d6,q6.seg,rfl,?_⟩;have hg':hi-lo≤3*((2^(64*K):Nat):Rat)*(1/((2^kk:Nat):Rat)):=by
   refine Rat.le_trans hg ?_;have hP:(0:Rat)<((2^kk:Nat):Rat):=zu.2 (ot kk);have:0≤1/((2^kk:Nat):Rat):=by rw [ky,Rat.one_mul];exact xr (Rat.inv_pos.2 hP)
   refine zw ?_ this
   grind
  refine zF q5 oq F.bits F.low hl0 F.top fun k9 u9=>⟨_,rfl,?_⟩;refine zF (q6.up u9) oq F.bits F.low hl0 F.top fun k11 u11=>⟨_,rfl,?_⟩;have en:∀q:Rat,fF (decide (q.num<0)) q.num.natAbs q.den bits least beyond=fE q bits least beyond:=fun _=>rfl
  try dsimp only
  rw [en,en,show FloatKind.format .f64=double from rfl,qD F];have v11:=u1.trans (u5.trans (u7.trans (u9.trans u11)));refine⟨fun f k12 u12=>?_,fun f k13 u13=>?_⟩
  ·have f:=ow f;exact C k12 _ (v11.trans u12) ⟨lo,hi,hlo,hhi,rfl,f.symm⟩
  ·have f:=ov f;have:=aGu F hf (oy _) hirr hlo hhi hg' f;refine⟨640*K+8642-2*kk,oq,2*kk,oq,oq,rfl,?_⟩;rw [show wrap .i64 ((kk:Int)*2)=((2*kk:Nat):Int) by rw [qk];omega]
theorem aCp (hx:SurdV k cs v K) (hK1:1≤K) (hK:K≤500) (C:∀k' W,Up k k'→Near4 v 53 (-1074) 1024 W→R k' (.float .f64 W)) :
 Cl k 160 #[.agg cs] R:=by
 intro k0 u0;refine aLz hx.seg fun k1 u1=>aSo fun k2 u2=>⟨_,_,_,rfl,?_⟩;exact uP (bits:=53) nR oz (hx.up (u0.trans (u1.trans u2))) hK1 hK fun k3 W u3 hW=>⟨_,rfl,fun k4 u4=>C k4 W (u0.trans (u1.trans (u2.trans (u3.trans u4)))) hW⟩
end
section
variable {k k':World}{R:World→Value→Prop}{x q:Rat}{K L:Nat}{cs cs':Array Value}{v:Q4}
theorem sD {D N:Nat}{p:Rat}(hD:0<D) (h:-(N:Rat)≤(D:Rat)*p∧(D:Rat)*p≤N):aCv p≤(N:Rat):=by
 have h1:(1:Rat)≤(D:Rat):=by
  have:((1:Nat):Rat)≤((D:Nat):Rat):=vp.2 hD;exact this
 unfold aCv;split
 ·rename_i g;have:=Rat.mul_nonneg (a:=-p) (b:=(D:Rat)-1) (by grind) (by grind)
  grind
 ·rename_i g;have:=Rat.mul_nonneg (a:=p) (b:=(D:Rat)-1) (by grind) (by grind)
  grind
theorem tX {bits:Nat}{low top:Int}(F:Fmt bits low (top+1)) (hx:SQ k cs v (2*K)) (hb:Bel v (B64^K)) (hK:K≤200)
 (hb1:1≤bits) (hbits:bits≤53) (hlow:-1074≤low) (hlow2:low≤0) (htop:top≤1023) (hlt:low≤top-bits+1) (htop0:0≤top-bits+1)
 (C:∀k' W,Up k k'→Near4 v bits low (top+1) W→R k' (.float .f64 W)) :
 Cl k 75 #[.agg cs,.int .i64 bits,.int .i64 low,.int .i64 top] R:=by
 intro k0 u0;replace hx:=hx.up u0;replace C:=fun k' W u=>C k' W (u0.trans u);obtain⟨D,hf⟩:=hb.form;rw [oJ]at hf;have hx':=hx;obtain⟨c0,c1,c2,c3,rfl,h0,h1,h2,h3⟩:=hx';refine aLf h0.seg h1.seg h2.seg h3.seg ⟨fun _ vs=>vs=[.bool (irr v)],?_,?_⟩
 ·refine aFw h1 fun k1 u1=>⟨_,rfl,fun g1=>?_,fun g1 k8 u8=>?_⟩
  ·refine aFw (h2.up u1) fun k3 u3=>⟨_,rfl,fun g2=>?_,fun g2 k7 u7=>?_⟩
   ·refine aFw ((h3.up u1).up u3) fun k5 u5=>⟨_,rfl,fun k6 u6=>?_⟩;unfold irr;rw [g1,g2];rfl
   ·unfold irr;rw [g1,g2];rfl
  ·unfold irr;rw [g1];rfl
 ·rintro k9 _ u9 rfl;refine⟨_,rfl,fun g=>?_,fun g=>?_⟩
  ·refine yK (K:=4000) ((h0.up u9).mono oq) oq oq hb1 hbits hlow hlow2 htop hlt htop0 fun k11 u11=>⟨_,rfl,fun k12 u12=>?_⟩;refine C k12 _ (u9.trans (u11.trans u12)) ?_;have:=Near4.real (bits:=bits) (least:=low) (beyond:=top+1) v.a
   rwa [←aAn g]at this
  ·have hirr:=aGn g;refine⟨fun m k' vs=>∃kk:Nat,64≤kk∧kk≤2*(320*K+4321)∧m=640*K+8642-kk∧vs=[.int .i64 (kk:Int)],⟨640*K+8578,fun k' _=>⟨64,oq,oq,oq,rfl⟩⟩,?_⟩;rintro m k13 vs u13 ⟨kk,hk1,hk2,rfl,rfl⟩;refine⟨_,rfl,?_⟩;have hk3:kk≤1000000000:=qg hk2 (qg (qy 2 (Nat.add_le_add_right (qy 320 hK) 4321)) oz);refine aMo (hx.up (u9.trans u13)) oq hk3 oq fun k15 d5 d6 r2 r3 r6 u15 a2 a3 a6 q5 q6=>⟨d5,q5.seg,d6,q6.seg,rfl,?_⟩;have hlo:=aIe v a2 a3 a6;have hhi:=aId v a2 a3 a6;have hgap:=aCy v (r2:=r2) (r3:=r3) (r6:=r6) (1/((2^kk:Nat):Rat));generalize loB v r2 _ r3 _ r6 _=lo at *
   generalize hiB v r2 _ r3 _ r6 _=hi at *
   have hg':hi-lo≤3*((2^(64*K):Nat):Rat)*(1/((2^kk:Nat):Rat)):=by
    rw [hgap];have hP:(0:Rat)<((2^kk:Nat):Rat):=zu.2 (ot kk);have:0≤1/((2^kk:Nat):Rat):=by rw [ky,Rat.one_mul];exact xr (Rat.inv_pos.2 hP)
    refine zw ?_ this;have e1:=sD hf.pos hf.b;have e2:=sD hf.pos hf.c;have e3:=sD hf.pos hf.d
    grind
   refine yK (K:=30000) (q5.mono oq) oq oq hb1 hbits hlow hlow2 htop hlt htop0 fun k17 u17=>⟨_,rfl,?_⟩;refine yK (K:=30000) ((q6.up u17).mono oq) oq oq hb1 hbits hlow hlow2 htop hlt htop0 fun k19 u19=>⟨_,rfl,?_⟩;have en:∀q:Rat,fF (decide (q.num<0)) q.num.natAbs q.den bits low (top+1)=fE q bits low (top+1):=fun _=>rfl
   try dsimp only
   rw [en,en,show FloatKind.format .f64=double from rfl,qD F];have v19:=u9.trans (u13.trans (u15.trans (u17.trans u19)));refine⟨fun f k20 u20=>?_,fun f k21 u21=>?_⟩
   ·have f:=ow f;exact C k20 _ (v19.trans u20) ⟨lo,hi,hlo,hhi,rfl,f.symm⟩
   ·have f:=ov f;have:=aGu F hf (oy _) hirr hlo hhi hg' f;refine⟨640*K+8642-2*kk,oq,2*kk,oq,oq,rfl,?_⟩;rw [show wrap .i64 (2*(kk:Int))=((2*kk:Nat):Int) by rw [qk];omega]
theorem aBo (hx:SQ k cs v (2*K)) (hb:Bel v (B64^K)) (hK:K≤200) (C:∀k' W,Up k k'→Near4 v 53 (-1074) 1024 W→R k' (.float .f64 W)) :
 Cl k 74 #[.agg cs] R:=by
 intro k0 u0;refine aLe hx.seg ?_;exact tX (bits:=53) (top:=1023) nR (hx.up u0) hb hK oz oz oz oz oz oz oz fun k1 W u1 hW=>⟨_,rfl,fun k2 u2=>C k2 W (u0.trans (u1.trans u2)) hW⟩
end
