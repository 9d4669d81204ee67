/- Several texts in one. (Printed by prep.py.) -/
import Derived.Test.YtjgnlflbgmnfaaaGreatHsNL
namespace Go.Proofs.YtjgnlflbgmnfaaaGreat
open Num Plain
structure W4 where
 (re im:Q4)
theorem W4.ext' {x y:W4}(h1:x.re=y.re) (h2:x.im=y.im):x=y:=by cases x;cases y;simp_all
instance:DecidableEq Q4:=fun x y=>decidable_of_iff (x.a=y.a∧x.b=y.b∧x.c=y.c∧x.d=y.d)
 ⟨fun ⟨h1,h2,h3,h4⟩=>Q4.ext' h1 h2 h3 h4,fun h=>by rw [h];exact⟨rfl,rfl,rfl,rfl⟩⟩
instance:DecidableEq W4:=fun x y=>decidable_of_iff (x.re=y.re∧x.im=y.im)
 ⟨fun ⟨h1,h2⟩=>W4.ext' h1 h2,fun h=>by rw [h];exact⟨rfl,rfl⟩⟩
def W4.add (x y:W4):W4:=⟨x.re.add y.re,x.im.add y.im⟩
def W4.sub (x y:W4):W4:=⟨x.re.sub y.re,x.im.sub y.im⟩
def W4.mul (x y:W4):W4:=⟨(x.re.mul y.re).sub (x.im.mul y.im),(x.re.mul y.im).add (x.im.mul y.re)⟩
def W4.neg (x:W4):W4:=⟨x.re.neg,x.im.neg⟩
def W4.conj (x:W4):W4:=⟨x.re,x.im.neg⟩
def W4.norm (x:W4):Q4:=(x.re.mul x.re).add (x.im.mul x.im)
def W4.zero:W4:=⟨Q4.zero,Q4.zero⟩
def W4.real (q:Rat):W4:=⟨Q4.real q,Q4.zero⟩
def bEd:Nat→Q4
 | 0=>⟨1,0,0,0⟩
 | 1=>⟨0,1/4,0,1/4⟩
 | 2=>⟨0,0,1/2,0⟩
 | 3=>⟨0,1/2,0,0⟩
 | 4=>⟨1/2,0,0,0⟩
 | 5=>⟨0,-1/4,0,1/4⟩
 | _=>⟨0,0,0,0⟩
def bEe (m:Nat):Q4:=if 6<m then (bEd (12-m)).neg else bEd m
def bZ (n:Nat):Q4:=if 12<n then bEe (24-n) else bEe n
def aIm (n:Nat):W4:=⟨bZ n,bZ ((n+18) % 24)⟩
def plc (k:Int):Nat:=(k % 24).toNat
theorem aQr (k:Int):plc k<24:=by unfold plc;omega
def bFd (k:Nat):Nat→W4
 | 0=>W4.zero
 | j+1=>(bFd k j).add (aIm (j*k % 24))
def q4s (q:Rat):Bool:=(4*q).den == 1 && decide ((4*q).num.natAbs≤1000)
def Q4.small (v:Q4):Bool:=q4s v.a && q4s v.b && q4s v.c && q4s v.d
def W4.small (v:W4):Bool:=v.re.small && v.im.small
def Q4.t1 (y:Q4):Q4:=⟨y.a,-y.b,y.c,-y.d⟩
def Q4.t2 (y:Q4):Q4:=⟨y.a,y.b,-y.c,-y.d⟩
def Q4.cnj (y:Q4):Q4:=(y.t1.mul y.t2).mul y.t1.t2
def Q4.div (x y:Q4):Q4:=⟨(x.mul y.cnj).a/(y.mul y.cnj).a,(x.mul y.cnj).b/(y.mul y.cnj).a,(x.mul y.cnj).c/(y.mul y.cnj).a,(x.mul y.cnj).d/(y.mul y.cnj).a⟩
theorem Q4.cnj_norm (y:Q4):(y.mul y.cnj).b=0∧(y.mul y.cnj).c=0∧(y.mul y.cnj).d=0:=by
 obtain⟨a,b,c,d⟩:=y;simp only [Q4.cnj,Q4.mul,Q4.t1,Q4.t2];refine⟨?_,?_,?_⟩ <;> grind
theorem Q4.t1_ne {y:Q4}(h:y≠Q4.zero):y.t1≠Q4.zero:=fun e=>h (by
 have ha:=congrArg Q4.a e;have hb:=congrArg Q4.b e;have hc:=congrArg Q4.c e;have hd:=congrArg Q4.d e;simp only [Q4.t1,Q4.zero]at ha hb hc hd
 exact Q4.ext' ha (by show y.b=0;grind) hc (by show y.d=0;grind))
theorem Q4.t2_ne {y:Q4}(h:y≠Q4.zero):y.t2≠Q4.zero:=fun e=>h (by
 have ha:=congrArg Q4.a e;have hb:=congrArg Q4.b e;have hc:=congrArg Q4.c e;have hd:=congrArg Q4.d e;simp only [Q4.t2,Q4.zero]at ha hb hc hd
 exact Q4.ext' ha hb (by show y.c=0;grind) (by show y.d=0;grind))
theorem Q4.norm_ne {y:Q4}(h:y≠Q4.zero):(y.mul y.cnj).a≠0:=by
 intro ha;obtain⟨hb,hc,hd⟩:=Q4.cnj_norm y;have e:y.mul y.cnj=Q4.zero:=Q4.ext' ha hb hc hd;have e2:y.toQ*((y.t1.toQ*y.t2.toQ)*y.t1.t2.toQ)=0:=by
  rw [←jF,←jF,←jF];exact (congrArg Q4.toQ e).trans toQ_zero
 exact C.jJ (aBg.2 h) (C.jJ (C.jJ (aBg.2 (Q4.t1_ne h)) (aBg.2 (Q4.t2_ne h))) (aBg.2 (Q4.t2_ne (Q4.t1_ne h)))) e2
theorem Q4.zero_iff (v:Q4):decide (v=Q4.zero)=(decide (v.a=0) && decide (v.b=0) && decide (v.c=0) && decide (v.d=0)):=by
 rw [vq];simp only [jx,decide_eq_true_iff];constructor
 ·intro h;subst h;exact⟨⟨⟨rfl,rfl⟩,rfl⟩,rfl⟩
 ·intro ⟨⟨⟨h1,h2⟩,h3⟩,h4⟩;exact Q4.ext' h1 h2 h3 h4
def W4.div (x y:W4):W4:=⟨(x.mul y.conj).re.div y.norm,(x.mul y.conj).im.div y.norm⟩
def nn (x:Q4):Prop:=0≤C.sg x.toQ
theorem dS {x y:Q4}(hx:nn x) (hy:nn y):nn (x.add y):=by
 unfold nn at *
 rw [aIk];rcases C.aS x.toQ with ⟨e,h⟩|⟨e,h⟩|⟨e,h⟩
 ·rw [h,show (0:Q23)+y.toQ=y.toQ by generalize y.toQ=q;refine Q23.ext' (Q2.ext' ?_ ?_) (Q2.ext' ?_ ?_) <;> (simp only [Q23.add_re,Q23.add_im,Q23.zero_re,Q23.zero_im,Q2.add_re,Q2.add_im,Q2.zero_re,Q2.zero_im];grind)];exact hy
 ·rcases C.aS y.toQ with ⟨e',h'⟩|⟨e',h'⟩|⟨e',h'⟩
  ·rw [h',show x.toQ+(0:Q23)=x.toQ by generalize x.toQ=q;refine Q23.ext' (Q2.ext' ?_ ?_) (Q2.ext' ?_ ?_) <;> (simp only [Q23.add_re,Q23.add_im,Q23.zero_re,Q23.zero_im,Q2.add_re,Q2.add_im,Q2.zero_re,Q2.zero_im];grind)];exact hx
  ·rw [C.eS (C.add h h')];decide
  ·omega
 ·omega
theorem uC {x y:Q4}(hx:C.sg x.toQ=1) (hy:nn y):C.sg (x.add y).toQ=1:=by
 unfold nn at hy;rw [aIk];rcases C.aS x.toQ with ⟨e,h⟩|⟨e,h⟩|⟨e,h⟩
 ·omega
 ·rcases C.aS y.toQ with ⟨e',h'⟩|⟨e',h'⟩|⟨e',h'⟩
  ·rw [h',show x.toQ+(0:Q23)=x.toQ by generalize x.toQ=q;refine Q23.ext' (Q2.ext' ?_ ?_) (Q2.ext' ?_ ?_) <;> (simp only [Q23.add_re,Q23.add_im,Q23.zero_re,Q23.zero_im,Q2.add_re,Q2.add_im,Q2.zero_re,Q2.zero_im];grind)];exact hx
  ·exact C.eS (C.add h h')
  ·omega
 ·omega
theorem bDg {s t:Int}(hs:s=0∨s=1∨s=-1) (ht:t=0∨t=1∨t=-1) (h:0≤s) (h':0≤t):0≤s*t:=by
 rcases hs with rfl|rfl|rfl <;> rcases ht with rfl|rfl|rfl <;> simp_all
theorem lK {x y:Q4}(hx:nn x) (hy:nn y):nn (x.mul y):=by
 unfold nn at *
 rw [jF,C.uT];exact bDg (C.lU _) (C.lU _) hx hy
theorem mK {x y:Q4}(h:nn (x.mul y)) (hy:C.sg y.toQ=1):nn x:=by
 unfold nn at *
 rw [jF,C.uT,hy,Int.mul_one]at h;exact h
def sg2G (a b:Rat):Int:=cP a.num.sign b.num.sign (a*a-2*(b*b)).num.sign
theorem sJ (a b:Rat):B.sg (⟨a,b⟩:Q2)=sg2G a b:=by rw [←bAx,aIb,aIb,aIb];rfl
def sgG (v:Q4):Int:=cP (sg2G v.a v.b) (sg2G v.c v.d) (sg2G (v.a*v.a+2*(v.b*v.b)-3*(v.c*v.c+2*(v.d*v.d))) (v.a*v.b+v.b*v.a-3*(v.c*v.d+v.d*v.c)))
theorem aFu (v:Q4):C.sg v.toQ=sgG v:=by
 unfold Q4.toQ e4;rw [←aFv,sJ,sJ];have e:(⟨v.a,v.b⟩:Q2)*⟨v.a,v.b⟩-3*((⟨v.c,v.d⟩:Q2)*⟨v.c,v.d⟩)=⟨v.a*v.a+2*(v.b*v.b)-3*(v.c*v.c+2*(v.d*v.d)),v.a*v.b+v.b*v.a-3*(v.c*v.d+v.d*v.c)⟩:=by
  refine Q2.ext' ?_ ?_ <;> simp only [Q2.sub_re,Q2.sub_im,Q2.mul_re,Q2.mul_im,Q2.three_re,Q2.three_im] <;> grind
 rw [e,sJ];rfl
def w2:Q4:=⟨0,1,0,0⟩
def w3:Q4:=⟨0,0,1,0⟩
def w6:Q4:=⟨0,0,0,1⟩
theorem aGg:C.sg w2.toQ=1:=by rw [aFu];decide +kernel
theorem aGh:C.sg w3.toQ=1:=by rw [aFu];decide +kernel
theorem aGi:C.sg w6.toQ=1:=by rw [aFu];decide +kernel
theorem aUf:w2.mul w2=Q4.real 2:=by decide +kernel
theorem aUg:w3.mul w3=Q4.real 3:=by decide +kernel
theorem aUh:w6.mul w6=Q4.real 6:=by decide +kernel
theorem zB (q:Rat):C.sg (Q4.real q).toQ=q.num.sign:=by
 unfold Q4.real Q4.toQ e4;have h0:B.sg (⟨0,0⟩:Q2)=0:=B.sg_zero;rw [←aFv,h0,sJ];show cP (sg2G q 0) 0 _=_;have h1:sg2G q 0=q.num.sign:=by
  unfold sg2G cP;rw [show (0:Rat).num.sign=0 from rfl];split <;> rename_i h
  ·rfl
  ·rw [od rfl]
 rw [h1];unfold cP;split <;> rename_i h
 ·rfl
 ·rw [od rfl]
theorem dD {q:Rat}(h:0≤q):nn (Q4.real q):=by
 unfold nn;rw [zB];have:=xe.2 h;rcases Int.lt_or_eq_of_le this with h|h
 ·rw [zr h];decide
 ·rw [←h];decide
theorem sI {q:Rat}(h:nn (Q4.real q)):0≤q:=by
 unfold nn at h;rw [zB]at h;exact xe.1 (Int.sign_nonneg_iff.1 h)
theorem jW {q:Rat}(h:0<q):C.sg (Q4.real q).toQ=1:=by
 rw [zB];exact zr (iZ h)
theorem bFc (w:Q4) (r n:Rat) (h:w.mul w=Q4.real n):(w.sub (Q4.real r)).mul (w.add (Q4.real r))=Q4.real (n-r*r):=by
 have e:(w.sub (Q4.real r)).mul (w.add (Q4.real r))=(w.mul w).sub (Q4.real (r*r)):=by
  obtain⟨a,b,c,d⟩:=w;refine Q4.ext' ?_ ?_ ?_ ?_ <;> simp only [Q4.mul,Q4.sub,Q4.add,Q4.neg,Q4.real] <;> grind
 rw [e,h];refine Q4.ext' ?_ ?_ ?_ ?_ <;> simp only [Q4.sub,Q4.add,Q4.neg,Q4.real] <;> grind
theorem bEs (w:Q4) (r n:Rat) (h:w.mul w=Q4.real n):((Q4.real r).sub w).mul (w.add (Q4.real r))=Q4.real (r*r-n):=by
 have e:((Q4.real r).sub w).mul (w.add (Q4.real r))=(Q4.real (r*r)).sub (w.mul w):=by
  obtain⟨a,b,c,d⟩:=w;refine Q4.ext' ?_ ?_ ?_ ?_ <;> simp only [Q4.mul,Q4.sub,Q4.add,Q4.neg,Q4.real] <;> grind
 rw [e,h];refine Q4.ext' ?_ ?_ ?_ ?_ <;> simp only [Q4.sub,Q4.add,Q4.neg,Q4.real] <;> grind
section
variable {w x:Q4}{n r s p:Rat}
theorem aHv (hw:C.sg w.toQ=1) (hs:w.mul w=Q4.real n) (h0:0≤r) (h:r*r≤n):nn (w.sub (Q4.real r)):=by
 refine mK ?_ (uC hw (dD h0));rw [bFc w r n hs];exact dD (by grind)
theorem zG (hw:C.sg w.toQ=1) (hs:w.mul w=Q4.real n) (h0:0≤s) (h:n≤s*s):nn ((Q4.real s).sub w):=by
 refine mK ?_ (uC hw (dD h0));rw [bEs w s n hs];exact dD (by grind)
def loT (p r s:Rat):Rat:=if p<0 then p*s else p*r
def hiT (p r s:Rat):Rat:=if p<0 then p*r else p*s
def nG (p:Rat):Rat:=if p<0 then -p else p
theorem aOy (p r e:Rat):hiT p r (r+e)-loT p r (r+e)=nG p*e:=by unfold hiT loT nG;split <;> grind
theorem bI {x y:Q4}(h:nn x) (e:x=y):nn y:=e▸h
theorem zR (h1:nn (w.sub (Q4.real r))) (h2:nn ((Q4.real s).sub w)):nn (((Q4.real p).mul w).sub (Q4.real (loT p r s))):=by
 unfold loT;split <;> rename_i hp
 ·refine bI (lK (dD (q:=-p) (by grind)) h2) ?_;refine Q4.ext' ?_ ?_ ?_ ?_ <;> simp only [Q4.mul,Q4.sub,Q4.add,Q4.neg,Q4.real] <;> grind
 ·refine bI (lK (dD (q:=p) (by grind)) h1) ?_;refine Q4.ext' ?_ ?_ ?_ ?_ <;> simp only [Q4.mul,Q4.sub,Q4.add,Q4.neg,Q4.real] <;> grind
theorem zQ (h1:nn (w.sub (Q4.real r))) (h2:nn ((Q4.real s).sub w)):nn ((Q4.real (hiT p r s)).sub ((Q4.real p).mul w)):=by
 unfold hiT;split <;> rename_i hp
 ·refine bI (lK (dD (q:=-p) (by grind)) h1) ?_;refine Q4.ext' ?_ ?_ ?_ ?_ <;> simp only [Q4.mul,Q4.sub,Q4.add,Q4.neg,Q4.real] <;> grind
 ·refine bI (lK (dD (q:=p) (by grind)) h2) ?_;refine Q4.ext' ?_ ?_ ?_ ?_ <;> simp only [Q4.mul,Q4.sub,Q4.add,Q4.neg,Q4.real] <;> grind
structure Apx (w:Q4) (r s:Rat):Prop where
 lo:nn (w.sub (Q4.real r))
 hi:nn ((Q4.real s).sub w)
def loB (x:Q4) (r2 s2 r3 s3 r6 s6:Rat):Rat:=x.a+loT x.b r2 s2+loT x.c r3 s3+loT x.d r6 s6
def hiB (x:Q4) (r2 s2 r3 s3 r6 s6:Rat):Rat:=x.a+hiT x.b r2 s2+hiT x.c r3 s3+hiT x.d r6 s6
variable {r2 s2 r3 s3 r6 s6:Rat}
theorem aYh (x:Q4) (l m n:Rat):((((Q4.real x.b).mul w2).sub (Q4.real l)).add (((Q4.real x.c).mul w3).sub (Q4.real m))).add (((Q4.real x.d).mul w6).sub (Q4.real n))=x.sub (Q4.real (x.a+l+m+n)):=by
 refine Q4.ext' ?_ ?_ ?_ ?_ <;> simp only [Q4.mul,Q4.sub,Q4.add,Q4.neg,Q4.real,w2,w3,w6] <;> grind
theorem aQm (x:Q4) (l m n:Rat):(((Q4.real l).sub ((Q4.real x.b).mul w2)).add ((Q4.real m).sub ((Q4.real x.c).mul w3))).add ((Q4.real n).sub ((Q4.real x.d).mul w6))=(Q4.real (x.a+l+m+n)).sub x:=by
 refine Q4.ext' ?_ ?_ ?_ ?_ <;> simp only [Q4.mul,Q4.sub,Q4.add,Q4.neg,Q4.real,w2,w3,w6] <;> grind
theorem vQ (x:Q4) (h2:Apx w2 r2 s2) (h3:Apx w3 r3 s3) (h6:Apx w6 r6 s6):nn (x.sub (Q4.real (loB x r2 s2 r3 s3 r6 s6))):=
 bI (dS (dS (zR h2.lo h2.hi) (zR h3.lo h3.hi)) (zR h6.lo h6.hi)) (aYh x _ _ _)
theorem vP (x:Q4) (h2:Apx w2 r2 s2) (h3:Apx w3 r3 s3) (h6:Apx w6 r6 s6):nn ((Q4.real (hiB x r2 s2 r3 s3 r6 s6)).sub x):=
 bI (dS (dS (zQ h2.lo h2.hi) (zQ h3.lo h3.hi)) (zQ h6.lo h6.hi)) (aQm x _ _ _)
theorem sW (x:Q4) (e:Rat):hiB x r2 (r2+e) r3 (r3+e) r6 (r6+e)-loB x r2 (r2+e) r3 (r3+e) r6 (r6+e)=(nG x.b+nG x.c+nG x.d)*e:=by
 have h1:=aOy x.b r2 e;have h2:=aOy x.c r3 e;have h3:=aOy x.d r6 e;unfold hiB loB
 grind
theorem aTk {lo:Rat}(h:nn (x.sub (Q4.real lo))) (hl:0<lo):C.sg x.toQ=1:=by
 have:=uC (jW hl) h
 rwa [show (Q4.real lo).add (x.sub (Q4.real lo))=x by refine Q4.ext' ?_ ?_ ?_ ?_ <;> simp only [Q4.sub,Q4.add,Q4.neg,Q4.real] <;> grind]at this
theorem aTj {hi:Rat}(h:nn ((Q4.real hi).sub x)) (hl:hi<0):C.sg x.toQ=-1:=by
 have:=uC (jW (q:=-hi) (by grind)) h;rw [show (Q4.real (-hi)).add ((Q4.real hi).sub x)=x.neg by refine Q4.ext' ?_ ?_ ?_ ?_ <;> simp only [Q4.sub,Q4.add,Q4.neg,Q4.real] <;> grind,aZu,C.aTi]at this;omega
end
def ab (u:Q4) (c:Rat):Prop:=nn ((Q4.real c).sub u)∧nn ((Q4.real c).add u)
theorem yM {x:Q4}(h:nn ((Q4.real 2).mul x)):nn x:=by
 unfold nn at *
 rw [jF,C.uT,jW oz,Int.one_mul]at h;exact h
section
variable {u v:Q4}{c d:Rat}
theorem aIu (h:ab u c):0≤c:=by
 have:=dS h.1 h.2;refine sI (yM (bI this ?_));refine Q4.ext' ?_ ?_ ?_ ?_ <;> simp only [Q4.mul,Q4.sub,Q4.add,Q4.neg,Q4.real] <;> grind
theorem lB (h:ab u c) (h':ab v d):ab (u.mul v) (c*d):=by
 constructor
 ·refine yM (bI (dS (lK h.1 h'.2) (lK h.2 h'.1)) ?_);refine Q4.ext' ?_ ?_ ?_ ?_ <;> simp only [Q4.mul,Q4.sub,Q4.add,Q4.neg,Q4.real] <;> grind
 ·refine yM (bI (dS (lK h.1 h'.1) (lK h.2 h'.2)) ?_);refine Q4.ext' ?_ ?_ ?_ ?_ <;> simp only [Q4.mul,Q4.sub,Q4.add,Q4.neg,Q4.real] <;> grind
theorem xQ (h:ab u c) (h':ab v d):ab (u.add v) (c+d):=by
 constructor
 ·refine bI (dS h.1 h'.1) ?_;refine Q4.ext' ?_ ?_ ?_ ?_ <;> simp only [Q4.sub,Q4.add,Q4.neg,Q4.real] <;> grind
 ·refine bI (dS h.2 h'.2) ?_;refine Q4.ext' ?_ ?_ ?_ ?_ <;> simp only [Q4.add,Q4.real] <;> grind
theorem nV {q:Rat}(h1:-c≤q) (h2:q≤c):ab (Q4.real q) c:=by
 constructor
 ·refine bI (dD (q:=c-q) (by grind)) ?_;refine Q4.ext' ?_ ?_ ?_ ?_ <;> simp only [Q4.sub,Q4.add,Q4.neg,Q4.real] <;> grind
 ·refine bI (dD (q:=c+q) (by grind)) ?_;refine Q4.ext' ?_ ?_ ?_ ?_ <;> simp only [Q4.add,Q4.real] <;> grind
theorem zA {q:Rat}(h:ab (Q4.real q) c):-c≤q∧q≤c:=by
 have h1:=sI (bI (y:=Q4.real (c-q)) h.1 (by refine Q4.ext' ?_ ?_ ?_ ?_ <;> simp only [Q4.sub,Q4.add,Q4.neg,Q4.real] <;> grind));have h2:=sI (bI (y:=Q4.real (c+q)) h.2 (by refine Q4.ext' ?_ ?_ ?_ ?_ <;> simp only [Q4.add,Q4.real] <;> grind));constructor <;> grind
theorem xR {w:Q4}{n:Rat}(hw:C.sg w.toQ=1) (hs:w.mul w=Q4.real n) (h0:0≤c) (h:n≤c*c):ab w c:=by
 refine⟨zG hw hs h0 h,?_⟩;have:=uC hw (dD h0);unfold nn;rw [show (Q4.real c).add w=w.add (Q4.real c) by refine Q4.ext' ?_ ?_ ?_ ?_ <;> simp only [Q4.add,Q4.real] <;> grind,this];decide
theorem aZz (x:Q4):(((Q4.real x.a).add ((Q4.real x.b).mul w2)).add ((Q4.real x.c).mul w3)).add ((Q4.real x.d).mul w6)=x:=by
 refine Q4.ext' ?_ ?_ ?_ ?_ <;> simp only [Q4.mul,Q4.add,Q4.real,w2,w3,w6] <;> grind
theorem nU {x:Q4}{M:Rat}(a1:-M≤x.a) (a2:x.a≤M) (b1:-M≤x.b) (b2:x.b≤M) (c1:-M≤x.c) (c2:x.c≤M) (d1:-M≤x.d) (d2:x.d≤M):ab x (8*M):=by
 have h:=xQ (xQ (xQ (nV a1 a2) (lB (nV b1 b2) (xR aGg aUf (c:=2) oz (by decide +kernel)))) (lB (nV c1 c2) (xR aGh aUg (c:=2) oz (by decide +kernel)))) (lB (nV d1 d2) (xR aGi aUh (c:=3) oz (by decide +kernel)));rw [aZz,show M+M*2+M*2+M*3=8*M by grind]at h;exact h
theorem aNs {x:Q4}{M:Rat}(a1:-M≤x.a) (a2:x.a≤M) (b1:-M≤x.b) (b2:x.b≤M) (c1:-M≤x.c) (c2:x.c≤M) (d1:-M≤x.d) (d2:x.d≤M):ab x.cnj (8*M*(8*M)*(8*M)):=by
 unfold Q4.cnj;refine lB (lB (nU ?_ ?_ ?_ ?_ ?_ ?_ ?_ ?_) (nU ?_ ?_ ?_ ?_ ?_ ?_ ?_ ?_)) (nU ?_ ?_ ?_ ?_ ?_ ?_ ?_ ?_) <;> simp only [Q4.t1,Q4.t2] <;> grind
end
def isI (q:Rat):Prop:=∃n:Int,q=n
theorem isI.add {p q:Rat}(h:isI p) (h':isI q):isI (p+q):=by obtain⟨m,rfl⟩:=h;obtain⟨n,rfl⟩:=h';exact⟨m+n,(zg m n).symm⟩
theorem isI.mul {p q:Rat}(h:isI p) (h':isI q):isI (p*q):=by obtain⟨m,rfl⟩:=h;obtain⟨n,rfl⟩:=h';exact⟨m*n,(zk m n).symm⟩
theorem isI.neg {p:Rat}(h:isI p):isI (-p):=by obtain⟨m,rfl⟩:=h;exact⟨-m,(jt m).symm⟩
theorem isI_two:isI 2:=⟨2,rfl⟩
theorem isI_three:isI 3:=⟨3,rfl⟩
theorem isI_six:isI 6:=⟨6,rfl⟩
structure isI4 (x:Q4):Prop where
 a:isI x.a
 b:isI x.b
 c:isI x.c
 d:isI x.d
theorem isI4.mul {x y:Q4}(h:isI4 x) (g:isI4 y):isI4 (x.mul y) where
 a:=(((h.a.mul g.a).add (isI_two.mul (h.b.mul g.b))).add (isI_three.mul (h.c.mul g.c))).add (isI_six.mul (h.d.mul g.d))
 b:=((h.a.mul g.b).add (h.b.mul g.a)).add (isI_three.mul ((h.c.mul g.d).add (h.d.mul g.c)))
 c:=((h.a.mul g.c).add (h.c.mul g.a)).add (isI_two.mul ((h.b.mul g.d).add (h.d.mul g.b)))
 d:=(((h.a.mul g.d).add (h.d.mul g.a)).add (h.b.mul g.c)).add (h.c.mul g.b)
theorem isI4.t1 {x:Q4}(h:isI4 x):isI4 x.t1:=⟨h.a,h.b.neg,h.c,h.d.neg⟩
theorem isI4.t2 {x:Q4}(h:isI4 x):isI4 x.t2:=⟨h.a,h.b,h.c.neg,h.d.neg⟩
theorem isI4.cnj {x:Q4}(h:isI4 x):isI4 x.cnj:=(h.t1.mul h.t2).mul h.t1.t2
theorem mU (s t:Rat) (x y:Q4):((Q4.real s).mul x).mul ((Q4.real t).mul y)=(Q4.real (s*t)).mul (x.mul y):=by
 refine Q4.ext' ?_ ?_ ?_ ?_ <;> simp only [Q4.mul,Q4.real] <;> grind
theorem aTf (s:Rat) (x:Q4):((Q4.real s).mul x).t1=(Q4.real s).mul x.t1:=by
 refine Q4.ext' ?_ ?_ ?_ ?_ <;> simp only [Q4.mul,Q4.real,Q4.t1] <;> grind
theorem aCt (s:Rat) (x:Q4):((Q4.real s).mul x).t2=(Q4.real s).mul x.t2:=by
 refine Q4.ext' ?_ ?_ ?_ ?_ <;> simp only [Q4.mul,Q4.real,Q4.t2] <;> grind
theorem aMr (s:Rat) (x:Q4):((Q4.real s).mul x).cnj=(Q4.real (s*s*s)).mul x.cnj:=by
 unfold Q4.cnj;rw [aTf,aCt,aCt,mU,mU]
theorem aFt (s:Rat) (x:Q4):(((Q4.real s).mul x).mul ((Q4.real s).mul x).cnj).a=s*(s*s*s)*(x.mul x.cnj).a:=by
 rw [aMr,mU];generalize x.mul x.cnj=y;simp only [Q4.mul,Q4.real]
 grind
theorem wR (x:Q4):x.mul x.cnj=Q4.real (x.mul x.cnj).a:=by
 obtain⟨h1,h2,h3⟩:=x.cnj_norm;exact Q4.ext' rfl h1 h2 h3
theorem sA (q:Rat):isI ((q.den:Rat)*q):=⟨q.num,by rw [Rat.mul_comm];exact gF q⟩
theorem mG (n:Nat):isI (n:Rat):=⟨n,by rw [zt]⟩
theorem tS (q:Rat) {M:Nat}(h:q.num.natAbs≤M):-(M:Rat)≤q∧q≤(M:Rat):=by
 have hd:(1:Rat)≤(q.den:Rat):=by
  have:=q.den_pos;have h1:((1:Nat):Rat)≤(q.den:Rat):=zy.2 this;exact h1
 have e:=gF q;have h1:(q.num:Rat)≤((M:Int):Rat):=xc.2 oq;have h2:((-(M:Int):Int):Rat)≤(q.num:Rat):=xc.2 oq;rw [jt,zt]at h2;rw [zt]at h1;have hM:(0:Rat)≤(M:Rat):=yr;constructor
 ·refine Rat.not_lt.1 fun hq=>?_;have h3:q*(q.den:Rat)≤q*1:=by
   have:=vp hd (c:=-q) (by grind)
   grind
  grind
 ·refine Rat.not_lt.1 fun hq=>?_;have h3:q*1≤q*(q.den:Rat):=vp hd (by grind)
  grind
structure Parts4 (x:Q4) (M:Nat):Prop where
 a:x.a.num.natAbs≤M∧x.a.den≤M
 b:x.b.num.natAbs≤M∧x.b.den≤M
 c:x.c.num.natAbs≤M∧x.c.den≤M
 d:x.d.num.natAbs≤M∧x.d.den≤M
theorem xS {p:Rat}{M:Nat}(h:p.num.natAbs≤M):nG p≤(M:Rat):=by
 obtain⟨h1,h2⟩:=tS p h;unfold nG;split <;> grind
theorem aEu (x:Q4) {M:Nat}(h:Parts4 x M):∃D:Nat,0<D∧D≤M*M*M*M∧isI ((D:Rat)*((D:Rat)*(D:Rat)*(D:Rat))*(x.mul x.cnj).a):=by
 refine⟨x.a.den*x.b.den*x.c.den*x.d.den,?_,?_,?_⟩
 ·exact jf (jf (jf x.a.den_pos x.b.den_pos) x.c.den_pos) x.d.den_pos
 ·exact zd (zd (zd h.a.2 h.b.2) h.c.2) h.d.2
 ·rw [←aFt];have h4:isI4 ((Q4.real ((x.a.den*x.b.den*x.c.den*x.d.den:Nat):Rat)).mul x):=by
   have ha:=sA x.a;have hb:=sA x.b;have hc:=sA x.c;have hd:=sA x.d;have na:=mG x.a.den;have nb:=mG x.b.den;have nc:=mG x.c.den;have nd:=mG x.d.den;rw [qa,qa,qa];generalize (x.a.den:Rat)=p at *
   generalize (x.b.den:Rat)=q at *
   generalize (x.c.den:Rat)=r at *
   generalize (x.d.den:Rat)=s at *
   constructor
   ·have:=((ha.mul nb).mul nc).mul nd
    rwa [show p*x.a*q*r*s=((Q4.real (p*q*r*s)).mul x).a by simp only [Q4.mul,Q4.real];grind]at this
   ·have:=((hb.mul na).mul nc).mul nd
    rwa [show q*x.b*p*r*s=((Q4.real (p*q*r*s)).mul x).b by simp only [Q4.mul,Q4.real];grind]at this
   ·have:=((hc.mul na).mul nb).mul nd
    rwa [show r*x.c*p*q*s=((Q4.real (p*q*r*s)).mul x).c by simp only [Q4.mul,Q4.real];grind]at this
   ·have:=((hd.mul na).mul nb).mul nc
    rwa [show s*x.d*p*q*r=((Q4.real (p*q*r*s)).mul x).d by simp only [Q4.mul,Q4.real];grind]at this
  exact (h4.mul h4.cnj).a
theorem aPc {q:Rat}(h:isI q) (h0:q≠0):q≤-1∨1≤q:=by
 obtain⟨n,rfl⟩:=h;have hn:n≠0:=fun e=>h0 (by rw [e];rfl);rcases Int.lt_or_gt_of_ne hn with h|h
 ·left
  have:((n:Int):Rat)≤((-1:Int):Rat):=xc.2 oq;exact this
 ·right
  have:((1:Int):Rat)≤((n:Int):Rat):=xc.2 oq;exact this
theorem aDq {x:Q4}{M:Nat}{lo hi e:Rat}(hx:x≠Q4.zero) (hp:Parts4 x M) (he:0≤e) (hl:nn (x.sub (Q4.real lo))) (hh:nn ((Q4.real hi).sub x))
 (hg:hi-lo=(nG x.b+nG x.c+nG x.d)*e) (h1:lo≤0) (h2:0≤hi):1≤((1536*M^20:Nat):Rat)*e:=by
 have gap:hi-lo≤3*(M:Rat)*e:=by
  rw [hg];refine jh ?_ he;have:=xS hp.b.1;have:=xS hp.c.1;have:=xS hp.d.1
  grind
 have hab:ab x (3*(M:Rat)*e):=by
  constructor
  ·refine bI (dS hh (dD (q:=3*(M:Rat)*e-hi) (by grind))) ?_;refine Q4.ext' ?_ ?_ ?_ ?_ <;> simp only [Q4.sub,Q4.add,Q4.neg,Q4.real] <;> grind
  ·refine bI (dS hl (dD (q:=3*(M:Rat)*e+lo) (by grind))) ?_;refine Q4.ext' ?_ ?_ ?_ ?_ <;> simp only [Q4.sub,Q4.add,Q4.neg,Q4.real] <;> grind
 obtain⟨a1,a2⟩:=tS x.a hp.a.1;obtain⟨b1,b2⟩:=tS x.b hp.b.1;obtain⟨c1,c2⟩:=tS x.c hp.c.1;obtain⟨d1,d2⟩:=tS x.d hp.d.1;have hN:=lB hab (aNs a1 a2 b1 b2 c1 c2 d1 d2);rw [wR]at hN;obtain⟨n1,n2⟩:=zA hN;have hne:=Q4.norm_ne hx;obtain⟨D,hD,hDM,hI⟩:=aEu x hp;generalize (x.mul x.cnj).a=N at n1 n2 hne hI;have hD0:(0:Rat)<(D:Rat):=jo.2 hD;have hDp:(0:Rat)<(D:Rat)*((D:Rat)*(D:Rat)*(D:Rat)):=wz hD0 (wz (wz hD0 hD0) hD0);have hz:(D:Rat)*((D:Rat)*(D:Rat)*(D:Rat))*N≠0:=fun h=>by
  rcases Rat.mul_eq_zero.1 h with h|h
  ·grind
  ·exact hne h
 have hge:=aPc hI hz;have hDle:(D:Rat)*((D:Rat)*(D:Rat)*(D:Rat))≤((M^16:Nat):Rat):=by
  rw [←qa,←qa,←qa];refine zy.2 ?_;have h:=zd hDM (zd (zd hDM hDM) hDM);have e:M*M*M*M*(M*M*M*M*(M*M*M*M)*(M*M*M*M))=M^16:=by
   simp only [qc,zz,jv,ql]
  rw [e]at h;exact h
 have hc:0≤3*(M:Rat)*e*(8*(M:Rat)*(8*(M:Rat))*(8*(M:Rat))):=by grind
 have key:((M^16:Nat):Rat)*(3*(M:Rat)*e*(8*(M:Rat)*(8*(M:Rat))*(8*(M:Rat))))=((1536*M^20:Nat):Rat)*e:=by
  have e1:((1536*M^20:Nat):Rat)=1536*((M^16:Nat):Rat)*((M:Rat)*(M:Rat)*(M:Rat)*(M:Rat)):=by
   rw [←qa,←qa,←qa,show (1536:Rat)=((1536:Nat):Rat) from rfl,←qa,←qa]
   congr 1
   rw [show (20:Nat)=16+4 from rfl,oa,ql]
   congr 1
   simp only [qc,zz,jv,ql]
  rw [e1];generalize ((M^16:Nat):Rat)=P;generalize (M:Rat)=m
  grind
 rw [←key];generalize 3*(M:Rat)*e*(8*(M:Rat)*(8*(M:Rat))*(8*(M:Rat)))=c at *
 generalize (D:Rat)*((D:Rat)*(D:Rat)*(D:Rat))=d at *
 have h3:d*c≤((M^16:Nat):Rat)*c:=jh hDle hc;have h4:d*N≤d*c:=vp n2 (vm hDp);have h5:d*-c≤d*N:=vp n1 (vm hDp);rcases hge with hge|hge <;> grind
theorem aAq {x:Q4}{K k:Nat}{lo hi:Rat}(hx:x≠Q4.zero) (hp:Parts4 x (2^(32*K))) (hl:nn (x.sub (Q4.real lo))) (hh:nn ((Q4.real hi).sub x))
 (hg:hi-lo=(nG x.b+nG x.c+nG x.d)*(1/((2^k:Nat):Rat))) (h1:lo≤0) (h2:0≤hi):k≤640*K+11:=by
 have hP:(0:Rat)<((2^k:Nat):Rat):=jo.2 (oi oz);have he:(0:Rat)≤1/((2^k:Nat):Rat):=by
  rw [xh,yk];exact vm (Rat.inv_pos.2 hP)
 have h:=aDq hx hp he hl hh hg h1 h2;have h3:((2^k:Nat):Rat)≤((1536*(2^(32*K))^20:Nat):Rat):=by
  have:=jh h (vm hP);rw [yk,wm,vz (by grind),Rat.mul_one]at this;exact this
 have h4:=zy.1 h3;rw [←zh]at h4;have h5:2^k<2^(11+32*K*20):=by
  rw [oa];refine jk h4 (jz oz (oi oz))
 have:=(Nat.pow_lt_pow_iff_right oz).1 h5;omega
open Num Ieee FT
theorem aOx {X d S:Nat}(hd:0<d):half X (d*(2*S))=half (2*(X/d)+(if X % d=0 then 0 else 1)) (2*(2*S)):=by
 have h1:X/(d*(2*S))=X/d/(2*S):=(jq X d (2*S)).symm;have h2:X % (d*(2*S))=X % d+d*(X/d % (2*S)):=Nat.mod_mul;have hr:X % d<d:=qf _ hd;have h3:(2*(X/d)+(if X % d=0 then 0 else 1)) / (2*(2*S))=X/d/(2*S):=by
  rw [←jq]
  congr 1
  split <;> omega
 have h4:(2*(X/d)+(if X % d=0 then 0 else 1)) % (2*(2*S))=2*(X/d % (2*S))+(if X % d=0 then 0 else 1):=by
  rw [Nat.mod_mul];have e1:(2*(X/d)+(if X % d=0 then 0 else 1)) / 2=X/d:=by split <;> omega
  have e2:(2*(X/d)+(if X % d=0 then 0 else 1)) % 2=(if X % d=0 then 0 else 1):=by split <;> omega
  rw [e1,e2];omega
 unfold half;rw [h1,h2,h3,h4];generalize X/d/(2*S)=q;generalize X/d % (2*S)=m;generalize X % d=r at hr;have a1:decide (d*(2*S)<2*(r+d*m))=decide (2*(2*S)<2*(2*m+(if r=0 then 0 else 1))):=by
  apply decide_eq_decide.2;rw [show d*(2*S)=2*(d*S) by ac_rfl];rcases wy S m with g|g|g
  ·have:d*S+d≤d*m:=by
    have:=qp d (show S+1≤m from g)
    rwa [zp,jp]at this
   split <;> omega
  ·subst g;split <;> omega
  ·have:d*m+d≤d*S:=by
    have:=qp d (show m+1≤S from g)
    rwa [zp,jp]at this
   split <;> omega
 have a2:(d*(2*S) == 2*(r+d*m))=(2*(2*S) == 2*(2*m+(if r=0 then 0 else 1))):=by
  rw [vq,beq_iff_eq,beq_iff_eq];rw [show d*(2*S)=2*(d*S) by ac_rfl];rcases wy S m with g|g|g
  ·have:d*S+d≤d*m:=by
    have:=qp d (show S+1≤m from g)
    rwa [zp,jp]at this
   split <;> omega
  ·subst g;split <;> omega
  ·have:d*m+d≤d*S:=by
    have:=qp d (show m+1≤S from g)
    rwa [zp,jp]at this
   split <;> omega
 rw [a1,a2]
theorem aJv {x y G:Nat}(h:x≤y):half x G≤half y G:=by
 have h1:x/G≤y/G:=Nat.div_le_div_right h;rcases zv (x/G) (y/G) with g|g
 ·exact qt (oK x G) (qt g (sB y G))
 ·have e:x/G=y/G:=vn h1 g;have h2:x % G≤y % G:=by
   have a:=qe x G;have b:=qe y G;rw [e]at a;omega
  unfold half;rw [e];refine Nat.add_le_add_left ?_ _;generalize x % G=r at *
  generalize y % G=t at *
  generalize (y/G % 2 == 1)=o
  by_cases c:G<2*t
  ·rw [decide_eq_true c,Bool.true_or];generalize (decide (G<2*r) || (G == 2*r && o))=b;cases b <;> decide
  ·have c2:¬ G<2*r:=oq
   rw [decide_eq_false c,decide_eq_false c2,yy,yy]
   by_cases d:G=2*r
   ·have:G=2*t:=oq
    rw [beq_iff_eq.2 d,beq_iff_eq.2 this];exact oy _
   ·rw [beq_eq_false_iff_ne.2 d,Bool.false_and];exact zx _
def dB (G a d:Nat):Nat:=2*(a*2^G/d)+(if a*2^G % d=0 then 0 else 1)
def vJ (bits t c:Nat):Nat:=half c (2^max (bl c-bits) t)*2^max (bl c-bits) t
def fO (s:Bool) (beyond:Int) (G u:Nat):Nat:=
 if u=0 then 0 else if beyond+(G+1)<bl u then double.nearest s 1 5000 else double.nearest s u (-((G+1:Nat):Int))
theorem aNu {m k:Nat}(hm:m≠0):bl (m*2^k)=bl m+k:=by
 have hne:m*2^k≠0:=zl hm (by have:=oo k;omega);unfold bl;rw [oh hm,oh hne,fH hm];omega
theorem bEb {m k:Nat}:k<bl m↔2^k≤m:=by
 have:=cI (n:=m) (k:=k);omega
theorem aNv {z:Nat}(h:z≠0) (b:Nat) (hb:b≤1):bl (2*z+b)=bl z+1:=by
 have h1:=eH z;have h2:=eC h;have hb1:1≤bl z:=by unfold bl;rw [oh h];omega
 refine vn (cI.2 ?_) (bEb.2 ?_)
 ·rw [qc];omega
 ·rw [show bl z=bl z-1+1 by omega,qc];omega
theorem aRd {G a d t:Nat}(hd:d≠0) (ht:2≤t):rV a d ((t:Int)-(G+1))=half (dB G a d) (2^t):=by
 have key:rV a d ((t:Int)-(G+1))=half (a*2^G) (d*(2*2^(t-2))):=by
  unfold rV;have e2:2*2^(t-2)=2^(t-1):=by rw [qj,←qc];congr 1;omega
  rw [e2];generalize he:(t:Int)-(G+1)=e;have e3:a*2^G=a*2^(-e).toNat*2^(G-(-e).toNat):=by
   rw [ql,←oa];congr 2;omega
  have e4:d*2^(t-1)=d*2^e.toNat*2^(G-(-e).toNat):=by
   rw [ql,←oa];congr 2;omega
  rw [e3,e4,tM (oo _)]
 rw [key,aOx oq]
 congr 1
 rw [show 2^t=2^(t-2+2) by congr 1;omega,qc,qc];omega
theorem aJa (G d:Nat):dB G 0 d=0:=by unfold dB;rw [vt,Nat.zero_div,Nat.zero_mod];rfl
theorem aPj {G a d bits:Nat}{least:Int}(ha:a≠0) (hd:d≠0) (hb:1≤bits) (hl:1≤least+G) :
 gL a d bits least=((max (bl (dB G a d)-bits) (least+G+1).toNat:Nat):Int)-(G+1):=by
 rw [aEh hd,show (if below2 a d ((bl a:Int)-bl d) then (bl a:Int)-bl d-1 else (bl a:Int)-bl d)=gV a d from rfl];have h0:=wS (a:=a) ha hd;have h1:below2 a d (gV a d+1):=by
  unfold gV;split
  ·rename_i h;rwa [show (bl a:Int)-bl d-1+1=(bl a:Int)-bl d by omega]
  ·exact sU hd
 by_cases hz:a*2^G/d=0
 ·have hlt:a*2^G<d:=by
   rcases Nat.div_eq_zero_iff.1 hz with h|h
   ·exact absurd h hd
   ·exact h
  have hc:bl (dB G a d)≤1:=by
   unfold dB;rw [hz];split <;> decide
  have ht:gV a d < -(G:Int):=ju fun c=>h0 (by
   refine lD hd (e:=-(G:Int)) ?_ oq;unfold below2;rw [show (- -(G:Int)).toNat=G by omega,show (-(G:Int)).toNat=0 by omega,zz,jp]
   exact hlt)
  omega
 ·have hc:bl (dB G a d)=bl (a*2^G/d)+1:=by
   unfold dB;split
   ·exact aNv hz 0 oz
   ·exact aNv hz 1 oz
  have g1:gV a d+1≤(bl (a*2^G/d):Int)-G:=by
   refine ju fun c=>h0 (lD hd (e:=(bl (a*2^G/d):Int)-G) ?_ oq)
   have hq:=(jV (a:=a) (bits:=bl (a*2^G/d)) (f:=-(G:Int)) hd).1 (by
    unfold lQ;rw [show (- -(G:Int)).toNat=G by omega,show (-(G:Int)).toNat=0 by omega,zz,jp]
    exact oy _)
   rwa [show -(G:Int)+(bl (a*2^G/d):Nat)=(bl (a*2^G/d):Int)-G by omega]at hq
  have g2:(bl (a*2^G/d):Int)-G≤gV a d+1:=by
   have hbz:1≤bl (a*2^G/d):=by unfold bl;rw [oh hz];omega
   refine ju fun c=>?_;have hq:=(jV (a:=a) (bits:=bl (a*2^G/d)-1) (f:=-(G:Int)) hd).2 (lD hd h1 oq);unfold lQ at hq;rw [show (- -(G:Int)).toNat=G by omega,show (-(G:Int)).toNat=0 by omega,zz,jp]at hq;omega
  omega
theorem aEs {s:Bool}{G a d bits:Nat}{least beyond:Int}(hd:d≠0) (hb:1≤bits) (hl:1≤least+G) (hlb:least≤beyond) :
 fQ s a d bits least beyond=fO s beyond G (vJ bits (least+G+1).toNat (dB G a d)):=by
 unfold fQ fO vJ
 by_cases ha:a=0
 ·subst ha;rw [od rfl,aJa];have:half 0 (2^max (bl 0-bits) (least+G+1).toNat)=0:=by
   have:=tL (a:=0) (G:=2^max (bl 0-bits) (least+G+1).toNat) (oo _)
   rwa [vt]at this
  rw [this,vt,od rfl]
 rw [oh ha];have el:=aPj (bits:=bits) (least:=least) ha hd hb hl;have em:lA a d bits least=half (dB G a d) (2^max (bl (dB G a d)-bits) (least+G+1).toNat):=by
  unfold lA;rw [el];exact aRd hd oq
 rw [el,em];have hz:half (dB G a d) (2^max (bl (dB G a d)-bits) (least+G+1).toNat)=0→max (bl (dB G a d)-bits) (least+G+1).toNat=(least+G+1).toNat:=fun h=>by
  have h1:=sB (dB G a d) (2^max (bl (dB G a d)-bits) (least+G+1).toNat);rw [h]at h1;have h2:dB G a d<2^max (bl (dB G a d)-bits) (least+G+1).toNat:=by
   rcases Nat.div_eq_zero_iff.1 (Nat.le_zero.1 h1) with g|g
   ·have:=oo (max (bl (dB G a d)-bits) (least+G+1).toNat);omega
   ·exact g
  have h3:=cI.2 h2;omega
 generalize max (bl (dB G a d)-bits) (least+G+1).toNat=t at *
 generalize half (dB G a d) (2^t)=m at *
 by_cases hm:m=0
 ·subst hm;rw [vt,od rfl,od rfl];have h0:bl 0=0:=rfl;have:=hz rfl;rw [h0,oh oq]
 ·have hne:m*2^t≠0:=zl hm (by have:=oo t;omega);rw [oh hm,oh hne,aNu hm];have e:double.nearest s (m*2^t) (-((G+1:Nat):Int))=double.nearest s m ((t:Int)-(G+1)):=by
   have:=cZ (f:=double) (neg:=s) (m:=m) (k:=t) (p:=(t:Int)-(G+1)) hm
   rwa [show (t:Int)-(G+1)-(t:Nat)=-((G+1:Nat):Int) by omega]at this
  rw [e]
  by_cases c:beyond+(G+1)<((bl m+t:Nat):Int)
  ·rw [od oq,od c]
  ·rw [oh oq,oh c]
theorem aAn {m n:Nat}(h:m≤n):bl m≤bl n:=cI.2 (jk h (eH n))
theorem aOw {c t b:Nat}(h:c<2^b):half c (2^t)*2^t≤2^max b t:=by
 rcases zv b t with g|g
 ·have h1:c/2^t=0:=qo (ol h (ot oz oq));have h2:=oK c (2^t);rw [h1]at h2;have h3:=oc (2^t) h2;rw [jy,jv]at h3;rw [Nat.max_eq_right oq];exact h3
 ·have h1:c/2^t<2^(b-t):=Nat.div_lt_of_lt_mul (by rw [←oa,show t+(b-t)=b by omega];exact h);have h2:=oK c (2^t);have h3:=oc (2^t) (show half c (2^t)≤2^(b-t) by omega);rw [←oa,show b-t+t=b by omega]at h3;rw [Nat.max_eq_left g];exact h3
theorem aMa {bits t c c':Nat}(hb:1≤bits) (h:c≤c'):vJ bits t c≤vJ bits t c':=by
 have hbl:=aAn h;unfold vJ
 by_cases e:max (bl c-bits) t=max (bl c'-bits) t
 ·rw [e];exact oc _ (aJv h)
 ·have h1:max (bl c'-bits) t=bl c'-bits:=oq
  have h2:max (bl c-bits) t<bl c'-bits:=oq
  rw [h1];have a:=aOw (t:=max (bl c-bits) t) (eH c);have b:2^(bl c'-1)≤half c' (2^(bl c'-bits))*2^(bl c'-bits):=by
   have hne:c'≠0:=fun e=>by subst e;have:bl 0=0:=rfl;omega
   have h3:=eC hne;have h4:2^(bl c'-1-(bl c'-bits))≤c' / 2^(bl c'-bits):=by
    rw [ja (oo _),←oa,show bl c'-1-(bl c'-bits)+(bl c'-bits)=bl c'-1 by omega];exact h3
   have h5:=oc (2^(bl c'-bits)) (qt h4 (sB c' (2^(bl c'-bits))))
   rwa [←oa,show bl c'-1-(bl c'-bits)+(bl c'-bits)=bl c'-1 by omega]at h5
  exact qt a (qt (ot oz oq) b)
theorem vR {G a d a' d':Nat}(hd:0<d) (hd':0<d') (h:a*d'≤a'*d):dB G a d≤dB G a' d':=by
 have h1:a*2^G*d'≤a'*2^G*d:=by
  rw [Nat.mul_right_comm,Nat.mul_right_comm a'];exact oc _ h
 unfold dB;generalize a*2^G=X at *
 generalize a'*2^G=Y at *
 have hx:=qe X d;have hy:=qe Y d';have hr:=qf X hd;have hr':=qf Y hd';have h2:X/d≤Y/d':=by
  rw [ja hd'];have h3:X/d*d'*d≤Y*d:=by
   refine qt ?_ h1;rw [Nat.mul_right_comm];exact oc _ (vj X d)
  exact Nat.le_of_mul_le_mul_right h3 hd
 rcases zv (X/d) (Y/d') with g|g
 ·split <;> split <;> omega
 ·have e:X/d=Y/d':=vn h2 g
  by_cases c:Y % d'=0
  ·have hc:X % d=0:=by
    rw [c,zo,←e]at hy;rw [←hx,←hy]at h1;generalize X/d=q at *
    rw [jl,ql,qj (d'*q) d,←ql,←ql]at h1;have e2:d*q*d'=d*d'*q:=by ac_rfl
    rw [e2]at h1;have h4:X % d*d'=0:=oq
    rcases Nat.mul_eq_zero.1 h4 with z|z
    ·exact z
    ·omega
   rw [od hc,od c];omega
  ·rw [oh c];split <;> omega
theorem aGt:bl 0=0:=rfl
def InF (G u:Nat):Prop:=∃m p,Has double m p∧-((G+1:Nat):Int)≤p∧u=m*2^(p+(G+1:Nat)).toNat
def Img (b:Int) (G u:Nat):Prop:=u=0∨(u≠0∧b+(G+1)<bl u)∨(u≠0∧¬ b+(G+1)<bl u∧InF G u)
theorem aSk {G bits t c:Nat}{b:Int}(hbits:bits≤53) (hb:b≤1024) (hG:1074≤G) (ht:(G:Int)+1-1074≤t):Img b G (vJ bits t c):=by
 by_cases h0:vJ bits t c=0
 ·exact .inl h0
 refine .inr ?_
 by_cases h1:b+(G+1)<bl (vJ bits t c)
 ·exact .inl ⟨h0,h1⟩
 refine .inr ⟨h0,h1,?_⟩;unfold vJ at *
 have hm:half c (2^max (bl c-bits) t)≤2^53:=by
  have a:=oK c (2^max (bl c-bits) t)
  have b:c/2^max (bl c-bits) t<2^bits:=Nat.div_lt_of_lt_mul (by
   rw [←oa]
   exact ol (eH c) (ot oz oq))
  have d:2^bits≤2^53:=ot oz hbits;omega
 have ht2:t≤max (bl c-bits) t:=Nat.le_max_right _ _;generalize max (bl c-bits) t=w at *
 generalize half c (2^w)=m at *
 have hm0:m≠0:=fun e=>h0 (by rw [e,vt]);rw [aNu hm0]at h1;rcases zv m (2^53) with g|g
 ·refine⟨m,(w:Int)-(G+1:Nat),oL hm0 g oq oq,oq,?_⟩;rw [show ((w:Int)-(G+1:Nat)+(G+1:Nat)).toNat=w by omega]
 ·have e:m=2^53:=vn hm g;subst e;have hl:bl (2^53)=54:=by decide +kernel
  rw [hl]at h1;have h11:bl 1=1:=by decide +kernel
  refine⟨1,(w:Int)+53-(G+1:Nat),oL oz oz oq (by rw [h11];omega),oq,?_⟩;rw [show ((w:Int)+53-(G+1:Nat)+(G+1:Nat)).toNat=53+w by omega,jv,oa]
theorem InF.read {G u:Nat}(h:InF G u) (hG:1074≤G) (s:Bool):∃M i,double.read (double.nearest s u (-((G+1:Nat):Int)))=.number s M i∧M≠0∧-((G+1:Nat):Int)≤i∧u=M*2^(i+(G+1:Nat)).toNat:=by
 obtain⟨m,p,h,hp,rfl⟩:=h;have hle:=h.last_le;have hlow:(-1074:Int)≤last double m p:=yp _ _;refine⟨m*2^(p-last double m p).toNat,last double m p,?_,zl h.ne (Nat.ne_of_gt (oo _)),oq,?_⟩
 ·have e:double.nearest s (m*2^(p+(G+1:Nat)).toNat) (-((G+1:Nat):Int))=double.nearest s m p:=by
   have:=cZ (f:=double) (neg:=s) (m:=m) (k:=(p+(G+1:Nat)).toNat) (p:=p) h.ne
   rwa [show p-((p+(G+1:Nat)).toNat:Nat)=-((G+1:Nat):Int) by omega]at this
  rw [e];exact h.read aY
 ·rw [ql,←oa]
  congr 2
  omega
theorem eF:double.read 0=.number false 0 (-1074):=by decide +kernel
theorem dG (s:Bool):double.read (double.nearest s 1 5000)=.infinity s:=by cases s <;> decide +kernel
theorem xI {b:Int}{G u u':Nat}{s s':Bool}(hG:1074≤G) (h:Img b G u) (h':Img b G u') (e:fO s b G u=fO s' b G u') :
 (u=0∧u'=0)∨(u≠0∧u'≠0∧s=s'∧((b+(G+1)<bl u∧b+(G+1)<bl u')∨u=u')):=by
 unfold fO at e;rcases h with h|⟨h,g⟩|⟨h,g,i⟩ <;> rcases h' with h'|⟨h',g'⟩|⟨h',g',i'⟩
 ·exact .inl ⟨h,h'⟩
 ·rw [od h,oh h',od g']at e;have:=congrArg double.read e;rw [eF,dG]at this;cases this
 ·rw [od h,oh h',oh g']at e;obtain⟨M,j,r,hM,_⟩:=i'.read hG s';have:=congrArg double.read e;rw [eF,r]at this;injection this with _ a;exact absurd a.symm hM
 ·rw [od h',oh h,od g]at e;have:=congrArg double.read e;rw [eF,dG]at this;cases this
 ·rw [oh h,oh h',od g,od g']at e;have:=congrArg double.read e;rw [dG,dG]at this;injection this with a;exact .inr ⟨h,h',a,.inl ⟨g,g'⟩⟩
 ·rw [oh h,oh h',od g,oh g']at e;obtain⟨M,j,r,hM,_⟩:=i'.read hG s';have:=congrArg double.read e;rw [dG,r]at this;cases this
 ·rw [od h',oh h,oh g]at e;obtain⟨M,j,r,hM,_⟩:=i.read hG s;have:=congrArg double.read e;rw [eF,r]at this;injection this with _ a;exact absurd a hM
 ·rw [oh h,oh h',oh g,od g']at e;obtain⟨M,j,r,hM,_⟩:=i.read hG s;have:=congrArg double.read e;rw [dG,r]at this;cases this
 ·rw [oh h,oh h',oh g,oh g']at e;obtain⟨M,j,r,hM,_,eu⟩:=i.read hG s;obtain⟨M',j',r',hM',_,eu'⟩:=i'.read hG s';have:=congrArg double.read e;rw [r,r']at this;injection this with a1 a2 a3;exact .inr ⟨h,h',a1,.inr (by rw [eu,eu',a2,a3])⟩
theorem aWp (z:Int):(some (compare z z) == some Ordering.eq)=true:=by rw [show compare z z=Ordering.eq from by simp [compare,compareOfLessAndEq]];rfl
theorem pR {x y:Int}(h:(some (compare x y) == some Ordering.eq)=true):x=y:=by
 simp only [compare,compareOfLessAndEq]at h
 by_cases a:x<y
 ·rw [od a]at h;cases h
 ·rw [oh a]at h
  by_cases c:x=y
  ·exact c
  ·rw [oh c]at h;cases h
theorem aEy {w:Nat}(h:∀s t,double.read w≠.nan s t):(double.order w w == some Ordering.eq)=true:=by
 unfold Format.order;generalize double.read w=d at h;cases d with
 | nan s t=>exact absurd rfl (h s t)
 | infinity s=>unfold Datum.order;cases s <;> rfl
 | number s m i=>exact aWp _
theorem aEz {b:Int}{G u u':Nat}{s s':Bool}(hG:1074≤G) (h:Img b G u) (h':Img b G u') :
 (double.order (fO s b G u) (fO s' b G u') == some Ordering.eq)=decide (fO s b G u=fO s' b G u'):=by
 by_cases e:fO s b G u=fO s' b G u'
 ·rw [←e,decide_eq_true rfl];refine aEy ?_;unfold fO;rcases h with h|⟨h,g⟩|⟨h,g,i⟩
  ·rw [od h,eF];intro _ _ c;cases c
  ·rw [oh h,od g,dG];intro _ _ c;cases c
  ·obtain⟨M,j,r,hM,_⟩:=i.read hG s;rw [oh h,oh g,r];intro _ _ c;cases c
 ·rw [decide_eq_false e];refine Bool.eq_false_iff.2 fun o=>e ?_;unfold fO at o ⊢;unfold Format.order at o;rcases h with h|⟨h,g⟩|⟨h,g,i⟩ <;> rcases h' with h'|⟨h',g'⟩|⟨h',g',i'⟩
  ·rw [od h,od h']
  ·rw [od h,oh h',od g',eF,dG]at o;cases s' <;> cases o
  ·obtain⟨M,j,r,hM,_⟩:=i'.read hG s';rw [od h,oh h',oh g',eF,r]at o;have o:_=_:=pR o;exfalso;unfold signed at o;simp only [vd,vt]at o;have p1:=zl hM (Nat.ne_of_gt (oo (j-min (-1074) j).toNat));generalize M*2^(j-min (-1074) j).toNat=x at o p1;clear h h' e g' r;cases s' <;> simp at o <;> omega
  ·rw [oh h,od h',od g,eF,dG]at o;cases s <;> cases o
  ·rw [oh h,oh h',od g,od g',dG,dG]at o;rw [oh h,oh h',od g,od g'];cases s <;> cases s' <;> first|rfl|cases o
  ·obtain⟨M,j,r,hM,_⟩:=i'.read hG s';rw [oh h,oh h',od g,oh g',dG,r]at o;cases s <;> cases o
  ·obtain⟨M,j,r,hM,_⟩:=i.read hG s;rw [oh h,od h',oh g,eF,r]at o;have o:_=_:=pR o;exfalso;unfold signed at o;simp only [vd,vt]at o;have p1:=zl hM (Nat.ne_of_gt (oo (j-min j (-1074)).toNat));generalize M*2^(j-min j (-1074)).toNat=x at o p1;clear h h' e g r;cases s <;> simp at o <;> omega
  ·obtain⟨M,j,r,hM,_⟩:=i.read hG s;rw [oh h,oh h',oh g,od g',dG,r]at o;cases s' <;> cases o
  ·obtain⟨M,j,r,hM,hj,eu⟩:=i.read hG s;obtain⟨M',j',r',hM',hj',eu'⟩:=i'.read hG s';rw [oh h,oh h',oh g,oh g',r,r']at o;have o:_=_:=pR o;rw [oh h,oh h',oh g,oh g'];unfold signed at o;simp only [vd]at o;have p1:=zl hM (show 2^(j-min j j').toNat≠0 by have:=oo (j-min j j').toNat;omega);have p2:=zl hM' (show 2^(j'-min j j').toNat≠0 by have:=oo (j'-min j j').toNat;omega);have key:s=s'∧M*2^(j-min j j').toNat=M'*2^(j'-min j j').toNat:=by
    generalize M*2^(j-min j j').toNat=x at o p1;generalize M'*2^(j'-min j j').toNat=y at o p2;cases s <;> cases s' <;> simp at o ⊢ <;> omega
   obtain⟨rfl,k2⟩:=key;have:u=u':=by
    rw [eu,eu',show (j+(G+1:Nat)).toNat=(j-min j j').toNat+(min j j'+(G+1:Nat)).toNat by omega,show (j'+(G+1:Nat)).toNat=(j'-min j j').toNat+(min j j'+(G+1:Nat)).toNat by omega,oa,oa,←ql,←ql,k2]
   rw [this]
theorem xJ {b:Int}{G u u' u'':Nat}{s:Bool}(hG:1074≤G) (h:Img b G u) (h'':Img b G u'') (a:u≤u') (c:u'≤u'') (e:fO s b G u=fO s b G u''):fO s b G u'=fO s b G u:=by
 rcases xI hG h h'' e with ⟨h1,h2⟩|⟨h1,h2,_,⟨h3,h4⟩|h3⟩
 ·rw [show u'=u by omega]
 ·have:=aAn a;unfold fO;rw [oh h1,oh oq,od h3,od oq]
 ·rw [show u'=u by omega]
def fP (q:Rat) (bits:Nat) (least beyond:Int):Nat:=fQ (decide (q.num<0)) q.num.natAbs q.den bits least beyond
section
variable {lo hi x:Rat}{bits:Nat}{least beyond:Int}
structure Fmt (bits:Nat) (least beyond:Int):Prop where
 one:1≤bits
 bits:bits≤53
 low:-1074≤least
 top:beyond≤1024
 mid:least≤beyond
theorem oI:Fmt 53 (-1074) 1024:=⟨oz,oz,oz,oz,oz⟩
theorem gY:Fmt 24 (-149) 128:=⟨oz,oz,oz,oz,oz⟩
def uQ (q:Rat) (bits:Nat) (least:Int):Nat:=vJ bits (least+(1075:Nat)+1).toNat (dB 1075 q.num.natAbs q.den)
theorem gG (F:Fmt bits least beyond) (q:Rat):fP q bits least beyond=fO (decide (q.num<0)) beyond 1075 (uQ q bits least):=
 aEs q.den_nz F.one (by have:=F.low;omega) F.mid
theorem mA (F:Fmt bits least beyond) (q:Rat):Img beyond 1075 (uQ q bits least):=aSk F.bits F.top oz (by have:=F.low;omega)
theorem mW (F:Fmt bits least beyond) (h:lo.num.natAbs*hi.den≤hi.num.natAbs*lo.den):uQ lo bits least≤uQ hi bits least:=aMa F.one (vR lo.den_pos hi.den_pos h)
theorem sQ {x y:Rat}(h:x≤y) (h0:0≤x.num):x.num.natAbs*y.den≤y.num.natAbs*x.den:=by
 have h1:=(Rat.le_iff x y).1 h;have hd:=y.den_pos;have h2:0≤y.num:=by
  have:0≤x.num*y.den:=Int.mul_nonneg h0 oq;refine ju fun c=>?_;have:=Int.mul_neg_of_neg_of_pos (show y.num<0 by omega) (show (0:Int)<x.den by have:=x.den_pos;omega);omega
 have e1:x.num=(x.num.natAbs:Int):=oq
 have e2:y.num=(y.num.natAbs:Int):=oq
 rw [e1,e2]at h1
 exact_mod_cast h1
theorem kC {x y:Rat}(h:x≤y) (h0:y.num≤0):y.num.natAbs*x.den≤x.num.natAbs*y.den:=by
 have:=sQ (Rat.neg_le_neg h) (by rw [Rat.neg_num];omega)
 rwa [Rat.neg_num,Rat.neg_num,Rat.neg_den,Rat.neg_den,Int.natAbs_neg,Int.natAbs_neg]at this
theorem mL {x y:Rat}(h:x≤y) (h0:0≤x.num):0≤y.num:=xe.2 (Rat.le_trans (xe.1 h0) h)
theorem wP (F:Fmt bits least beyond) (h1:lo≤x) (h2:x≤hi) (e:fP lo bits least beyond=fP hi bits least beyond):fP x bits least beyond=fP lo bits least beyond:=by
 rw [gG F,gG F]at e;rw [gG F,gG F]
 by_cases a:0≤lo.num
 ·have b:=mL h1 a;have c:=mL h2 b;rw [decide_eq_false (show ¬ lo.num<0 by omega),decide_eq_false (show ¬ hi.num<0 by omega)]at e;rw [decide_eq_false (show ¬ lo.num<0 by omega),decide_eq_false (show ¬ x.num<0 by omega)];exact xJ oz (mA F lo) (mA F hi) (mW F (sQ h1 a)) (mW F (sQ h2 b)) e
 ·by_cases c:0≤hi.num
  ·rw [decide_eq_true (show lo.num<0 by omega),decide_eq_false (show ¬ hi.num<0 by omega)]at e;rcases xI oz (mA F lo) (mA F hi) e with ⟨z1,z2⟩|⟨_,_,z,_⟩
   ·have:uQ x bits least=0:=by
     by_cases b:0≤x.num
     ·have:=mW F (sQ h2 b);omega
     ·have:=mW F (kC h1 oq);omega
    rw [this,z1];rfl
   ·cases z
  ·have b:x.num<0:=ju fun g=>c (mL h2 oq);rw [decide_eq_true (show lo.num<0 by omega),decide_eq_true (show hi.num<0 by omega)]at e;rw [decide_eq_true (show lo.num<0 by omega),decide_eq_true b];have:=xJ oz (mA F hi) (mA F lo) (mW F (kC h2 oq)) (mW F (kC h1 oq)) e.symm;rw [this,e]
theorem qU (F:Fmt bits least beyond) (x y:Rat):(double.order (fP x bits least beyond) (fP y bits least beyond) == some Ordering.eq)=decide (fP x bits least beyond=fP y bits least beyond):=by
 rw [gG F,gG F];exact aEz oz (mA F x) (mA F y)
theorem vS {G a d a' d':Nat}(hd:0<d) (hd':0<d') (h:a*d'≤a'*d) (hz:a'*2^G/d'*d<a*2^G):dB G a d=dB G a' d':=by
 have h1:=vR (G:=G) hd hd' h;refine vn h1 ?_;unfold dB;generalize a*2^G=X at *
 generalize a'*2^G/d'=z at *
 have h2:z≤X/d:=(ja hd).2 oq;have hx:=qe X d;rcases zv z (X/d) with g|g
 ·split <;> split <;> omega
 ·have e:z=X/d:=vn h2 g;have:X % d≠0:=fun c=>by
   rw [c,zo,←e,qj]at hx;omega
  rw [oh this];split <;> omega
theorem aBn (q:Rat) (G:Nat):q*((2^G:Nat):Rat)*(q.den:Rat)=((q.num*((2^G:Nat):Int):Int):Rat):=by
 rw [wm,Rat.mul_comm ((2^G:Nat):Rat),←wm,gF,zk];rfl
theorem aBm (q:Rat) (z:Int):(z:Rat)*(q.den:Rat)=((z*(q.den:Int):Int):Rat):=by
 rw [zk];rfl
theorem yD {q:Rat}{z:Int}{G:Nat}(h:¬ (z:Rat) / ((2^G:Nat):Rat)≤q):q.num*((2^G:Nat):Int)<z*q.den:=by
 have hp:(0:Rat)<((2^G:Nat):Rat):=jo.2 (oo G);have hd:(0:Rat)<(q.den:Rat):=jo.2 q.den_pos;have h1:=(wj hd).2 ((Rat.lt_div_iff hp).1 (Rat.not_le.1 h));rw [aBn,aBm]at h1;exact Rat.intCast_lt_intCast.1 h1
theorem yE {q:Rat}{z:Int}{G:Nat}(h:¬ q≤(z:Rat) / ((2^G:Nat):Rat)):z*q.den<q.num*((2^G:Nat):Int):=by
 have hp:(0:Rat)<((2^G:Nat):Rat):=jo.2 (oo G);have hd:(0:Rat)<(q.den:Rat):=jo.2 q.den_pos;have h1:=(wj hd).2 ((Rat.div_lt_iff hp).1 (Rat.not_le.1 h));rw [aBn,aBm]at h1;exact Rat.intCast_lt_intCast.1 h1
theorem cW (a b:Nat):((a:Int)*(b:Int))=((a*b:Nat):Int):=(vv a b).symm
theorem aEr (F:Fmt bits least beyond) (h:lo≤hi) (hno:∀z:Int,lo≤(z:Rat) / ((2^1075:Nat):Rat)→(z:Rat) / ((2^1075:Nat):Rat)≤hi→False) :
 fP lo bits least beyond=fP hi bits least beyond:=by
 rw [gG F,gG F];unfold uQ;generalize (1075:Nat)=G at *
 have hl:=lo.den_pos;have hh:=hi.den_pos
 by_cases a:0≤lo.num
 ·have b:=mL h a;have hab:=sQ h a;have e1:hi.num=(hi.num.natAbs:Int):=oq
  have e2:lo.num=(lo.num.natAbs:Int):=oq
  rw [decide_eq_false (show ¬ lo.num<0 by omega),decide_eq_false (show ¬ hi.num<0 by omega)];have key:(hi.num.natAbs*2^G/hi.den)*lo.den<lo.num.natAbs*2^G:=by
   have g:((hi.num.natAbs*2^G/hi.den:Nat):Int)*lo.den<lo.num*((2^G:Nat):Int):=yE fun c=>hno _ c (ju fun c2=>by
    have:=yD c2;have h3:=vj (hi.num.natAbs*2^G) hi.den;generalize hi.num.natAbs=n at *
    rw [e1,cW,cW]at this
    omega)
   generalize lo.num.natAbs=n at *
   rw [e2,cW,cW]at g;omega
  rw [vS hl hh hab key]
 ·by_cases b:0≤hi.num
  ·exact (hno 0 (ju fun c=>by
    have:=yE c;have:=Int.mul_neg_of_neg_of_pos (show lo.num<0 by omega) (show (0:Int)<((2^G:Nat):Int) by have:=oo G;omega)
    omega) (ju fun c=>by
    have:=yD c;have:=Int.mul_nonneg b (show (0:Int)≤((2^G:Nat):Int) from Int.natCast_nonneg _)
    omega)).elim
  ·have hab:=kC h oq;have e1:hi.num=-(hi.num.natAbs:Int):=oq
   have e2:lo.num=-(lo.num.natAbs:Int):=oq
   rw [decide_eq_true (show lo.num<0 by omega),decide_eq_true (show hi.num<0 by omega)];have key:(lo.num.natAbs*2^G/lo.den)*hi.den<hi.num.natAbs*2^G:=by
    have g:hi.num*((2^G:Nat):Int) < -((lo.num.natAbs*2^G/lo.den:Nat):Int)*hi.den:=yD fun c=>hno _ (ju fun c2=>by
     have:=yE c2;have h3:=vj (lo.num.natAbs*2^G) lo.den;generalize lo.num.natAbs=n at *
     rw [e2,Int.neg_mul,Int.neg_mul,cW,cW]at this
     omega) c
    generalize hi.num.natAbs=n at *
    rw [e1,Int.neg_mul,Int.neg_mul,cW,cW]at g;omega
   rw [vS hh hl hab key]
end
def Near4 (x:Q4) (bits:Nat) (least beyond:Int) (W:Nat):Prop:=
 ∃lo hi:Rat,nn (x.sub (Q4.real lo))∧nn ((Q4.real hi).sub x)∧fP lo bits least beyond=W∧fP hi bits least beyond=W
section
variable {x:Q4}{bits:Nat}{least beyond:Int}{W W':Nat}{lo hi:Rat}
theorem aPw (hl:nn (x.sub (Q4.real lo))) (hh:nn ((Q4.real hi).sub x)):lo≤hi:=by
 have:=sI (q:=hi-lo) (bI (dS hl hh) (by refine Q4.ext' ?_ ?_ ?_ ?_ <;> simp only [Q4.sub,Q4.add,Q4.neg,Q4.real] <;> grind))
 grind
theorem Near4.unique (F:Fmt bits least beyond) (h:Near4 x bits least beyond W) (h':Near4 x bits least beyond W'):W=W':=by
 obtain⟨l,u,a1,a2,a3,a4⟩:=h;obtain⟨l',u',b1,b2,b3,b4⟩:=h';have c1:=aPw a1 b2;have c2:=aPw b1 a2
 by_cases g:l≤l'
 ·have e1:=wP F g c2 (by rw [a3,a4]);rw [←b3,e1,a3]
 ·have g:l'≤l:=vm (Rat.not_le.1 g);have e1:=wP F g c1 (by rw [b3,b4]);rw [←a3,e1,b3]
theorem sF (q:Rat):nn ((Q4.real q).sub (Q4.real q)):=bI (dD (q:=0) oz) (by refine Q4.ext' ?_ ?_ ?_ ?_ <;> simp only [Q4.sub,Q4.add,Q4.neg,Q4.real] <;> grind)
theorem Near4.real (q:Rat):Near4 (Q4.real q) bits least beyond (fP q bits least beyond):=⟨q,q,sF q,sF q,rfl,rfl⟩
end
structure IntForm (x:Q4) (D N:Nat):Prop where
 pos:0<D
 le:D≤N
 int:isI4 ((Q4.real (D:Rat)).mul x)
 a:-(N:Rat)≤(D:Rat)*x.a∧(D:Rat)*x.a≤N
 b:-(N:Rat)≤(D:Rat)*x.b∧(D:Rat)*x.b≤N
 c:-(N:Rat)≤(D:Rat)*x.c∧(D:Rat)*x.c≤N
 d:-(N:Rat)≤(D:Rat)*x.d∧(D:Rat)*x.d≤N
theorem pW (s:Rat) (x:Q4):((Q4.real s).mul x).a=s*x.a∧((Q4.real s).mul x).b=s*x.b∧((Q4.real s).mul x).c=s*x.c∧((Q4.real s).mul x).d=s*x.d:=by
 refine⟨?_,?_,?_,?_⟩ <;> simp only [Q4.mul,Q4.real] <;> grind
theorem aXj {Y:Q4}{M c:Rat}(hI:isI4 Y) (hne:Y≠Q4.zero) (hab:ab Y c) (ha:-M≤Y.a∧Y.a≤M) (hb:-M≤Y.b∧Y.b≤M) (hc:-M≤Y.c∧Y.c≤M) (hd:-M≤Y.d∧Y.d≤M) :
 1≤c*(8*M*(8*M)*(8*M)):=by
 have hN:=lB hab (aNs ha.1 ha.2 hb.1 hb.2 hc.1 hc.2 hd.1 hd.2);rw [wR]at hN;obtain⟨n1,n2⟩:=zA hN;have hz:=Q4.norm_ne hne;have hi:=aPc (hI.mul hI.cnj).a hz;rcases hi with h|h <;> grind
theorem aPv {x:Q4}{D N G k B:Nat}{lo hi:Rat}{z:Int}(F:IntForm x D N) (hirr:¬ (x.b=0∧x.c=0∧x.d=0)) (hl:nn (x.sub (Q4.real lo))) (hh:nn ((Q4.real hi).sub x))
 (hg:hi-lo≤3*(N:Rat)*(1/((2^k:Nat):Rat))) (h1:lo≤(z:Rat) / ((2^G:Nat):Rat)) (h2:(z:Rat) / ((2^G:Nat):Rat)≤hi) (hN:N≤2^B):k≤5*B+4*G+21:=by
 refine ju fun hk=>?_;have hP:(0:Rat)<((2^G:Nat):Rat):=jo.2 (oo G);have hK:(0:Rat)<((2^k:Nat):Rat):=jo.2 (oo k);have hD:(0:Rat)<(D:Rat):=jo.2 F.pos;have hDN:(D:Rat)≤(N:Rat):=zy.2 F.le;have hN0:(0:Rat)<(N:Rat):=by grind
 -- the gap is at most 1
 have hkN:3*N≤2^k:=by
  have a:3*N≤2^(B+2):=by rw [oa];omega
  exact qt a (ot oz oq)
 have hkR:3*(N:Rat)≤((2^k:Nat):Rat):=by
  have:=zy.2 hkN;rw [qa]at this;exact this
 have hbig:3*N*N*2^G*(72*2^G*N*(72*2^G*N)*(72*2^G*N))<2^k:=by
  have e:3*N*N*2^G*(72*2^G*N*(72*2^G*N)*(72*2^G*N))=1119744*(N*N*N*N*N)*(2^G*2^G*2^G*2^G):=by
   have:3*N*N*2^G*(72*2^G*N*(72*2^G*N)*(72*2^G*N))=3*72*72*72*(N*N*N*N*N)*(2^G*2^G*2^G*2^G):=by ac_rfl
   rw [this]
  rw [e];have p1:N*N*N*N*N≤2^(5*B):=by
   have:=zd (zd (zd (zd hN hN) hN) hN) hN
   rwa [←oa,←oa,←oa,←oa,show B+B+B+B+B=5*B by omega]at this
  have p2:2^G*2^G*2^G*2^G=2^(4*G):=by rw [←oa,←oa,←oa];congr 1;omega
  rw [p2];have p3:1119744*(N*N*N*N*N)*2^(4*G)<2^21*2^(5*B)*2^(4*G):=by
   refine jz ?_ (oo _);exact jk (qp _ p1) (jz oz (oo _))
  refine ol p3 ?_;rw [←oa,←oa];exact ot oz oq
 have hbigR:3*(N:Rat)*N*((2^G:Nat):Rat)*(72*((2^G:Nat):Rat)*N*(72*((2^G:Nat):Rat)*N)*(72*((2^G:Nat):Rat)*N))<((2^k:Nat):Rat):=by
  have:=Rat.natCast_lt_natCast.2 hbig;simp only [qa]at this;exact this
 have ht:(z:Rat) / ((2^G:Nat):Rat)*((2^G:Nat):Rat)=z:=vz (by grind);have hgk:3*(N:Rat)*(1/((2^k:Nat):Rat))*((2^k:Nat):Rat)=3*(N:Rat):=by rw [wm,vz (by grind),Rat.mul_one]
 have hzI:isI (z:Rat):=⟨z,rfl⟩;have hPI:isI ((2^G:Nat):Rat):=mG _;have hDI:isI (D:Rat):=mG _;have fa:=F.int;have fc:=F.b;have fd:=F.c;have fe:=F.d;clear hbig hkN hN F;generalize (z:Rat) / ((2^G:Nat):Rat)=t at *
 generalize ((2^G:Nat):Rat)=P at *
 generalize ((2^k:Nat):Rat)=E at *
 generalize (N:Rat)=n at *
 generalize (z:Rat)=y at *
 generalize 3*n*(1/E)=g at *
 generalize (D:Rat)=q at *
 obtain⟨m1,m2,m3,m4⟩:=pW q x;have i1:=fa.a;have i2:=fa.b;have i3:=fa.c;have i4:=fa.d;rw [m1]at i1;rw [m2]at i2;rw [m3]at i3;rw [m4]at i4;clear m1 m2 m3 m4 fa;have hgap:ab (x.sub (Q4.real t)) g:=by
  constructor
  ·refine bI (dS hh (dD (q:=g-(hi-t)) (by grind))) ?_;refine Q4.ext' ?_ ?_ ?_ ?_ <;> simp only [Q4.sub,Q4.add,Q4.neg,Q4.real] <;> grind
  ·refine bI (dS hl (dD (q:=g-(t-lo)) (by grind))) ?_;refine Q4.ext' ?_ ?_ ?_ ?_ <;> simp only [Q4.sub,Q4.add,Q4.neg,Q4.real] <;> grind
 have hg0:=aIu hgap;have hqP:0<q*P:=wz hD hP;have habY:ab ((Q4.real (q*P)).mul (x.sub (Q4.real t))) (q*P*g):=lB (nV (by grind) (Rat.le_refl)) hgap;obtain⟨y1,y2,y3,y4⟩:=pW (q*P) (x.sub (Q4.real t));generalize (Q4.real (q*P)).mul (x.sub (Q4.real t))=Y at *
 have z1:Y.a=P*(q*x.a)-q*y:=by rw [y1];simp only [Q4.sub,Q4.add,Q4.neg,Q4.real];grind
 have z2:Y.b=P*(q*x.b):=by rw [y2];simp only [Q4.sub,Q4.add,Q4.neg,Q4.real];grind
 have z3:Y.c=P*(q*x.c):=by rw [y3];simp only [Q4.sub,Q4.add,Q4.neg,Q4.real];grind
 have z4:Y.d=P*(q*x.d):=by rw [y4];simp only [Q4.sub,Q4.add,Q4.neg,Q4.real];grind
 have hYI:isI4 Y:=by
  constructor
  ·rw [z1,ye];exact (hPI.mul i1).add (hDI.mul hzI).neg
  ·rw [z2];exact hPI.mul i2
  ·rw [z3];exact hPI.mul i3
  ·rw [z4];exact hPI.mul i4
 have hYne:Y≠Q4.zero:=fun e=>hirr (by
  have w2:=congrArg Q4.b e;have w3:=congrArg Q4.c e;have w4:=congrArg Q4.d e;rw [y2]at w2;rw [y3]at w3;rw [y4]at w4;simp only [Q4.sub,Q4.add,Q4.neg,Q4.real,Q4.zero]at w2 w3 w4;refine⟨?_,?_,?_⟩
  ·rcases Rat.mul_eq_zero.1 w2 with h|h <;> grind
  ·rcases Rat.mul_eq_zero.1 w3 with h|h <;> grind
  ·rcases Rat.mul_eq_zero.1 w4 with h|h <;> grind)
 have mulP:∀u:Rat,-n≤u∧u≤n→-(P*n)≤P*u∧P*u≤P*n:=fun u hu=>by
  have a1:=vp hu.1 (vm hP);have a2:=vp hu.2 (vm hP);constructor <;> grind
 have hPn:0<P*n:=wz hP hN0;have b2:-(P*n)≤Y.b∧Y.b≤P*n:=by rw [z2];exact mulP _ fc
 have b3:-(P*n)≤Y.c∧Y.c≤P*n:=by rw [z3];exact mulP _ fd
 have b4:-(P*n)≤Y.d∧Y.d≤P*n:=by rw [z4];exact mulP _ fe
 have hg1:g≤1:=by
  refine Rat.not_lt.1 fun h=>?_;have:=(wj hK).2 h;rw [hgk,yk]at this
  grind
 have hc1:q*P*g≤P*n:=by
  have a1:=vp hg1 (vm hqP);have a2:=jh hDN (vm hP)
  grind
 have b1:-(9*(P*n))≤Y.a∧Y.a≤9*(P*n):=by
  have h0:ab (Q4.mk 0 (-Y.b) (-Y.c) (-Y.d)) (8*(P*n)):=nU (by grind) (by grind) (by grind) (by grind) (by grind) (by grind) (by grind) (by grind);have h1:=xQ habY h0;rw [show Y.add (Q4.mk 0 (-Y.b) (-Y.c) (-Y.d))=Q4.real Y.a by refine Q4.ext' ?_ ?_ ?_ ?_ <;> simp only [Q4.add,Q4.real] <;> grind]at h1;obtain⟨r1,r2⟩:=zA h1;constructor <;> grind
 have key:=aXj hYI hYne habY b1 (by constructor <;> grind) (by constructor <;> grind) (by constructor <;> grind);have e8:8*(9*(P*n))=72*P*n:=by grind
 rw [e8]at key;have hpos:0≤72*P*n*(72*P*n)*(72*P*n):=by
  have:0<72*P*n:=by grind
  exact vm (wz (wz this this) this)
 generalize 72*P*n*(72*P*n)*(72*P*n)=S at *
 have c1:q*P*g*S≤n*P*g*S:=by
  refine jh (jh (jh hDN (vm hP)) hg0) hpos
 have c2:1*E≤n*P*g*S*E:=jh (Rat.le_trans key c1) (vm hK);have c3:n*P*g*S*E=3*n*n*P*S:=by
  rw [show n*P*g*S*E=n*P*S*(g*E) by grind,hgk]
  grind
 rw [c3]at c2
 grind
