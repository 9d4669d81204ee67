/- The text of a fraction, or of a Surd, tells the number: plain law. -/
import Derived.Test.YtmifbgccpdmjpaaLpS6
namespace Go.Proofs.Ytmifbgccpdmjpaa
def bW (c:UInt8):Bool:=decide (48≤c.toNat∧c.toNat≤57)
def bH (l:List UInt8):Nat:=l.foldl (fun a c=>10*a+(c.toNat-48)) 0
theorem jD (n:Nat):(UInt8.ofNat (48+n % 10)).toNat=48+n % 10:=by
 rw [UInt8.toNat_ofNat'];exact oc oq
theorem aJg (n:Nat):∀c∈dig n,bW c=true:=by
 induction n using Nat.strongRecOn with
 | ind n ih=>
  by_cases h:n=0
  ·rw [h,cI];simp
  ·rw [eE h];intro c hc;rw [qs,qa]at hc;rcases hc with hc|rfl
   ·exact ih (n/10) oq c hc
   ·unfold bW;rw [jD];simp;omega
theorem aIe (n:Nat):bH (dig n)=n:=by
 induction n using Nat.strongRecOn with
 | ind n ih=>
  by_cases h:n=0
  ·rw [h,cI];rfl
  ·rw [eE h];unfold bH;rw [List.foldl_append];have:=ih (n/10) oq;unfold bH at this;rw [this];simp only [wj,List.foldl_nil];rw [jD];omega
theorem uD (n:Nat):∀c∈dec n,bW c=true:=by
 unfold dec;split
 ·intro c hc;rw [qa]at hc;subst hc;rfl
 ·exact aJg n
theorem rV (n:Nat):bH (dec n)=n:=by
 unfold dec;split
 ·rename_i h;rw [h];rfl
 ·exact aIe n
theorem pY (n:Nat):dec n≠[]:=by
 unfold dec;split
 ·simp
 ·rename_i h;rw [eE h];simp
theorem aLd {l:List UInt8}(h:∀c∈l,bW c=true) {t:List UInt8}(ht:∀c,t.head?=some c→bW c=false):(l++t).takeWhile bW=l:=by
 rw [List.takeWhile_append_of_pos h];cases t with
 | nil=>simp
 | cons c t=>simp [ht c rfl]
def tS (d:Nat):List UInt8:=if d=1 then [] else 47 :: dec d
theorem zQ (d:Nat):∀c,(tS d).head?=some c→bW c=false:=by
 intro c h;unfold tS at h;split at h
 ·cases h
 ·simp at h;subst h;rfl
theorem yY (q:Rat):aE q=(if q.num<0 then [45] else [])++(dec q.num.natAbs++tS q.den):=rfl
theorem mQ (q:Rat):((aE q).head?=some 45)↔q.num<0:=by
 rw [yY];split
 ·rename_i h;simp [h]
 ·rename_i h;constructor
  ·intro e;have hn:=pY q.num.natAbs;cases hd:dec q.num.natAbs with
   | nil=>exact absurd hd hn
   | cons c l=>
    have:=uD q.num.natAbs c (by rw [hd];simp);rw [hd]at e;simp at e;subst e;cases this
  ·intro e;exact absurd e h
def aPn (c:UInt8):Bool:=bW c || c == 47
def core (q:Rat):List UInt8:=dec q.num.natAbs++tS q.den
theorem mP (q:Rat):aE q=(if q.num<0 then [45] else [])++core q:=rfl
def aLm (c:UInt8):List (List UInt8)→List (List UInt8)
 | []=>[[c]]
 | h :: t=>(c :: h) :: t
def lT:List UInt8→List (List UInt8)
 | []=>[[]]
 | c :: l=>if c=43 then [] :: lT l else if c=45 then [] :: aLm 45 (lT l) else aLm c (lT l)
def terms (l:List UInt8):List (List UInt8):=(lT l).filter (·≠[])
def aPe (l:List UInt8):Prop:=∀c∈l,c≠43∧c≠45
def Begins (l:List UInt8):Prop:=l=[]∨l.head?=some 43∨l.head?=some 45
def Mark (m:List UInt8):Prop:=m=[]∨m=[114,50]∨m=[114,51]∨m=[114,54]
def items:List (Rat×List UInt8)→List (List UInt8)
 | []=>[]
 | (q,m) :: l=>if q=0 then items l else (aE q++m) :: items l
def tail1:List (Rat×List UInt8)→List UInt8
 | []=>[]
 | (q,m) :: l=>if q=0 then tail1 l else (if 0<q.num.sign then [43] else [])++((aE q++m)++tail1 l)
def text1:List (Rat×List UInt8)→List UInt8
 | []=>[]
 | (q,m) :: l=>if q=0 then text1 l else (aE q++m)++tail1 l
def aPm (v:Q4):List (Rat×List UInt8):=[(v.a,[]),(v.b,[114,50]),(v.c,[114,51]),(v.d,[114,54])]
def pick (m:List UInt8) (L:List (List UInt8)):List (List UInt8):=(L.filter fun x=>x.dropWhile (fun c=>c != 114) == m).map fun x=>x.takeWhile (fun c=>c != 114)
