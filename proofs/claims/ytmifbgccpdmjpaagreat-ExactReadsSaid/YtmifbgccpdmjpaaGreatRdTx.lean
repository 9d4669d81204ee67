/- The text of a fraction, or of a Surd, tells the number: plain law. -/
import Derived.Test.YtmifbgccpdmjpaaGreatRdS6
namespace Go.Proofs.YtmifbgccpdmjpaaGreat
def bZ (c:UInt8):Bool:=decide (48≤c.toNat∧c.toNat≤57)
def bJ (l:List UInt8):Nat:=l.foldl (fun a c=>10*a+(c.toNat-48)) 0
theorem kM (n:Nat):(UInt8.ofNat (48+n % 10)).toNat=48+n % 10:=by
 rw [UInt8.toNat_ofNat'];exact oa oq
theorem aNv (n:Nat):∀c∈dig n,bZ c=true:=by
 induction n using Nat.strongRecOn with
 | ind n ih=>
  by_cases h:n=0
  ·rw [h,cN];simp
  ·rw [eT h];intro c hc;rw [qs,jz]at hc;rcases hc with hc|rfl
   ·exact ih (n/10) oq c hc
   ·unfold bZ;rw [kM];simp;omega
theorem aMq (n:Nat):bJ (dig n)=n:=by
 induction n using Nat.strongRecOn with
 | ind n ih=>
  by_cases h:n=0
  ·rw [h,cN];rfl
  ·rw [eT h];unfold bJ;rw [List.foldl_append];have:=ih (n/10) oq;unfold bJ at this;rw [this];simp only [yz,List.foldl_nil];rw [kM];omega
theorem rQ (n:Nat):∀c∈dec n,bZ c=true:=by
 unfold dec;split
 ·intro c hc;rw [jz]at hc;subst hc;rfl
 ·exact aNv n
theorem uF (n:Nat):bJ (dec n)=n:=by
 unfold dec;split
 ·rename_i h;rw [h];rfl
 ·exact aMq n
theorem mL (n:Nat):dec n≠[]:=by
 unfold dec;split
 ·simp
 ·rename_i h;rw [eT h];simp
theorem aQf {l:List UInt8}(h:∀c∈l,bZ c=true) {t:List UInt8}(ht:∀c,t.head?=some c→bZ c=false):(l++t).takeWhile bZ=l:=by
 rw [List.takeWhile_append_of_pos h];cases t with
 | nil=>simp
 | cons c t=>simp [ht c rfl]
def rE (d:Nat):List UInt8:=if d=1 then [] else 47 :: dec d
theorem aDd (d:Nat):∀c,(rE d).head?=some c→bZ c=false:=by
 intro c h;unfold rE at h;split at h
 ·cases h
 ·simp at h;subst h;rfl
theorem tJ (q:Rat):aC q=(if q.num<0 then [45] else [])++(dec q.num.natAbs++rE q.den):=rfl
theorem oH (q:Rat):((aC q).head?=some 45)↔q.num<0:=by
 rw [tJ];split
 ·rename_i h;simp [h]
 ·rename_i h;constructor
  ·intro e;have hn:=mL q.num.natAbs;cases hd:dec q.num.natAbs with
   | nil=>exact absurd hd hn
   | cons c l=>
    have:=rQ q.num.natAbs c (by rw [hd];simp);rw [hd]at e;simp at e;subst e;cases this
  ·intro e;exact absurd e h
def tF (c:UInt8):Bool:=bZ c || c == 47
theorem uY (n:Nat):∀c∈dec n,tF c=true:=fun c hc=>by unfold tF;rw [rQ n c hc];rfl
theorem aAo (n:Nat):∀c∈rE n,tF c=true:=by
 intro c hc;unfold rE at hc;split at hc
 ·cases hc
 ·rw [vw]at hc;rcases hc with rfl|hc
  ·rfl
  ·exact uY _ c hc
def core (q:Rat):List UInt8:=dec q.num.natAbs++rE q.den
theorem mK (q:Rat):∀c∈core q,tF c=true:=by
 intro c hc;unfold core at hc;rw [qs]at hc;rcases hc with hc|hc
 ·exact uY _ c hc
 ·exact aAo _ c hc
theorem qD (q:Rat):core q≠[]:=by unfold core;simp [mL]
theorem dG (q:Rat):aC q=(if q.num<0 then [45] else [])++core q:=rfl
theorem iE (q:Rat):aC q≠[]:=by rw [dG];simp [qD]
def aQp (c:UInt8):List (List UInt8)→List (List UInt8)
 | []=>[[c]]
 | h :: t=>(c :: h) :: t
def nM:List UInt8→List (List UInt8)
 | []=>[[]]
 | c :: l=>if c=43 then [] :: nM l else if c=45 then [] :: aQp 45 (nM l) else aQp c (nM l)
def terms (l:List UInt8):List (List UInt8):=(nM l).filter (·≠[])
def NoSign (l:List UInt8):Prop:=∀c∈l,c≠43∧c≠45
def Begins (l:List UInt8):Prop:=l=[]∨l.head?=some 43∨l.head?=some 45
theorem aAa {l:List UInt8}(h:∀c∈l,tF c=true):NoSign l:=fun c hc=>by
 have:=h c hc;refine⟨fun e=>?_,fun e=>?_⟩
 ·rw [e]at this;cases this
 ·rw [e]at this;cases this
def Mark (m:List UInt8):Prop:=m=[]∨m=[114,50]∨m=[114,51]∨m=[114,54]
theorem Mark.no {m:List UInt8}(h:Mark m):NoSign m:=by
 rcases h with rfl|rfl|rfl|rfl <;> intro c hc <;> simp at hc
 all_goals (rcases hc with rfl|rfl <;> exact⟨oz,oz⟩)
theorem NoSign.append {a b:List UInt8}(ha:NoSign a) (hb:NoSign b):NoSign (a++b):=fun c hc=>by
 rw [qs]at hc;exact hc.elim (ha c) (hb c)
def items:List (Rat×List UInt8)→List (List UInt8)
 | []=>[]
 | (q,m) :: l=>if q=0 then items l else (aC q++m) :: items l
def tail1:List (Rat×List UInt8)→List UInt8
 | []=>[]
 | (q,m) :: l=>if q=0 then tail1 l else (if 0<q.num.sign then [43] else [])++((aC q++m)++tail1 l)
def text1:List (Rat×List UInt8)→List UInt8
 | []=>[]
 | (q,m) :: l=>if q=0 then text1 l else (aC q++m)++tail1 l
theorem tV {q:Rat}(h0:q≠0):0<q.num.sign↔¬ q.num<0:=by
 have h1:q.num≠0:=fun e=>h0 (Rat.num_eq_zero.1 e);rw [Int.sign_pos_iff];omega
theorem gP:∀L:List (Rat×List UInt8),Begins (tail1 L)
 | []=>.inl rfl
 | (q,m) :: l=>by
  unfold tail1;split
  ·exact gP l
  ·rename_i h0
   right
   by_cases h:q.num<0
   ·right
    rw [og (fun e=>(tV h0).1 e h),dG,om h];simp
   ·left
    rw [om ((tV h0).2 h)];simp
theorem wL (s:List UInt8) (hs:s≠[]) (q:Rat) (m:List UInt8):aF s q m=s++tail1 [(q,m)]:=by
 unfold aF tail1;split
 ·simp [tail1]
 ·by_cases h:0<q.num.sign
  ·simp [hs,h,tail1]
  ·simp [h,tail1]
theorem pU (q:Rat) (m:List UInt8):aF [] q m=text1 [(q,m)]:=by
 unfold aF text1;split <;> simp [text1,tail1]
theorem jU:∀(L:List (Rat×List UInt8)) (q:Rat) (m:List UInt8),aF (text1 L) q m=text1 (L++[(q,m)])
 | [],q,m=>pU q m
 | (p,n) :: l,q,m=>by
  have tl:∀L:List (Rat×List UInt8),tail1 (L++[(q,m)])=tail1 L++tail1 [(q,m)]:=by
   intro L
   induction L with
   | nil=>rfl
   | cons x L ih=>
    obtain⟨a,b⟩:=x;rw [yn,tail1,ih]
    conv=>rhs;rw [tail1]
    split
    ·rfl
    ·simp only [jk]
  rw [yn];unfold text1;split
  ·exact jU l q m
  ·rw [wL _ (by simp [iE]),tl];simp only [jk]
def fF (v:Q4):List (Rat×List UInt8):=[(v.a,[]),(v.b,[114,50]),(v.c,[114,51]),(v.d,[114,54])]
theorem uR (v:Q4):body v 4=text1 (fF v):=by
 show aF (aF (aF (aF [] v.a []) v.b [114,50]) v.c [114,51]) v.d [114,54]=_;have e:([]:List UInt8)=text1 []:=rfl
 conv=>lhs;rw [show aF [] v.a []=text1 [(v.a,[])] from pU _ _]
 rw [jU,jU,jU];rfl
theorem zZ (v:Q4):∀x∈fF v,Mark x.2:=by
 intro x hx;simp only [fF,vw,List.not_mem_nil,or_false]at hx;rcases hx with rfl|rfl|rfl|rfl
 ·exact .inl rfl
 ·exact .inr (.inl rfl)
 ·exact .inr (.inr (.inl rfl))
 ·exact .inr (.inr (.inr rfl))
def pick (m:List UInt8) (L:List (List UInt8)):List (List UInt8):=(L.filter fun x=>x.dropWhile (fun c=>c != 114) == m).map fun x=>x.takeWhile (fun c=>c != 114)
theorem uL (q:Rat):∀c∈aC q,(c != 114)=true:=by
 intro c hc;rw [dG,qs]at hc;rcases hc with hc|hc
 ·split at hc
  ·simp at hc;subst hc;rfl
  ·cases hc
 ·have:=mK q c hc;simp only [bne_iff_ne];intro e;rw [e]at this;cases this
theorem oI:aC 0=[48]:=by
 rw [tJ];have e1:(0:Rat).num=0:=rfl;have e2:(0:Rat).den=1:=rfl;rw [e1,e2];rfl
