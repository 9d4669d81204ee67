/- Decimal text of a natural number: pure. -/
import Derived.Test.YthiaclljcnincaaGreatApText0
import Derived.Test.YthiaclljcnincaaGreatApBuild
namespace Go.Proofs.YthiaclljcnincaaGreat
open Go.RowKit Num
def pad (k r:Nat):List UInt8:=List.replicate (k-(dig r).length) 48++dig r
theorem aNz (k r:Nat):pad (k+1) r=pad k (r/10)++[UInt8.ofNat (48+r % 10)]:=by
 unfold pad
 by_cases h:r=0
 ·subst h;simp [eO,List.replicate_succ']
 ·rw [gR h];simp
theorem vF:∀(k a:Nat),a/10^k≠0→dig a=dig (a/10^k)++pad k (a % 10^k)
 | 0,a,_=>by simp [pad,Nat.mod_one,eO]
 | k+1,a,h=>by
  have h0:a≠0:=fun e=>by subst e;simp at h
  have e1:a/10/10^k=a/10^(k+1):=by rw [jp,jj,oa]
  have ih:=vF k (a/10) (by rw [e1];exact h);rw [e1]at ih;have e2:a % 10^(k+1) / 10=a/10 % 10^k:=by
   rw [jj,oa,Nat.mod_mul_right_div_self]
  have e3:a % 10^(k+1) % 10=a % 10:=by
   rw [Nat.mod_mod_of_dvd];exact⟨10^k,by rw [jj,oa]⟩
  rw [aNz,e2,e3,←List.append_assoc,←ih,←gR h0]
def dec (n:Nat):List UInt8:=if n=0 then [48] else dig n
def aEk (l:List UInt8):Value:=.string ⟨l.toArray⟩
structure TextI (w wx:World) (m a:Nat) (X:Value):Prop where
 ex:∃P:List (List UInt8),wx.ownsRow w.heap.size 9 1 X P.length (P.map aEk)∧dig m=dig a++P.reverse.flatten∧∀s∈P,0<s.length
theorem iR:∀(P:List (List UInt8)),(∀s∈P,0<s.length)→P.length≤P.flatten.length
 | [],_=>by simp
 | s :: P,h=>by
  have h1:=h s (by simp);have:=iR P (fun t ht=>h t (by simp [ht]));rw [List.flatten_cons,List.length_append,List.length_cons];omega
theorem aBe (c:Nat):Lib.repeatL [(48:UInt8)] c=List.replicate c 48:=by
 induction c with
 | zero=>rfl
 | succ c ih=>simp [Lib.repeatL,ih,List.replicate_succ]
theorem uU (l:List UInt8):Lib.strCells ⟨l.toArray⟩=Lib.byteCells l:=by
 simp [Lib.strCells,Lib.byteCells]
theorem gQ (l r:List UInt8):(⟨l.toArray⟩++⟨r.toArray⟩:ByteArray)=⟨(l++r).toArray⟩:=by
 apply ByteArray.ext;simp
