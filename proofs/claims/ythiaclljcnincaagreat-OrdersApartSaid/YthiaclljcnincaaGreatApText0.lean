/- Decimal digits: pure, and package exact's decimal. -/
import Derived.Test.YthiaclljcnincaaGreatApRat
import Derived.Laws.IdiomStrings
namespace Go.Proofs.YthiaclljcnincaaGreat
open Go.RowKit Num
def dig (n:Nat):List UInt8:=if _h:n=0 then [] else dig (n/10)++[UInt8.ofNat (48+n % 10)]
termination_by n
decreasing_by omega
theorem eO:dig 0=[]:=by unfold dig;simp
theorem gR {n:Nat}(h:n≠0):dig n=dig (n/10)++[UInt8.ofNat (48+n % 10)]:=by
 rw [dig];simp [h]
theorem nQ:∀(k n:Nat),n<10^k→(dig n).length≤k
 | 0,n,h=>by
  have:n=0:=by simp at h;omega
  rw [this,eO];simp
 | k+1,n,h=>by
  by_cases h0:n=0
  ·rw [h0,eO];simp
  ·rw [gR h0,od];have:=nQ k (n/10) (by rw [jj]at h;omega);simp;omega
theorem aCk {n:Nat}(h:n≠0):0<(dig n).length:=by rw [gR h];simp
structure Tail (w:World) (b:Nat) (T:TypeId) (p:Nat) (L:List UInt8):Prop where
 ex:∃cs,Blk w b T cs∧cs.size=20∧∀i (h:i<L.length),cs[p+i]?=some (.int .u8 (L[i].toNat:Int))
 len:p+L.length=20
set_option maxRecDepth 20000 in
set_option maxHeartbeats 2000000 in
theorem aHd {w:World}{n:Nat}(hn:n<18446744073709551616) :
 Calls Tryz.prog 90 #[.int .u64 n] w (fun e w'=>e=.returned (.string ⟨(dig n).toArray⟩)∧Below w.heap.size w w'):=by
 have hl:(dig n).length≤20:=nQ 20 n oq
 go_enter Tryz.func90,Tryz.ntmps90
 go_wp2_with fail
 go_loopw [0,4] (fun a b wx=>∃(m p:Nat) (L:List UInt8),a=.int .u64 m∧b=.int .i64 p∧m<18446744073709551616∧Hid (dig n=dig m++L)∧Tail wx w.heap.size 157 p L∧Below w.heap.size w wx) (fun a _ _=>(intOf a).toNat)
 case atStart=>exact⟨n,20,[],rfl,rfl,hn,by unfold Hid;simp,⟨⟨_,Blk.new _ _ _,by simp,fun i hi=>by simp at hi⟩,by simp⟩,(Below.refl _ _).alloc (oy _) _⟩
 case round=>
  obtain⟨m,p,L,rfl,rfl,hm,hD,hT,hB⟩:=hrel
  by_cases h0:m=0
  ·subst h0;have hD':dig n=L:=by have:=hD.out;rwa [eO,wn]at this
   obtain⟨cs,hbk,hsz,hcs⟩:=hT.ex;have hl2:=hT.len;have hL:L.length=20-p:=oq
   by_cases h20:p=20
   ·subst h20;have hL0:L=[]:=List.eq_nil_of_length_eq_zero hL;subst hL0;have hconv:=run_convert_bytes_back (P:=Tryz.prog) wr 135 9 5 ⟨w.heap.size,0,none⟩ 0 [] ox ox ox (fun j hj=>by simp at hj);have hconv':(convert 135 9 (.slice (some ⟨w.heap.size,0,none⟩) 0 0)).run Tryz.prog wr=.ok (.string ⟨#[]⟩) wr:=hconv;have HD:=ou hD';clear hcs hT hbk hsz hD' hconv hD hL hl2 hl
    go_wp2_with fail
    exact bodyPost_ret (v:=.string ⟨#[]⟩) (by simp [results,Tryz.results90,go_sem]) rfl ⟨by rw [HD.out],hB⟩
   ·have hp1:(p:Int)<20:=oq
    have hp2:(p:Int)≤20:=oq
    have hp3:p<20:=oq
    have hconv:=run_convert_bytes_back (P:=Tryz.prog) wr 135 9 5 ⟨w.heap.size,p,none⟩ (20-p) L ox ox ox (fun j hj=>by
     have:=hcs j hj;rw [←hbk.cell]at this;have hplain:(⟨w.heap.size,p,none⟩:Addr).add j=⟨w.heap.size,p+j,none⟩:=by unfold Addr.add;split <;> simp_all
     rw [hplain]
     exact this)
    rw [hL]at hconv;have HD:=ou hD';clear hcs hT hbk hsz hD' hL hl2 hl hD
    go_wp2_with fail
    exact bodyPost_ret (v:=.string ⟨L.toArray⟩) (by simp [results,Tryz.results90,go_sem]) rfl ⟨by rw [HD.out],hB⟩
  ·have hp:0<p:=by
    have h1:=hT.len;have h2:=congrArg List.length hD.out;rw [od]at h2;have:=aCk h0;omega
   have e0:(0:Int)<m:=oq
   obtain⟨k,rfl⟩:∃k,p=k+1:=⟨p-1,oq⟩;obtain⟨cs,hbk,hsz,hcs⟩:=hT.ex;have hfB:=hbk.frozen;have hl2:=hT.len;obtain⟨cv,hcv⟩:∃cv,cs[k]?=some cv:=⟨cs[k]' oq,by simp⟩;have hc1:wr.cell? ⟨w.heap.size,k,none⟩=some cv:=by rw [hbk.cell,hcv]
   have ek:(((k+1:Nat):Int))-1=k:=oq
   have HD:=ou hD.out;have HT:=ou hT;clear hcs hp hT hbk hcv hsz hD
   go_wp2_with fail
   refine⟨⟨m/10,k,UInt8.ofNat (48+m % 10) :: L,by go_num,rfl,oq,?_,?_,hB.setCell (oy _) _⟩,by simp [intOf];omega⟩
   ·unfold Hid;rw [HD.out,gR h0];simp
   ·obtain⟨cs',hbk,hsz,hcs⟩:=HT.out.ex;refine⟨⟨_,hbk.set_ k _,by simpa using hsz,?_⟩,by simp;omega⟩;intro i hi;rcases ju i with h|h
    ·subst h;rw [jh,Array.getElem?_setIfInBounds_self_of_lt oq];simp [UInt8.toNat_ofNat];omega
    ·obtain⟨j,rfl⟩:∃j,i=j+1:=⟨i-1,oq⟩;rw [Array.getElem?_setIfInBounds_ne oq,show k+(j+1)=k+1+j by omega,hcs j (by simpa using hi)];simp
