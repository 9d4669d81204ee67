/- Several texts in one. (Printed by prep.py.) -/
import Derived.Test.YtjgnlflbgmnfaaaGreatFfQ5
namespace Go.Proofs.YtjgnlflbgmnfaaaGreat
open Num
def flr (q:Rat):Int:=q.num/(q.den:Int)
def aRo (q:Rat) (k:Nat):Rat:=mkRat (q.num*((2^k:Nat):Int) / (q.den:Int)) (2^k)
def aRn (n:Int):Nat:=(min 1000 (max 0 n)).toNat
def rcmp (y:Rat):Int:=(y-(flr y:Rat)-mkRat 1 2).num.sign
def rup (y:Rat):Bool:=decide (0<rcmp y) || (decide (rcmp y=0) && decide (flr y % 2=1))
def aPu (x s:Rat):Rat:=(if rup (x/s)=true then (flr (x/s):Rat)+1 else (flr (x/s):Rat))*s
def aRs (x s:Rat):Rat:=if s.num.sign≤0 then 0 else aPu x s
def halved (x:Rat):Nat→Rat
 | 0=>x
 | j+1=>halved x j/2
open IntKind (wrap)
open Go.RowKit
open Value (agg slice int bool tuple)
open Sy (Up Sees CallsG Seg execFn_use)
set_option maxRecDepth 100000
variable {k:World}{R:World→Value→Prop}{A0:Option Addr}{c0 l0:Nat}{n1:Int}
theorem aOv 
 (h:Br (decide ((n1:Int)<0)) (Rt R k (int .u64 0)) (Tt∧(Br (decide (((wrap .i64 (Int.tdiv n1 64)):Int) ≥ (l0:Nat))) (Rt R k (int .u64 0)) (Ad A0∧((0:Int)≤(wrap .i64 (Int.tdiv n1 64))∧((wrap .i64 (Int.tdiv n1 64)):Int)<(l0:Nat))∧
 ∃n2,Sy.ReadAt k.cell? A0 (Int.toNat (wrap .i64 (Int.tdiv n1 64))*1+0) 1 (int .u64 n2)∧
 (decide ((0:Int)≤(Int.tmod n1 64)))=true∧
 (Rt R k (int .u64 (wrap .u64 (BitVec.toNat (BitVec.ofInt (IntKind.bits .u64) (Int.fdiv n2 (2^(min (Int.toNat (Int.tmod n1 64)) (IntKind.bits .u64)))) &&& BitVec.ofInt (IntKind.bits .u64) 1))))))))) :
   CallsG Tryz.prog 236 #[slice A0 l0 c0,int .i64 n1] k R:=
  qY { opq:=[] } h
end Go.Proofs.YtjgnlflbgmnfaaaGreat

namespace Go.Proofs.YtjgnlflbgmnfaaaGreat
open IntKind (wrap)
open Go.RowKit Num
open Sy (Up Sees CallsG Seg)
section
variable {k k':World}{A A':Option Addr}{n n' c c' a b:Nat}{cs cs':Array Value}{bz:Bool}{R:World→Value→Prop}{x y q:Rat}{z:Int}{K L:Nat}
theorem jU {s:Nat}(h:LimR k A n c a) (hn:n≤17179869184) (hs:s≤17179869184)
 (K:∀k' B j d,Up k k'→LimR k' B j d (a*2^s)→j≤n+s→R k' (.slice B j d)):Cl k 95 #[.slice A n c,.int .i64 (s:Int)] R:=
 after (fun _k0 u=>aEl fun _w hs'=>aPk ((h.up u).sees hs') hn hs) fun k' _v u ⟨B,j,d,e,h1,h2⟩=>e▸K k' B j d u h1 h2
theorem wG {neg:Bool}(h:LimR k A n c a) (hn:n≤1152921504606846976) (hK:n≤K)
 (C:∀k' ds,Up k k'→IntV k' ds (sgn neg a) K→R k' (.agg ds)):Cl k 94 #[.bool neg,.slice A n c] R:=
 after (fun _k0 u=>zV fun _w hs=>jJ neg ((h.up u).sees hs) hn) fun k' v u hv=>by
  obtain⟨ds,rfl,hd⟩:=iV hv;exact C k' ds u (hd.mono hK)
theorem aLq {m:Nat}(hm:m<18446744073709551616):wrap .u64 ((BitVec.toNat (BitVec.ofInt (IntKind.bits .u64) (Int.fdiv (m:Int) (2^(min (Int.toNat (Int.tmod 0 64)) (IntKind.bits .u64)))) &&& BitVec.ofInt (IntKind.bits .u64) 1):Nat):Int)=((m % 2:Nat):Int):=by
 have e1:(2:Int)^(min (Int.toNat (Int.tmod 0 64)) (IntKind.bits .u64))=1:=oz
 have e2:((m:Int) % ((2^IntKind.bits .u64:Nat):Int)).toNat=m:=by rw [show 2^IntKind.bits .u64=18446744073709551616 from rfl];omega
 have e3:((1:Int) % ((2^IntKind.bits .u64:Nat):Int)).toNat=1:=oz
 rw [e1,Int.fdiv_one,BitVec.toNat_and,BitVec.toNat_ofInt,BitVec.toNat_ofInt,e2,e3,Nat.and_one_is_mod,IntKind.wrap_u64];omega
theorem aNn (a:Nat):wq a 0 % 2=a % 2:=by unfold wq wd;rw [zw,wz];unfold B64;omega
theorem aQr (h:LimR k A n c a) (C:∀k',Up k k'→R k' (.int .u64 ((a % 2:Nat):Int))) :
 Cl k 236 #[.slice A n c,.int .i64 0] R:=by
 intro k0 u0;replace h:=h.up u0;replace C:=fun k' u=>C k' (u0.trans u);refine aOv ⟨fun h0=>absurd h0 oz,fun _=>⟨rfl,fun h1=>?_,fun h1=>?_⟩⟩
 ·have hn:n=0:=by
   have:=ow h1;rw [show wrap .i64 (Int.tdiv 0 64)=0 from by decide]at this;omega
  have ha:a=0:=by rw [h.zero_iff]at hn;exact hn
  subst ha;exact fun k1 u1=>C k1 u1
 ·have hn:0<n:=by
   have:=ov h1;rw [show wrap .i64 (Int.tdiv 0 64)=0 from by decide]at this;omega
  rw [show wrap .i64 (Int.tdiv 0 64)=0 from by decide];have hl:=h.len;obtain⟨b,o,rfl,hb,hw⟩:=RW.at_ h.lr (by rw [←h.len];exact hn);have h0:=hw 0 (by rw [←h.len];exact hn);refine⟨⟨b,o,rfl⟩,⟨oz,oq⟩,((wq a 0:Nat):Int),⟨rfl,fun j u hu=>?_⟩,oz,fun k2 u2=>?_⟩
  ·cases j with
   | zero=>
    have e:u=.int .u64 ((wq a 0:Nat):Int):=by
     have h1:(#[Value.int .u64 ((wq a 0:Nat):Int)]:Array Value)[0]?=some u:=hu;simpa using h1.symm
    subst e;show Sy.cellAt _ _ _=_;unfold Sy.cellAt;have e2:o+(Int.toNat 0*1+0+0)=o+0:=by simp
    simp only [e2,h0];rfl
   | succ j=>
    have h1:(#[Value.int .u64 ((wq a 0:Nat):Int)]:Array Value)[j+1]?=some u:=hu;simp at h1
  ·have:=C k2 u2;rw [aLq (show wq a 0<18446744073709551616 from qy _ oz)];rw [aNn];exact this
end
open Value (agg slice int bool tuple)
open Sy (Up Sees CallsG Seg execFn_use)
set_option maxRecDepth 100000
variable {k:World}{R:World→Value→Prop}
end Go.Proofs.YtjgnlflbgmnfaaaGreat

namespace Go.Proofs.YtjgnlflbgmnfaaaGreat.W32
open Go.RowKit Num
open Sy (Up Sees CallsG Seg)
section
variable {k k':World}{cs cs':Array Value}{R:World→Value→Prop}{x y q q':Rat}{K L:Nat}{b:Bool}{A A':Option Addr}{l c l' c':Nat}
theorem QV.mk1 (h:QN k b A l c A' l' c' q) (h1:l≤K) (h2:l'≤K):QV k #[.bool b,.slice A l c,.slice A' l' c'] q K:=⟨b,A,l,c,A',l',c',rfl,h,h1,h2⟩
end
end Go.Proofs.YtjgnlflbgmnfaaaGreat.W32

namespace Go.Proofs.YtjgnlflbgmnfaaaGreat
open Go.RowKit
open Value (agg slice int bool tuple)
open Sy (Up Sees CallsG Seg execFn_use)
set_option maxRecDepth 100000
variable {k:World}{R:World→Value→Prop}{cs0:Array Value}{b1:Bool}{A2 A3:Option Addr}{c2 c3 l2 l3:Nat}
theorem aQl (hcs0:Seg 3 cs0)
 (h:Cl k 101 #[agg cs0] fun k1 r0=>∃s4,some (Value.string s4)=some r0∧
 Cl k1 102 #[agg #[bool b1,slice A2 l2 c2,slice A3 l3 c3]] fun k3 r2=>∃s5,some (Value.string s5)=some r2∧
 Rt R k3 (bool (ByteArray.toList s4 == ByteArray.toList s5))) :
  CallsG Tryz.prog 22 #[agg cs0,agg #[bool b1,slice A2 l2 c2,slice A3 l3 c3]] k R:=
  qX { opq:=[31] } [.agg [.seg 0 3],.agg (qV 1 3)] [agg cs0,bool b1,slice A2 l2 c2,slice A3 l3 c3] [.seg 3,.bool,.slice,.slice] ⟨⟨cs0,rfl,hcs0⟩,⟨_,rfl⟩,qS,qS,trivial⟩ h
end Go.Proofs.YtjgnlflbgmnfaaaGreat

namespace Go.Proofs.YtjgnlflbgmnfaaaGreat
open Go.RowKit Num W32
open Sy (Up Sees CallsG)
section
variable {k k':World}{R:World→Value→Prop}{x y q:Rat}{K L:Nat}{cs cs':Array Value}{g:Bool}{A A':Option Addr}{l c l' c':Nat}
theorem aRq (hx:RatV k cs x K) (hK:K≤8589934592) (h:QN k g A l c A' l' c' x) (hl:l≤34359738368) (hl':l'≤34359738368) (C:∀k',Up k k'→R k' (.bool true)) :
 Cl k 22 #[.agg cs,.agg #[.bool g,.slice A l c,.slice A' l' c']] R:=by
 intro k0 u0;refine aQl (hx.seg) (dO (hx.up u0) hK fun k1 u1=>⟨_,rfl,aNa ((h.up u0).up u1) hl hl' fun k3 u3=>⟨_,rfl,fun k4 u4=>?_⟩⟩);have:=C k4 (((u0.trans u1).trans u3).trans u4);rw [show (ByteArray.toList ⟨(aF x).toArray⟩ == ByteArray.toList ⟨(aF x).toArray⟩)=true from beq_self_eq_true _];exact this
theorem aRb (hx:RatV k cs x K) (hK:K≤8589934592) (h:QV k cs' x L) (hL:L≤34359738368) (C:∀k',Up k k'→R k' (.bool true)) :
 Cl k 22 #[.agg cs,.agg cs'] R:=by
 obtain⟨_,_,_,_,_,_,_,rfl,h,l1,l2⟩:=h;exact aRq hx hK h oq oq C
end
