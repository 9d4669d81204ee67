/- Several texts in one. (Printed by prep.py.) -/
import Derived.Test.YtmifbgccpdmjpaaGreatRdQ5
namespace Go.Proofs.YtmifbgccpdmjpaaGreat
open Go.RowKit
open Value (agg slice int bool tuple)
open Sy (Up Sees CallsG Seg execFn_use)
set_option maxRecDepth 100000
variable {k:World}{R:World→Value→Prop}{n0 n1:Int}
theorem aTs 
 (h:Br ((n1:Int) == 0) (Cl k 67 #[int .i64 n0] fun k1 r0=>Gt 3 r0 fun cs2=>
 Rt R k1 (agg cs2)) (Cl k 128 #[int .i64 n0,int .i64 n1] fun k4 r3=>∃cs2,Seg 3 cs2∧∃n3,some (tuple #[agg cs2,int .i64 n3])=some r3∧
 Rt R k4 (agg cs2))) :
  CallsG Tryz.prog 48 #[agg #[int .i64 n0,int .i64 n1]] k R:=
  qY { opq:=[128] } h
end Go.Proofs.YtmifbgccpdmjpaaGreat

namespace Go.Proofs.YtmifbgccpdmjpaaGreat
open Go.RowKit Num W32
open Sy (Up Sees CallsG)
section
variable {k k':World}{R:World→Value→Prop}{x y q:Rat}{K L:Nat}{cs cs':Array Value}{g:Bool}{A A':Option Addr}{l c l' c':Nat}
theorem aMw {n d:Int}(hn:In64 n) (hd:In64 d) (C:∀k' ds,Up k k'→RatV k' ds (ofQ n d) 1→R k' (.agg ds)):Cl k 48 #[.agg #[.int .i64 n,.int .i64 d]] R:=by
 intro k0 u0;refine aTs ⟨fun hb=>?_,fun hb=>?_⟩
 ·have e:d=0:=eq_of_beq hb;refine aAz hn.1 hn.2 ?_;intro k1 c1 u1 h1;refine⟨c1,h1.seg,rfl,?_⟩;intro k2 u2;refine C k2 c1 (u0.trans (u1.trans u2)) ?_;unfold ofQ;rw [om e];exact h1.up u2
 ·have e:¬ d=0:=by simpa using hb
  refine aRa hn.1 hn.2 hd.1 hd.2 ?_;intro k1 c1 u1 h1;refine⟨c1,h1.seg,_,rfl,?_⟩;intro k2 u2;refine C k2 c1 (u0.trans (u1.trans u2)) ?_;unfold ofQ;rw [og e];exact h1.up u2
end
