/- Several texts in one. (Printed by prep.py.) -/
import Derived.Test.YtifcjpacobpdmaaGreatTtS6
namespace Go.Proofs.YtifcjpacobpdmaaGreat
open Go.RowKit
open Value (agg slice int bool tuple)
open Sy (Up Sees CallsG Seg execFn_use)
set_option maxRecDepth 100000
variable {k:World}{R:World→Value→Prop}
end Go.Proofs.YtifcjpacobpdmaaGreat

namespace Go.Proofs.YtifcjpacobpdmaaGreat
open Go.RowKit Num Plain
open Sy (Up Sees CallsG Seg)
section
variable {k:World}{R:World→Value→Prop}{K L:Nat}
def ofQ (n d:Int):Rat:=if d=0 then (n:Rat) else (n:Rat) / (d:Rat)
def In64 (n:Int):Prop:=-9223372036854775808≤n∧n<9223372036854775808
end
open Value (agg slice int bool tuple)
open Sy (Up Sees CallsG Seg execFn_use)
set_option maxRecDepth 100000
variable {k:World}{R:World→Value→Prop}
end Go.Proofs.YtifcjpacobpdmaaGreat

namespace Go.Proofs.YtifcjpacobpdmaaGreat.W32
open Go.RowKit Num
open Sy (Up Sees CallsG cellAt ReadAt lE RowAt RowC sizeOk)
def B:Nat:=4294967296
def wq (m i:Nat):Nat:=wd B m i
def nw (m:Nat):Nat:=nwk 32 m
def row (m n:Nat):Array Value:=((List.range n).map fun i=>Value.int .u32 (wq m i)).toArray
structure RowN (k:World) (A:Option Addr) (n c m:Nat):Prop where
 lt:m<B^n
 cap:n≤c
 at_:∀p,p<n→cellAt k.cell? A p=some (.int .u32 (wq m p))
def aRp (k:World) (A:Option Addr) (n c m:Nat):Prop:=RowN k A n c m∧n=nw m
section
variable {k k':World}{A A':Option Addr}{n c m n' c' m':Nat}{R:World→Value→Prop}
end
section
variable {k k':World}{A A':Option Addr}{n c m n' c' m' a b:Nat}{R:World→Value→Prop}
def ord (a b:Nat):Int:=if a<b then -1 else if b<a then 1 else 0
end
def aWu (f:Nat→Nat) (n:Nat):Array Value:=((List.range n).map fun i=>Value.int .u32 (f i)).toArray
section
variable {k k':World}{A A':Option Addr}{n c m n' c' m' a b:Nat}{R:World→Value→Prop}
def mixw (a b i t:Nat):Nat→Nat:=fun j=>if j<t then wq (mrow B a b (i+1)) j else wq (mrow B a b i) j
end
section
variable {k k':World}{A A':Option Addr}{n c m n' c' m' a b:Nat}{R:World→Value→Prop}
def fromw (x i:Nat):Nat→Nat:=fun p=>if i≤p then wq x p else 0
end
section
variable {k k':World}{A A':Option Addr}{n c m n' c' m' a b:Nat}{R:World→Value→Prop}
def sc (a r i:Nat):Nat:=(a % B^i)*2^r/B^i
end
section
variable {k k':World}{A A':Option Addr}{n c m n' c' m' a b:Nat}{R:World→Value→Prop}
end
section
variable {k k':World}{A A':Option Addr}{n c m n' c' m' a b:Nat}{R:World→Value→Prop}
end
section
variable (a V j:Nat)
end
section
variable {k k':World}{A A':Option Addr}{n c m n' c' m' a b:Nat}{R:World→Value→Prop}
abbrev QInv (a' V l6:Nat):Nat→World→List Value→Prop:=fun m k vs=>∃A8 c8 A10 l10 c10,vs=[.tuple #[.slice A8 l6 c8,.agg (aWu (fromw (a' / V) m) l6)],.slice A10 l10 c10,.int .i64 (((m:Nat):Int)-1)]∧l6≤c8∧aRp k A10 l10 c10 (a' % (V*B^m))∧m≤l6
end
section
variable {k k':World}{A A':Option Addr}{n c m n' c' m' a b:Nat}{R:World→Value→Prop}
end
def todo (q t r:Nat):List UInt8:=if q=0 then dig r else dig q++pad t r
section
variable {k k':World}{A A':Option Addr}{n c m n' c' m' a b:Nat}{R:World→Value→Prop}
end
end Go.Proofs.YtifcjpacobpdmaaGreat.W32

namespace Go.Proofs.YtifcjpacobpdmaaGreat
open Go.RowKit
open Value (agg slice int bool tuple)
open Sy (Up Sees CallsG Seg execFn_use)
set_option maxRecDepth 100000
variable {k:World}{R:World→Value→Prop}
end Go.Proofs.YtifcjpacobpdmaaGreat

namespace Go.Proofs.YtifcjpacobpdmaaGreat.W32
open Go.RowKit Num
open Sy (Up Sees CallsG cellAt ReadAt lE RowAt RowC sizeOk)
structure QN (k:World) (b:Bool) (A:Option Addr) (l c:Nat) (A':Option Addr) (l' c':Nat) (q:Rat):Prop where
 n:aRp k A l c q.num.natAbs
 d:aRp k A' l' c' q.den
 s:b=decide (q.num<0)
def qv (b:Bool) (A:Option Addr) (l c:Nat) (A':Option Addr) (l' c':Nat):Value:=.agg #[.bool b,.slice A l c,.slice A' l' c']
section
variable {k k':World}{A A':Option Addr}{n c m n' c' m' a b l l':Nat}{R:World→Value→Prop}{x q:Rat}{g:Bool}
def RQ (R:World→Value→Prop) (k:World) (q:Rat):Prop:=∀k' b A l c A' l' c',Up k k'→QN k' b A l c A' l' c' q→R k' (.agg #[.bool b,.slice A l c,.slice A' l' c'])
end
section
variable {k k':World}{A A':Option Addr}{n c m n' c' m' a b l l':Nat}{R:World→Value→Prop}{x q:Rat}{g:Bool}
end
end Go.Proofs.YtifcjpacobpdmaaGreat.W32

namespace Go.Proofs.YtifcjpacobpdmaaGreat
open Go.RowKit
open Value (agg slice int bool tuple)
open Sy (Up Sees CallsG Seg execFn_use)
set_option maxRecDepth 100000
variable {k:World}{R:World→Value→Prop}
end Go.Proofs.YtifcjpacobpdmaaGreat

namespace Go.Proofs.YtifcjpacobpdmaaGreat.W32
open Go.RowKit Num
open Sy (Up Sees CallsG cellAt ReadAt lE RowAt RowC sizeOk)
def RB (R:World→Value→Prop) (k:World) (q:Rat) (K:Nat):Prop:=∀k' b A l c A' l' c',Up k k'→QN k' b A l c A' l' c' q→l≤K→l'≤K→R k' (.agg #[.bool b,.slice A l c,.slice A' l' c'])
section
variable {k k':World}{A A':Option Addr}{n c m n' c' m' a b l l':Nat}{R:World→Value→Prop}{x y q:Rat}{g:Bool}
section
variable {K L:Nat}{g':Bool}{Ax Ax' Ay Ay':Option Addr}{lx cx lx' cx' ly cy ly' cy':Nat}
end
end
section
variable {k k':World}{A A':Option Addr}{n c m n' c' m' a b l l':Nat}{R:World→Value→Prop}{x y q:Rat}{g:Bool}
variable {K L:Nat}{g':Bool}{Ax Ax' Ay Ay':Option Addr}{lx cx lx' cx' ly cy ly' cy':Nat}
end
open Sy (Up Sees CallsG Seg)
def QV (k:World) (cs:Array Value) (q:Rat) (K:Nat):Prop:=∃b A l c A' l' c',cs=#[.bool b,.slice A l c,.slice A' l' c']∧QN k b A l c A' l' c' q∧l≤K∧l'≤K
section
variable {k k':World}{cs cs':Array Value}{R:World→Value→Prop}{x y q:Rat}{K L:Nat}
end
