/- Several texts in one. (Printed by prep.py.) -/
import Derived.Test.YtpeakfmjibfkpaaGreatProg
import Derived.Test.YtpeakfmjibfkpaaGreatBaSy14
namespace Go.Proofs.YtpeakfmjibfkpaaGreat
open Go.RowKit
abbrev Cl (k:World) (f:Nat) (args:Array Value) (P:World→Value→Prop):Prop:=∀ k',Sy.Up k k'→Sy.CallsG Tryz.prog f args k' P
abbrev Gt (n:Nat) (r:Value) (Q:Array Value→Prop):Prop:=∃ cs:Array Value,Sy.Seg n cs∧some (Value.agg cs)=some r∧Q cs
abbrev Br (b:Bool) (P Q:Prop):Prop:=(b=true→P)∧(b=false→Q)
abbrev Rt (R:World→Value→Prop) (k:World) (v:Value):Prop:=∀ k',Sy.Up k k'→R k' v
abbrev Ad (A:Option Addr):Prop:=∃ b o,A=some ⟨b,o,none⟩
abbrev Ix (n:Int) (l:Nat):Prop:=(0:Int)≤n∧(n:Int)<(l:Nat)
abbrev El (k:World) (A:Option Addr) (n:Int) (l s:Nat) (Q:Array Value→Prop):Prop:=Ad A∧Ix n l∧∃ cs:Array Value,Sy.Seg s cs∧Sy.ReadAt k.cell? A (Int.toNat n*s+0) s (Value.agg cs)∧Q cs
abbrev Gb (r:Value) (Q:Bool→Prop):Prop:=∃ b:Bool,some (Value.bool b)=some r∧Q b
abbrev Gi (r:Value) (Q:Int→Prop):Prop:=∃ n:Int,some (Value.int .i64 n)=some r∧Q n
abbrev Tt:Prop:=true=true
abbrev S3 (A:Option Addr) (l c:Nat) (A':Option Addr) (l' c':Nat) (A'':Option Addr) (l'' c'':Nat):Value:=.agg #[.slice A l c,.slice A' l' c',.slice A'' l'' c'']
abbrev S6 (A:Option Addr) (l c:Nat) (A':Option Addr) (l' c':Nat) (A'':Option Addr) (l'' c'':Nat) (B:Option Addr) (m d:Nat) (B':Option Addr) (m' d':Nat) (B'':Option Addr) (m'' d'':Nat):Value:=.agg #[.slice A l c,.slice A' l' c',.slice A'' l'' c'',.slice B m d,.slice B' m' d',.slice B'' m'' d'']
abbrev Z3:Value:=.agg #[.slice none 0 0,.slice none 0 0,.slice none 0 0]
abbrev Z6:Value:=.agg #[.slice none 0 0,.slice none 0 0,.slice none 0 0,.slice none 0 0,.slice none 0 0,.slice none 0 0]
theorem qS {A:Option Addr}{n c:Nat}:∃ A' n' c',Value.slice A n c=Value.slice A' n' c':=⟨_,_,_,rfl⟩
end Go.Proofs.YtpeakfmjibfkpaaGreat

namespace Go.Proofs.YtpeakfmjibfkpaaGreat
open Go.RowKit
open Value (agg slice int bool tuple)
open Sy (Up Sees CallsG Seg aA)
set_option maxRecDepth 100000
variable {k:World}{R:World→Value→Prop}
end Go.Proofs.YtpeakfmjibfkpaaGreat

