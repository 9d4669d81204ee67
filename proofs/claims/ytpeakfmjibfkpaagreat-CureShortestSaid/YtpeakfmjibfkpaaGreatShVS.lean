/- Several texts in one. (Printed by prep.py.) -/
import Derived.Test.YtpeakfmjibfkpaaGreatProg
import Derived.Test.YtpeakfmjibfkpaaGreatShSy14
namespace Go.Proofs.YtpeakfmjibfkpaaGreat
open Go.RowKit
abbrev Cl (k:World) (f:Nat) (args:Array Value) (P:World→Value→Prop):Prop:=∀k',Sy.Up k k'→Sy.CallsG Tryz.prog f args k' P
abbrev Gt (n:Nat) (r:Value) (Q:Array Value→Prop):Prop:=∃cs:Array Value,Sy.Seg n cs∧some (Value.agg cs)=some r∧Q cs
abbrev Br (b:Bool) (P Q:Prop):Prop:=(b=true→P)∧(b=false→Q)
abbrev Rt (R:World→Value→Prop) (k:World) (v:Value):Prop:=∀k',Sy.Up k k'→R k' v
abbrev Ad (A:Option Addr):Prop:=∃b o,A=some ⟨b,o,none⟩
abbrev Ix (n:Int) (l:Nat):Prop:=(0:Int)≤n∧(n:Int)<(l:Nat)
abbrev El (k:World) (A:Option Addr) (n:Int) (l s:Nat) (Q:Array Value→Prop):Prop:=Ad A∧Ix n l∧∃cs:Array Value,Sy.Seg s cs∧Sy.ReadAt k.cell? A (Int.toNat n*s+0) s (Value.agg cs)∧Q cs
abbrev Gb (r:Value) (Q:Bool→Prop):Prop:=∃b:Bool,some (Value.bool b)=some r∧Q b
abbrev Gi (r:Value) (Q:Int→Prop):Prop:=∃n:Int,some (Value.int .i64 n)=some r∧Q n
abbrev Tt:Prop:=true=true
abbrev S3 (A:Option Addr) (l c:Nat) (A':Option Addr) (l' c':Nat) (A'':Option Addr) (l'' c'':Nat):Value:=.agg #[.slice A l c,.slice A' l' c',.slice A'' l'' c'']
abbrev S6 (A:Option Addr) (l c:Nat) (A':Option Addr) (l' c':Nat) (A'':Option Addr) (l'' c'':Nat) (B:Option Addr) (m d:Nat) (B':Option Addr) (m' d':Nat) (B'':Option Addr) (m'' d'':Nat):Value:=.agg #[.slice A l c,.slice A' l' c',.slice A'' l'' c'',.slice B m d,.slice B' m' d',.slice B'' m'' d'']
abbrev Z3:Value:=.agg #[.slice none 0 0,.slice none 0 0,.slice none 0 0]
abbrev Z6:Value:=.agg #[.slice none 0 0,.slice none 0 0,.slice none 0 0,.slice none 0 0,.slice none 0 0,.slice none 0 0]
abbrev qV (i n:Nat):List Sy.SC:=(List.range' i n).map Sy.SC.var
theorem qX (cfg:Sy.Cfg) {f:FuncId}(args:List Sy.SV) (vals:List Value) (kinds:List Sy.LK) {vs:List Value}{k:World}{R:World→Value→Prop}{V:Prop}(hfit:Sy.fitsL kinds vals) (hT:V) (hargs:Sy.argsD (Sy.Env.of k vals kinds []) args=some vs:=by kernel_rfl)
 (hV:V=(Sy.execFn Tryz.prog cfg f args [] kinds).den Tryz.prog ⟨R,fun _ _ _=>True⟩ (Sy.Env.of k vals kinds []).bare k:=by kernel_rfl):Sy.CallsG Tryz.prog f vs.toArray k R:=
 Sy.execFn_use (cfg:=cfg) (args:=args) (vals:=vals) (kinds:=kinds) (by kernel_rfl) hfit hargs hV hT
theorem qS {A:Option Addr}{n c:Nat}:∃A' n' c',Value.slice A n c=Value.slice A' n' c':=⟨_,_,_,rfl⟩
end Go.Proofs.YtpeakfmjibfkpaaGreat

namespace Go.Proofs.YtpeakfmjibfkpaaGreat
open Go.RowKit
open Value (agg slice int bool tuple)
open Sy (Up Sees CallsG Seg execFn_use)
set_option maxRecDepth 100000
variable {k:World}{R:World→Value→Prop}
