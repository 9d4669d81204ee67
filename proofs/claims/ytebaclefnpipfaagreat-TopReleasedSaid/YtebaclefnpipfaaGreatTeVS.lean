/- Several texts in one. (Printed by prep.py.) -/
import Derived.Test.YtebaclefnpipfaaGreatProg
import Derived.Test.YtebaclefnpipfaaGreatTeSy14
namespace Go.Proofs.YtebaclefnpipfaaGreat
open Go.RowKit
abbrev Cl (k:World) (f:Nat) (args:Array Value) (P:World→Value→Prop):Prop:=∀k',Sy.Up k k'→Sy.CallsG Tryz.prog f args k' P
abbrev Gt (n:Nat) (r:Value) (Q:Array Value→Prop):Prop:=∃cs:Array Value,Sy.Seg n cs∧some (Value.agg cs)=some r∧Q cs
abbrev Br (b:Bool) (P Q:Prop):Prop:=(b=true→P)∧(b=false→Q)
abbrev Rt (R:World→Value→Prop) (k:World) (v:Value):Prop:=∀k',Sy.Up k k'→R k' v
abbrev Ad (A:Option Addr):Prop:=∃b o,A=some ⟨b,o,none⟩
abbrev Ix (n:Int) (l:Nat):Prop:=(0:Int)≤n∧(n:Int)<(l:Nat)
abbrev El (k:World) (A:Option Addr) (n:Int) (l s:Nat) (Q:Array Value→Prop):Prop:=Ad A∧Ix n l∧∃cs:Array Value,Sy.Seg s cs∧Sy.ReadAt k.cell? A (Int.toNat n*s+0) s (Value.agg cs)∧Q cs
abbrev Gb (r:Value) (Q:Bool→Prop):Prop:=∃b:Bool,some (Value.bool b)=some r∧Q b
abbrev Gi (r:Value) (Q:Int→Prop):Prop:=∃n:Int,some (Value.int .i64 n)=some r∧Q n
abbrev Tt:Prop:=true=true
abbrev S3 (A:Option Addr) (l c:Nat) (A':Option Addr) (l' c':Nat) (A'':Option Addr) (l'' c'':Nat):Value:=.agg #[.slice A l c,.slice A' l' c',.slice A'' l'' c'']
abbrev S6 (A:Option Addr) (l c:Nat) (A':Option Addr) (l' c':Nat) (A'':Option Addr) (l'' c'':Nat) (B:Option Addr) (m d:Nat) (B':Option Addr) (m' d':Nat) (B'':Option Addr) (m'' d'':Nat):Value:=.agg #[.slice A l c,.slice A' l' c',.slice A'' l'' c'',.slice B m d,.slice B' m' d',.slice B'' m'' d'']
abbrev Z3:Value:=.agg #[.slice none 0 0,.slice none 0 0,.slice none 0 0]
abbrev Z6:Value:=.agg #[.slice none 0 0,.slice none 0 0,.slice none 0 0,.slice none 0 0,.slice none 0 0,.slice none 0 0]
abbrev Rg (a b c d:Array Value):Value:=.agg (a.toList++(b.toList++(c.toList++(d.toList++([]))))).toArray
abbrev qV (i n:Nat):List Sy.SC:=(List.range' i n).map Sy.SC.var
theorem qX (cfg:Sy.Cfg) {f:FuncId}(args:List Sy.SV) (vals:List Value) (kinds:List Sy.LK) {vs:List Value}{k:World}{R:World→Value→Prop}{V:Prop}(hfit:Sy.fitsL kinds vals) (hT:V) (hargs:Sy.argsD (Sy.Env.of k vals kinds []) args=some vs:=by kernel_rfl)
 (hV:V=(Sy.execFn Tryz.prog cfg f args [] kinds).den Tryz.prog ⟨R,fun _ _ _=>True⟩ (Sy.Env.of k vals kinds []).bare k:=by kernel_rfl):Sy.CallsG Tryz.prog f vs.toArray k R:=
 Sy.execFn_use (cfg:=cfg) (args:=args) (vals:=vals) (kinds:=kinds) ox hfit hargs hV hT
def fl:List Value→List Value
 | []=>[]
 | .agg cs :: r=>cs.toList++fl r
 | v :: r=>v :: fl r
def sh (i:Nat):List Value→List Sy.SV
 | []=>[]
 | .agg cs :: r=>.agg (qV i cs.size) :: sh (i+cs.size) r
 | _ :: r=>.one (.var i) :: sh (i+1) r
def kd:Value→Sy.LK
 | .slice _ _ _=>.slice
 | .int k _=>.int k
 | _=>.bool
def bas:Value→Bool
 | .slice _ _ _=>true
 | .int _ _=>true
 | .bool _=>true
 | _=>false
theorem aWh:∀vs:List Value,vs.all bas=true→Sy.fitsL (vs.map kd) vs
 | [],_=>trivial
 | v :: vs,h=>by
  rw [uw,qb]at h;refine⟨?_,aWh vs h.2⟩;have h:=h.1;cases v <;> first|exact⟨_,_,_,rfl⟩|exact⟨_,rfl⟩|cases h
theorem qY (cfg:Sy.Cfg) {f:FuncId}{vs:List Value}{k:World}{R:World→Value→Prop}{V:Prop}(hT:V) (hb:(fl vs).all bas=true:=by kernel_rfl) (hargs:Sy.argsD (Sy.Env.of k (fl vs) ((fl vs).map kd) []) (sh 0 vs)=some vs:=by kernel_rfl)
 (hV:V=(Sy.execFn Tryz.prog cfg f (sh 0 vs) [] ((fl vs).map kd)).den Tryz.prog ⟨R,fun _ _ _=>True⟩ (Sy.Env.of k (fl vs) ((fl vs).map kd) []).bare k:=by kernel_rfl):Sy.CallsG Tryz.prog f vs.toArray k R:=
 Sy.execFn_use (cfg:=cfg) (args:=sh 0 vs) (vals:=fl vs) (kinds:=(fl vs).map kd) ox (aWh _ hb) hargs hV hT
theorem qS {A:Option Addr}{n c:Nat}:∃A' n' c',Value.slice A n c=Value.slice A' n' c':=⟨_,_,_,rfl⟩
open Value (agg slice int bool tuple)
open Sy (Up Sees CallsG Seg execFn_use)
set_option maxRecDepth 100000
variable {k:World}{R:World→Value→Prop}
