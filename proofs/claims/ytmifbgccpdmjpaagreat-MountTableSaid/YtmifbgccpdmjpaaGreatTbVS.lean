/- Several texts in one. (Printed by prep.py.) -/
import Derived.Test.YtmifbgccpdmjpaaGreatProg
import Derived.Test.YtmifbgccpdmjpaaGreatTbSy14
namespace Go.Proofs.YtmifbgccpdmjpaaGreat
open Go.RowKit
abbrev Cl (k:World) (f:Nat) (args:Array Value) (P:World→Value→Prop):Prop:=∀k',Sy.Up k k'→Sy.CallsG Tryz.prog f args k' P
abbrev Gt (n:Nat) (r:Value) (Q:Array Value→Prop):Prop:=∃cs:Array Value,Sy.Seg n cs∧some (Value.agg cs)=some r∧Q cs
abbrev Br (b:Bool) (P Q:Prop):Prop:=(b=true→P)∧(b=false→Q)
abbrev Rt (R:World→Value→Prop) (k:World) (v:Value):Prop:=∀k',Sy.Up k k'→R k' v
abbrev Ad (A:Option Addr):Prop:=∃b o,A=some ⟨b,o,none⟩
abbrev Ix (n:Int) (l:Nat):Prop:=(0:Int)≤n∧(n:Int)<(l:Nat)
abbrev El (k:World) (A:Option Addr) (n:Int) (l s:Nat) (Q:Array Value→Prop):Prop:=Ad A∧Ix n l∧∃cs:Array Value,Sy.Seg s cs∧Sy.ReadAt k.cell? A (Int.toNat n*s+0) s (Value.agg cs)∧Q cs
abbrev Gb (r:Value) (Q:Bool→Prop):Prop:=∃b:Bool,some (Value.bool b)=some r∧Q b
abbrev Gi (r:Value) (Q:Int→Prop):Prop:=∃n:Int,some (Value.int .i64 n)=some r∧Q n
abbrev Tt:Prop:=true=true
abbrev S3 (A:Option Addr) (l c:Nat) (A':Option Addr) (l' c':Nat) (A'':Option Addr) (l'' c'':Nat):Value:=.agg #[.slice A l c,.slice A' l' c',.slice A'' l'' c'']
abbrev S6 (A:Option Addr) (l c:Nat) (A':Option Addr) (l' c':Nat) (A'':Option Addr) (l'' c'':Nat) (B:Option Addr) (m d:Nat) (B':Option Addr) (m' d':Nat) (B'':Option Addr) (m'' d'':Nat):Value:=.agg #[.slice A l c,.slice A' l' c',.slice A'' l'' c'',.slice B m d,.slice B' m' d',.slice B'' m'' d'']
abbrev Z3:Value:=.agg #[.slice none 0 0,.slice none 0 0,.slice none 0 0]
abbrev Z6:Value:=.agg #[.slice none 0 0,.slice none 0 0,.slice none 0 0,.slice none 0 0,.slice none 0 0,.slice none 0 0]
abbrev Rg (a b c d:Array Value):Value:=.agg (a.toList++(b.toList++(c.toList++(d.toList++([]))))).toArray
abbrev qV (i n:Nat):List Sy.SC:=(List.range' i n).map Sy.SC.var
theorem qX (cfg:Sy.Cfg) {f:FuncId}(args:List Sy.SV) (vals:List Value) (kinds:List Sy.LK) {vs:List Value}{k:World}{R:World→Value→Prop}{V:Prop}(hfit:Sy.fitsL kinds vals) (hT:V) (hargs:Sy.argsD (Sy.Env.of k vals kinds []) args=some vs:=by kernel_rfl)
 (hV:V=(Sy.execFn Tryz.prog cfg f args [] kinds).den Tryz.prog ⟨R,fun _ _ _=>True⟩ (Sy.Env.of k vals kinds []).bare k:=by kernel_rfl):Sy.CallsG Tryz.prog f vs.toArray k R:=
 Sy.execFn_use (cfg:=cfg) (args:=args) (vals:=vals) (kinds:=kinds) ox hfit hargs hV hT
def fl:List Value→List Value
 | []=>[]
 | .agg cs :: r=>cs.toList++fl r
 | v :: r=>v :: fl r
def sh (i:Nat):List Value→List Sy.SV
 | []=>[]
 | .agg cs :: r=>.agg (qV i cs.size) :: sh (i+cs.size) r
 | _ :: r=>.one (.var i) :: sh (i+1) r
def kd:Value→Sy.LK
 | .slice _ _ _=>.slice
 | .int k _=>.int k
 | _=>.bool
def bas:Value→Bool
 | .slice _ _ _=>true
 | .int _ _=>true
 | .bool _=>true
 | _=>false
theorem bBp:∀vs:List Value,vs.all bas=true→Sy.fitsL (vs.map kd) vs
 | [],_=>trivial
 | v :: vs,h=>by
  rw [yy,qf]at h;refine⟨?_,bBp vs h.2⟩;have h:=h.1;cases v <;> first|exact⟨_,_,_,rfl⟩|exact⟨_,rfl⟩|cases h
theorem qY (cfg:Sy.Cfg) {f:FuncId}{vs:List Value}{k:World}{R:World→Value→Prop}{V:Prop}(hT:V) (hb:(fl vs).all bas=true:=by kernel_rfl) (hargs:Sy.argsD (Sy.Env.of k (fl vs) ((fl vs).map kd) []) (sh 0 vs)=some vs:=by kernel_rfl)
 (hV:V=(Sy.execFn Tryz.prog cfg f (sh 0 vs) [] ((fl vs).map kd)).den Tryz.prog ⟨R,fun _ _ _=>True⟩ (Sy.Env.of k (fl vs) ((fl vs).map kd) []).bare k:=by kernel_rfl):Sy.CallsG Tryz.prog f vs.toArray k R:=
 Sy.execFn_use (cfg:=cfg) (args:=sh 0 vs) (vals:=fl vs) (kinds:=(fl vs).map kd) ox (bBp _ hb) hargs hV hT
theorem qS {A:Option Addr}{n c:Nat}:∃A' n' c',Value.slice A n c=Value.slice A' n' c':=⟨_,_,_,rfl⟩
open Value (agg slice int bool tuple)
open Sy (Up Sees CallsG Seg execFn_use)
set_option maxRecDepth 100000
variable {k:World}{R:World→Value→Prop}{b0 b2 b4 b6:Bool}{A1 A3 A4 A5 A7 A8 A9:Option Addr}{c1 c3 c4 c5 c7 c8 c9 l1 l3 l4 l5 l7 l8 l9:Nat}{cs0 cs1 cs2 cs3 cs4 cs5 cs6 cs7 cs8:Array Value}
theorem aWg 
 (h:Cl k 276 #[slice A8 l8 c8,slice A1 l1 c1] fun k1 r0=>∃A9 l9 c9,some (slice A9 l9 c9)=some r0∧
 Cl k1 276 #[slice A9 l9 c9,slice A3 l3 c3] fun k3 r2=>∃A10 l10 c10,some (slice A10 l10 c10)=some r2∧
 Cl k3 276 #[slice A10 l10 c10,slice A5 l5 c5] fun k5 r4=>∃A11 l11 c11,some (slice A11 l11 c11)=some r4∧
 Cl k5 276 #[slice A11 l11 c11,slice A7 l7 c7] fun k7 r6=>∃A12 l12 c12,some (slice A12 l12 c12)=some r6∧
 Cl k7 277 #[slice A12 l12 c12] fun k9 r8=>Gb r8 fun b13=>
 Br (!b13) (Cl k9 196 #[slice A1 l1 c1,slice A12 l12 c12] fun k11 r10=>∃A14 l14 c14,∃A15 l15 c15,some (tuple #[slice A14 l14 c14,slice A15 l15 c15])=some r10∧
 Cl k11 196 #[slice A3 l3 c3,slice A12 l12 c12] fun k13 r12=>∃A16 l16 c16,∃A17 l17 c17,some (tuple #[slice A16 l16 c16,slice A17 l17 c17])=some r12∧
 Cl k13 196 #[slice A5 l5 c5,slice A12 l12 c12] fun k15 r14=>∃A18 l18 c18,∃A19 l19 c19,some (tuple #[slice A18 l18 c18,slice A19 l19 c19])=some r14∧
 Cl k15 196 #[slice A7 l7 c7,slice A12 l12 c12] fun k17 r16=>∃A20 l20 c20,∃A21 l21 c21,some (tuple #[slice A20 l20 c20,slice A21 l21 c21])=some r16∧
 Cl k17 196 #[slice A8 l8 c8,slice A12 l12 c12] fun k19 r18=>∃A22 l22 c22,∃A23 l23 c23,some (tuple #[slice A22 l22 c22,slice A23 l23 c23])=some r18∧
 Cl k19 277 #[slice A22 l22 c22] fun k21 r20=>Gb r20 fun b24=>
 Br b24 (Rt R k21 (agg #[bool b0,slice A14 l14 c14,bool b2,slice A16 l16 c16,bool b4,slice A18 l18 c18,bool b6,slice A20 l20 c20,slice none 0 0])) (Rt R k21 (agg #[bool b0,slice A14 l14 c14,bool b2,slice A16 l16 c16,bool b4,slice A18 l18 c18,bool b6,slice A20 l20 c20,slice A22 l22 c22]))) (Cl k9 277 #[slice A8 l8 c8] fun k25 r24=>Gb r24 fun b14=>
 Br b14 (Rt R k25 (agg #[bool b0,slice A1 l1 c1,bool b2,slice A3 l3 c3,bool b4,slice A5 l5 c5,bool b6,slice A7 l7 c7,slice none 0 0])) (Rt R k25 (agg #[bool b0,slice A1 l1 c1,bool b2,slice A3 l3 c3,bool b4,slice A5 l5 c5,bool b6,slice A7 l7 c7,slice A8 l8 c8])))) :
  CallsG Tryz.prog 182 #[agg #[bool b0,slice A1 l1 c1,bool b2,slice A3 l3 c3,bool b4,slice A5 l5 c5,bool b6,slice A7 l7 c7],slice A8 l8 c8] k R:=
  qY { opq:=[] } h
theorem aSm (hcs0:Seg 2 cs0) (hcs1:Seg 2 cs1) (hcs2:Seg 2 cs2) (hcs3:Seg 2 cs3) (hcs5:Seg 2 cs5) (hcs6:Seg 2 cs6) (hcs7:Seg 2 cs7) (hcs8:Seg 2 cs8)
 (h:Cl k 163 #[slice A4 l4 c4] fun k1 r0=>∃A10 l10 c10,some (slice A10 l10 c10)=some r0∧
 Cl k1 163 #[slice A9 l9 c9] fun k3 r2=>∃A11 l11 c11,some (slice A11 l11 c11)=some r2∧
 Cl k3 165 #[agg cs0,slice A11 l11 c11] fun k5 r4=>Gt 2 r4 fun cs12=>
 Cl k5 165 #[agg cs5,slice A10 l10 c10] fun k7 r6=>Gt 2 r6 fun cs13=>
 Cl k7 166 #[agg cs12,agg cs13] fun k9 r8=>Gt 2 r8 fun cs14=>
 Cl k9 165 #[agg cs1,slice A11 l11 c11] fun k11 r10=>Gt 2 r10 fun cs15=>
 Cl k11 165 #[agg cs6,slice A10 l10 c10] fun k13 r12=>Gt 2 r12 fun cs16=>
 Cl k13 166 #[agg cs15,agg cs16] fun k15 r14=>Gt 2 r14 fun cs17=>
 Cl k15 165 #[agg cs2,slice A11 l11 c11] fun k17 r16=>Gt 2 r16 fun cs18=>
 Cl k17 165 #[agg cs7,slice A10 l10 c10] fun k19 r18=>Gt 2 r18 fun cs19=>
 Cl k19 166 #[agg cs18,agg cs19] fun k21 r20=>Gt 2 r20 fun cs20=>
 Cl k21 165 #[agg cs3,slice A11 l11 c11] fun k23 r22=>Gt 2 r22 fun cs21=>
 Cl k23 165 #[agg cs8,slice A10 l10 c10] fun k25 r24=>Gt 2 r24 fun cs22=>
 Cl k25 166 #[agg cs21,agg cs22] fun k27 r26=>Gt 2 r26 fun cs23=>
 Cl k27 167 #[slice A10 l10 c10,slice A11 l11 c11] fun k29 r28=>∃A24 l24 c24,some (slice A24 l24 c24)=some r28∧
 Cl k29 182 #[Rg cs14 cs17 cs20 cs23,slice A24 l24 c24] fun k31 r30=>∃cs25,Seg 2 cs25∧∃cs26,Seg 2 cs26∧∃cs27,Seg 2 cs27∧∃cs28,Seg 2 cs28∧∃A29 l29 c29,some (agg (cs25.toList++(cs26.toList++(cs27.toList++(cs28.toList++((slice A29 l29 c29) :: ([])))))).toArray)=some r30∧
 Rt R k31 (agg (cs25.toList++(cs26.toList++(cs27.toList++(cs28.toList++((slice A29 l29 c29) :: ([])))))).toArray)) :
  CallsG Tryz.prog 74 #[agg (cs0.toList++(cs1.toList++(cs2.toList++(cs3.toList++((slice A4 l4 c4) :: ([])))))).toArray,agg (cs5.toList++(cs6.toList++(cs7.toList++(cs8.toList++((slice A9 l9 c9) :: ([])))))).toArray] k R:=
  qX { opq:=[33] } [.agg [.seg 0 2,.seg 1 2,.seg 2 2,.seg 3 2,.var 4],.agg [.seg 5 2,.seg 6 2,.seg 7 2,.seg 8 2,.var 9]] [agg cs0,agg cs1,agg cs2,agg cs3,slice A4 l4 c4,agg cs5,agg cs6,agg cs7,agg cs8,slice A9 l9 c9] [.seg 2,.seg 2,.seg 2,.seg 2,.slice,.seg 2,.seg 2,.seg 2,.seg 2,.slice] ⟨⟨cs0,rfl,hcs0⟩,⟨cs1,rfl,hcs1⟩,⟨cs2,rfl,hcs2⟩,⟨cs3,rfl,hcs3⟩,qS,⟨cs5,rfl,hcs5⟩,⟨cs6,rfl,hcs6⟩,⟨cs7,rfl,hcs7⟩,⟨cs8,rfl,hcs8⟩,qS,trivial⟩ h
theorem aDf (hcs0:Seg 2 cs0) (hcs1:Seg 2 cs1) (hcs2:Seg 2 cs2) (hcs3:Seg 2 cs3) (hcs4:Seg 2 cs4) (hcs5:Seg 2 cs5) (hcs6:Seg 2 cs6) (hcs7:Seg 2 cs7)
 (h:∀p8 k0,Up k k0→Sy.Blk k0 p8 34 (cs0.toList++(cs1.toList++(cs2.toList++(cs3.toList++([]))))).toArray→
 ∀p9 k1,Up k0 k1→Sy.Blk k1 p9 34 (cs4.toList++(cs5.toList++(cs6.toList++(cs7.toList++([]))))).toArray→
 Cl k1 306 #[int .i64 0,int .i64 0,(Value.pointer (some ⟨p8,0,none⟩)),(Value.pointer (some ⟨p9,0,none⟩))] fun k3 r2=>Gt 2 r2 fun cs10=>
 Cl k3 306 #[int .i64 1,int .i64 1,(Value.pointer (some ⟨p8,0,none⟩)),(Value.pointer (some ⟨p9,0,none⟩))] fun k5 r4=>Gt 2 r4 fun cs11=>
 Cl k5 292 #[agg cs11,int .u64 2] fun k7 r6=>Gt 2 r6 fun cs12=>
 Cl k7 166 #[agg cs10,agg cs12] fun k9 r8=>Gt 2 r8 fun cs13=>
 Cl k9 306 #[int .i64 2,int .i64 2,(Value.pointer (some ⟨p8,0,none⟩)),(Value.pointer (some ⟨p9,0,none⟩))] fun k11 r10=>Gt 2 r10 fun cs14=>
 Cl k11 292 #[agg cs14,int .u64 3] fun k13 r12=>Gt 2 r12 fun cs15=>
 Cl k13 166 #[agg cs13,agg cs15] fun k15 r14=>Gt 2 r14 fun cs16=>
 Cl k15 306 #[int .i64 3,int .i64 3,(Value.pointer (some ⟨p8,0,none⟩)),(Value.pointer (some ⟨p9,0,none⟩))] fun k17 r16=>Gt 2 r16 fun cs17=>
 Cl k17 292 #[agg cs17,int .u64 6] fun k19 r18=>Gt 2 r18 fun cs18=>
 Cl k19 166 #[agg cs16,agg cs18] fun k21 r20=>Gt 2 r20 fun cs19=>
 Cl k21 306 #[int .i64 0,int .i64 1,(Value.pointer (some ⟨p8,0,none⟩)),(Value.pointer (some ⟨p9,0,none⟩))] fun k23 r22=>Gt 2 r22 fun cs20=>
 Cl k23 306 #[int .i64 1,int .i64 0,(Value.pointer (some ⟨p8,0,none⟩)),(Value.pointer (some ⟨p9,0,none⟩))] fun k25 r24=>Gt 2 r24 fun cs21=>
 Cl k25 166 #[agg cs20,agg cs21] fun k27 r26=>Gt 2 r26 fun cs22=>
 Cl k27 306 #[int .i64 2,int .i64 3,(Value.pointer (some ⟨p8,0,none⟩)),(Value.pointer (some ⟨p9,0,none⟩))] fun k29 r28=>Gt 2 r28 fun cs23=>
 Cl k29 306 #[int .i64 3,int .i64 2,(Value.pointer (some ⟨p8,0,none⟩)),(Value.pointer (some ⟨p9,0,none⟩))] fun k31 r30=>Gt 2 r30 fun cs24=>
 Cl k31 166 #[agg cs23,agg cs24] fun k33 r32=>Gt 2 r32 fun cs25=>
 Cl k33 292 #[agg cs25,int .u64 3] fun k35 r34=>Gt 2 r34 fun cs26=>
 Cl k35 166 #[agg cs22,agg cs26] fun k37 r36=>Gt 2 r36 fun cs27=>
 Cl k37 306 #[int .i64 0,int .i64 2,(Value.pointer (some ⟨p8,0,none⟩)),(Value.pointer (some ⟨p9,0,none⟩))] fun k39 r38=>Gt 2 r38 fun cs28=>
 Cl k39 306 #[int .i64 2,int .i64 0,(Value.pointer (some ⟨p8,0,none⟩)),(Value.pointer (some ⟨p9,0,none⟩))] fun k41 r40=>Gt 2 r40 fun cs29=>
 Cl k41 166 #[agg cs28,agg cs29] fun k43 r42=>Gt 2 r42 fun cs30=>
 Cl k43 306 #[int .i64 1,int .i64 3,(Value.pointer (some ⟨p8,0,none⟩)),(Value.pointer (some ⟨p9,0,none⟩))] fun k45 r44=>Gt 2 r44 fun cs31=>
 Cl k45 306 #[int .i64 3,int .i64 1,(Value.pointer (some ⟨p8,0,none⟩)),(Value.pointer (some ⟨p9,0,none⟩))] fun k47 r46=>Gt 2 r46 fun cs32=>
 Cl k47 166 #[agg cs31,agg cs32] fun k49 r48=>Gt 2 r48 fun cs33=>
 Cl k49 292 #[agg cs33,int .u64 2] fun k51 r50=>Gt 2 r50 fun cs34=>
 Cl k51 166 #[agg cs30,agg cs34] fun k53 r52=>Gt 2 r52 fun cs35=>
 Cl k53 306 #[int .i64 0,int .i64 3,(Value.pointer (some ⟨p8,0,none⟩)),(Value.pointer (some ⟨p9,0,none⟩))] fun k55 r54=>Gt 2 r54 fun cs36=>
 Cl k55 306 #[int .i64 3,int .i64 0,(Value.pointer (some ⟨p8,0,none⟩)),(Value.pointer (some ⟨p9,0,none⟩))] fun k57 r56=>Gt 2 r56 fun cs37=>
 Cl k57 166 #[agg cs36,agg cs37] fun k59 r58=>Gt 2 r58 fun cs38=>
 Cl k59 306 #[int .i64 1,int .i64 2,(Value.pointer (some ⟨p8,0,none⟩)),(Value.pointer (some ⟨p9,0,none⟩))] fun k61 r60=>Gt 2 r60 fun cs39=>
 Cl k61 166 #[agg cs38,agg cs39] fun k63 r62=>Gt 2 r62 fun cs40=>
 Cl k63 306 #[int .i64 2,int .i64 1,(Value.pointer (some ⟨p8,0,none⟩)),(Value.pointer (some ⟨p9,0,none⟩))] fun k65 r64=>Gt 2 r64 fun cs41=>
 Cl k65 166 #[agg cs40,agg cs41] fun k67 r66=>Gt 2 r66 fun cs42=>
 Rt R k67 (Rg cs19 cs27 cs35 cs42)) :
  CallsG Tryz.prog 198 #[Rg cs0 cs1 cs2 cs3,Rg cs4 cs5 cs6 cs7] k R:=
  qX { opq:=[33] } [.agg [.seg 0 2,.seg 1 2,.seg 2 2,.seg 3 2],.agg [.seg 4 2,.seg 5 2,.seg 6 2,.seg 7 2]] [agg cs0,agg cs1,agg cs2,agg cs3,agg cs4,agg cs5,agg cs6,agg cs7] [.seg 2,.seg 2,.seg 2,.seg 2,.seg 2,.seg 2,.seg 2,.seg 2] ⟨⟨cs0,rfl,hcs0⟩,⟨cs1,rfl,hcs1⟩,⟨cs2,rfl,hcs2⟩,⟨cs3,rfl,hcs3⟩,⟨cs4,rfl,hcs4⟩,⟨cs5,rfl,hcs5⟩,⟨cs6,rfl,hcs6⟩,⟨cs7,rfl,hcs7⟩,trivial⟩ h
theorem aSp (hcs0:Seg 2 cs0) (hcs1:Seg 2 cs1) (hcs2:Seg 2 cs2) (hcs3:Seg 2 cs3)
 (h:Cl k 204 #[agg cs0] fun k1 r0=>Gt 2 r0 fun cs5=>
 Cl k1 204 #[agg cs1] fun k3 r2=>Gt 2 r2 fun cs6=>
 Cl k3 204 #[agg cs2] fun k5 r4=>Gt 2 r4 fun cs7=>
 Cl k5 204 #[agg cs3] fun k7 r6=>Gt 2 r6 fun cs8=>
 Rt R k7 (agg (cs5.toList++(cs6.toList++(cs7.toList++(cs8.toList++((slice A4 l4 c4) :: ([])))))).toArray)) :
  CallsG Tryz.prog 225 #[agg (cs0.toList++(cs1.toList++(cs2.toList++(cs3.toList++((slice A4 l4 c4) :: ([])))))).toArray] k R:=
  qX { opq:=[33] } [.agg [.seg 0 2,.seg 1 2,.seg 2 2,.seg 3 2,.var 4]] [agg cs0,agg cs1,agg cs2,agg cs3,slice A4 l4 c4] [.seg 2,.seg 2,.seg 2,.seg 2,.slice] ⟨⟨cs0,rfl,hcs0⟩,⟨cs1,rfl,hcs1⟩,⟨cs2,rfl,hcs2⟩,⟨cs3,rfl,hcs3⟩,qS,trivial⟩ h
theorem aSr (hcs0:Seg 9 cs0) (hcs1:Seg 9 cs1)
 (h:Cl k 225 #[agg cs1] fun k1 r0=>Gt 9 r0 fun cs2=>
 Cl k1 74 #[agg cs0,agg cs2] fun k3 r2=>Gt 9 r2 fun cs3=>
 Rt R k3 (agg cs3)) :
  CallsG Tryz.prog 113 #[agg cs0,agg cs1] k R:=
  qX { opq:=[36] } [.agg [.seg 0 9],.agg [.seg 1 9]] [agg cs0,agg cs1] [.seg 9,.seg 9] ⟨⟨cs0,rfl,hcs0⟩,⟨cs1,rfl,hcs1⟩,trivial⟩ h
theorem aSi (hcs0:Seg 2 cs0) (hcs2:Seg 2 cs2) (hcs4:Seg 2 cs4) (hcs6:Seg 2 cs6)
 (h:Cl k 195 #[int .u64 1] fun k1 r0=>∃A8 l8 c8,some (slice A8 l8 c8)=some r0∧
 Cl k1 163 #[slice A1 l1 c1] fun k3 r2=>∃A9 l9 c9,some (slice A9 l9 c9)=some r2∧
 Cl k3 167 #[slice A8 l8 c8,slice A9 l9 c9] fun k5 r4=>∃A10 l10 c10,some (slice A10 l10 c10)=some r4∧
 Cl k5 163 #[slice A3 l3 c3] fun k7 r6=>∃A11 l11 c11,some (slice A11 l11 c11)=some r6∧
 Cl k7 167 #[slice A10 l10 c10,slice A11 l11 c11] fun k9 r8=>∃A12 l12 c12,some (slice A12 l12 c12)=some r8∧
 Cl k9 163 #[slice A5 l5 c5] fun k11 r10=>∃A13 l13 c13,some (slice A13 l13 c13)=some r10∧
 Cl k11 167 #[slice A12 l12 c12,slice A13 l13 c13] fun k13 r12=>∃A14 l14 c14,some (slice A14 l14 c14)=some r12∧
 Cl k13 163 #[slice A7 l7 c7] fun k15 r14=>∃A15 l15 c15,some (slice A15 l15 c15)=some r14∧
 Cl k15 167 #[slice A14 l14 c14,slice A15 l15 c15] fun k17 r16=>∃A16 l16 c16,some (slice A16 l16 c16)=some r16∧
 Cl k17 163 #[slice A1 l1 c1] fun k19 r18=>∃A17 l17 c17,some (slice A17 l17 c17)=some r18∧
 Cl k19 196 #[slice A16 l16 c16,slice A17 l17 c17] fun k21 r20=>∃A18 l18 c18,∃A19 l19 c19,some (tuple #[slice A18 l18 c18,slice A19 l19 c19])=some r20∧
 Cl k21 165 #[agg cs0,slice A18 l18 c18] fun k23 r22=>Gt 2 r22 fun cs20=>
 Cl k23 163 #[slice A3 l3 c3] fun k25 r24=>∃A21 l21 c21,some (slice A21 l21 c21)=some r24∧
 Cl k25 196 #[slice A16 l16 c16,slice A21 l21 c21] fun k27 r26=>∃A22 l22 c22,∃A23 l23 c23,some (tuple #[slice A22 l22 c22,slice A23 l23 c23])=some r26∧
 Cl k27 165 #[agg cs2,slice A22 l22 c22] fun k29 r28=>Gt 2 r28 fun cs24=>
 Cl k29 163 #[slice A5 l5 c5] fun k31 r30=>∃A25 l25 c25,some (slice A25 l25 c25)=some r30∧
 Cl k31 196 #[slice A16 l16 c16,slice A25 l25 c25] fun k33 r32=>∃A26 l26 c26,∃A27 l27 c27,some (tuple #[slice A26 l26 c26,slice A27 l27 c27])=some r32∧
 Cl k33 165 #[agg cs4,slice A26 l26 c26] fun k35 r34=>Gt 2 r34 fun cs28=>
 Cl k35 163 #[slice A7 l7 c7] fun k37 r36=>∃A29 l29 c29,some (slice A29 l29 c29)=some r36∧
 Cl k37 196 #[slice A16 l16 c16,slice A29 l29 c29] fun k39 r38=>∃A30 l30 c30,∃A31 l31 c31,some (tuple #[slice A30 l30 c30,slice A31 l31 c31])=some r38∧
 Cl k39 165 #[agg cs6,slice A30 l30 c30] fun k41 r40=>Gt 2 r40 fun cs32=>
 Cl k41 182 #[Rg cs20 cs24 cs28 cs32,slice A16 l16 c16] fun k43 r42=>∃cs33,Seg 2 cs33∧∃cs34,Seg 2 cs34∧∃cs35,Seg 2 cs35∧∃cs36,Seg 2 cs36∧∃A37 l37 c37,some (agg (cs33.toList++(cs34.toList++(cs35.toList++(cs36.toList++((slice A37 l37 c37) :: ([])))))).toArray)=some r42∧
 Rt R k43 (agg (cs33.toList++(cs34.toList++(cs35.toList++(cs36.toList++((slice A37 l37 c37) :: ([])))))).toArray)) :
  CallsG Tryz.prog 88 #[agg (cs0.toList++((slice A1 l1 c1) :: (cs2.toList++((slice A3 l3 c3) :: (cs4.toList++((slice A5 l5 c5) :: (cs6.toList++((slice A7 l7 c7) :: ([]))))))))).toArray] k R:=
  qX { opq:=[33] } [.agg [.seg 0 2,.var 1,.seg 2 2,.var 3,.seg 4 2,.var 5,.seg 6 2,.var 7]] [agg cs0,slice A1 l1 c1,agg cs2,slice A3 l3 c3,agg cs4,slice A5 l5 c5,agg cs6,slice A7 l7 c7] [.seg 2,.slice,.seg 2,.slice,.seg 2,.slice,.seg 2,.slice] ⟨⟨cs0,rfl,hcs0⟩,qS,⟨cs2,rfl,hcs2⟩,qS,⟨cs4,rfl,hcs4⟩,qS,⟨cs6,rfl,hcs6⟩,qS,trivial⟩ h
theorem aKz (hcs0:Seg 2 cs0) (hcs1:Seg 2 cs1) (hcs2:Seg 2 cs2) (hcs3:Seg 2 cs3)
 (h:Cl k 163 #[slice A4 l4 c4] fun k1 r0=>∃A5 l5 c5,some (slice A5 l5 c5)=some r0∧
 Cl k1 164 #[agg cs0,slice A5 l5 c5] fun k3 r2=>Gt 3 r2 fun cs6=>
 Cl k3 163 #[slice A4 l4 c4] fun k5 r4=>∃A7 l7 c7,some (slice A7 l7 c7)=some r4∧
 Cl k5 164 #[agg cs1,slice A7 l7 c7] fun k7 r6=>Gt 3 r6 fun cs8=>
 Cl k7 163 #[slice A4 l4 c4] fun k9 r8=>∃A9 l9 c9,some (slice A9 l9 c9)=some r8∧
 Cl k9 164 #[agg cs2,slice A9 l9 c9] fun k11 r10=>Gt 3 r10 fun cs10=>
 Cl k11 163 #[slice A4 l4 c4] fun k13 r12=>∃A11 l11 c11,some (slice A11 l11 c11)=some r12∧
 Cl k13 164 #[agg cs3,slice A11 l11 c11] fun k15 r14=>Gt 3 r14 fun cs12=>
 Rt R k15 (Rg cs6 cs8 cs10 cs12)) :
  CallsG Tryz.prog 110 #[agg (cs0.toList++(cs1.toList++(cs2.toList++(cs3.toList++((slice A4 l4 c4) :: ([])))))).toArray] k R:=
  qX { opq:=[33,128] } [.agg [.seg 0 2,.seg 1 2,.seg 2 2,.seg 3 2,.var 4]] [agg cs0,agg cs1,agg cs2,agg cs3,slice A4 l4 c4] [.seg 2,.seg 2,.seg 2,.seg 2,.slice] ⟨⟨cs0,rfl,hcs0⟩,⟨cs1,rfl,hcs1⟩,⟨cs2,rfl,hcs2⟩,⟨cs3,rfl,hcs3⟩,qS,trivial⟩ h
theorem aSo (hcs0:Seg 2 cs0) (hcs1:Seg 2 cs1) (hcs2:Seg 2 cs2) (hcs3:Seg 2 cs3) (hcs5:Seg 2 cs5) (hcs6:Seg 2 cs6) (hcs7:Seg 2 cs7) (hcs8:Seg 2 cs8)
 (h:Cl k 198 #[Rg cs0 cs1 cs2 cs3,Rg cs5 cs6 cs7 cs8] fun k1 r0=>∃cs10,Seg 2 cs10∧∃cs11,Seg 2 cs11∧∃cs12,Seg 2 cs12∧∃cs13,Seg 2 cs13∧some (Rg cs10 cs11 cs12 cs13)=some r0∧
 Cl k1 163 #[slice A4 l4 c4] fun k3 r2=>∃A14 l14 c14,some (slice A14 l14 c14)=some r2∧
 Cl k3 163 #[slice A9 l9 c9] fun k5 r4=>∃A15 l15 c15,some (slice A15 l15 c15)=some r4∧
 Cl k5 167 #[slice A14 l14 c14,slice A15 l15 c15] fun k7 r6=>∃A16 l16 c16,some (slice A16 l16 c16)=some r6∧
 Cl k7 182 #[Rg cs10 cs11 cs12 cs13,slice A16 l16 c16] fun k9 r8=>∃cs17,Seg 2 cs17∧∃cs18,Seg 2 cs18∧∃cs19,Seg 2 cs19∧∃cs20,Seg 2 cs20∧∃A21 l21 c21,some (agg (cs17.toList++(cs18.toList++(cs19.toList++(cs20.toList++((slice A21 l21 c21) :: ([])))))).toArray)=some r8∧
 Rt R k9 (agg (cs17.toList++(cs18.toList++(cs19.toList++(cs20.toList++((slice A21 l21 c21) :: ([])))))).toArray)) :
  CallsG Tryz.prog 91 #[agg (cs0.toList++(cs1.toList++(cs2.toList++(cs3.toList++((slice A4 l4 c4) :: ([])))))).toArray,agg (cs5.toList++(cs6.toList++(cs7.toList++(cs8.toList++((slice A9 l9 c9) :: ([])))))).toArray] k R:=
  qX { opq:=[33] } [.agg [.seg 0 2,.seg 1 2,.seg 2 2,.seg 3 2,.var 4],.agg [.seg 5 2,.seg 6 2,.seg 7 2,.seg 8 2,.var 9]] [agg cs0,agg cs1,agg cs2,agg cs3,slice A4 l4 c4,agg cs5,agg cs6,agg cs7,agg cs8,slice A9 l9 c9] [.seg 2,.seg 2,.seg 2,.seg 2,.slice,.seg 2,.seg 2,.seg 2,.seg 2,.slice] ⟨⟨cs0,rfl,hcs0⟩,⟨cs1,rfl,hcs1⟩,⟨cs2,rfl,hcs2⟩,⟨cs3,rfl,hcs3⟩,qS,⟨cs5,rfl,hcs5⟩,⟨cs6,rfl,hcs6⟩,⟨cs7,rfl,hcs7⟩,⟨cs8,rfl,hcs8⟩,qS,trivial⟩ h
theorem aSn (hcs0:Seg 9 cs0) (hcs1:Seg 9 cs1)
 (h:Cl k 113 #[agg cs0,agg cs1] fun k1 r0=>Gt 9 r0 fun cs2=>
 Cl k1 181 #[agg cs2] fun k3 r2=>Gi r2 fun n3=>
 Rt R k3 (int .i64 n3)) :
  CallsG Tryz.prog 73 #[agg cs0,agg cs1] k R:=
  qX { opq:=[36] } [.agg [.seg 0 9],.agg [.seg 1 9]] [agg cs0,agg cs1] [.seg 9,.seg 9] ⟨⟨cs0,rfl,hcs0⟩,⟨cs1,rfl,hcs1⟩,trivial⟩ h
theorem aLc (hcs0:Seg 2 cs0) (hcs1:Seg 2 cs1) (hcs2:Seg 2 cs2) (hcs3:Seg 2 cs3)
 (h:∀p5 k0,Up k k0→Sy.Blk k0 p5 33 (cs0.toList++([])).toArray→
 ∀p6 k1,Up k0 k1→Sy.Blk k1 p6 33 (cs1.toList++([])).toArray→
 ∀p7 k2,Up k1 k2→Sy.Blk k2 p7 33 (cs2.toList++([])).toArray→
 ∀p8 k3,Up k2 k3→Sy.Blk k3 p8 33 (cs3.toList++([])).toArray→
 Cl k3 290 #[agg cs0,agg cs1] fun k5 r4=>Gi r4 fun n9=>
 Cl k5 290 #[agg cs2,agg cs3] fun k7 r6=>Gi r6 fun n10=>
 Cl k7 289 #[int .i64 n9,int .i64 n10,Value.func (.func 291) #[] #[(Value.pointer (some ⟨p5,0,none⟩)),(Value.pointer (some ⟨p6,0,none⟩)),(Value.pointer (some ⟨p7,0,none⟩)),(Value.pointer (some ⟨p8,0,none⟩))]] fun k9 r8=>Gi r8 fun n11=>
 Rt R k9 (int .i64 n11)) :
  CallsG Tryz.prog 181 #[agg (cs0.toList++(cs1.toList++(cs2.toList++(cs3.toList++((slice A4 l4 c4) :: ([])))))).toArray] k R:=
  qX { opq:=[33] } [.agg [.seg 0 2,.seg 1 2,.seg 2 2,.seg 3 2,.var 4]] [agg cs0,agg cs1,agg cs2,agg cs3,slice A4 l4 c4] [.seg 2,.seg 2,.seg 2,.seg 2,.slice] ⟨⟨cs0,rfl,hcs0⟩,⟨cs1,rfl,hcs1⟩,⟨cs2,rfl,hcs2⟩,⟨cs3,rfl,hcs3⟩,qS,trivial⟩ h
theorem aQs (hcs0:Seg 2 cs0) (hcs1:Seg 2 cs1)
 (h:∀p2 k0,Up k k0→Sy.Blk k0 p2 33 (cs0.toList++([])).toArray→
 ∀p3 k1,Up k0 k1→Sy.Blk k1 p3 33 (cs1.toList++([])).toArray→
 Cl k1 223 #[agg cs0] fun k3 r2=>Gi r2 fun n4=>
 Cl k3 223 #[agg cs1] fun k5 r4=>Gi r4 fun n5=>
 Cl k5 289 #[int .i64 n4,int .i64 n5,Value.func (.func 364) #[] #[(Value.pointer (some ⟨p2,0,none⟩)),(Value.pointer (some ⟨p3,0,none⟩))]] fun k7 r6=>Gi r6 fun n6=>
 Rt R k7 (int .i64 n6)) :
  CallsG Tryz.prog 290 #[agg cs0,agg cs1] k R:=
  qX { opq:=[33] } [.agg [.seg 0 2],.agg [.seg 1 2]] [agg cs0,agg cs1] [.seg 2,.seg 2] ⟨⟨cs0,rfl,hcs0⟩,⟨cs1,rfl,hcs1⟩,trivial⟩ h
