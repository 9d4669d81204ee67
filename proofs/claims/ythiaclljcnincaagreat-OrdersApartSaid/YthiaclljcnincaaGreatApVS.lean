/- Several texts in one. (Printed by prep.py.) -/
import Derived.Test.YthiaclljcnincaaGreatProg
import Derived.Test.YthiaclljcnincaaGreatApSy14
namespace Go.Proofs.YthiaclljcnincaaGreat
open Go.RowKit
abbrev Cl (k:World) (f:Nat) (args:Array Value) (P:World→Value→Prop):Prop:=∀k',Sy.Up k k'→Sy.CallsG Tryz.prog f args k' P
abbrev Gt (n:Nat) (r:Value) (Q:Array Value→Prop):Prop:=∃cs:Array Value,Sy.Seg n cs∧some (Value.agg cs)=some r∧Q cs
abbrev Br (b:Bool) (P Q:Prop):Prop:=(b=true→P)∧(b=false→Q)
abbrev Rt (R:World→Value→Prop) (k:World) (v:Value):Prop:=∀k',Sy.Up k k'→R k' v
abbrev Ad (A:Option Addr):Prop:=∃b o,A=some ⟨b,o,none⟩
abbrev Ix (n:Int) (l:Nat):Prop:=(0:Int)≤n∧(n:Int)<(l:Nat)
abbrev El (k:World) (A:Option Addr) (n:Int) (l s:Nat) (Q:Array Value→Prop):Prop:=Ad A∧Ix n l∧∃cs:Array Value,Sy.Seg s cs∧Sy.ReadAt k.cell? A (Int.toNat n*s+0) s (Value.agg cs)∧Q cs
abbrev Gb (r:Value) (Q:Bool→Prop):Prop:=∃b:Bool,some (Value.bool b)=some r∧Q b
abbrev Gi (r:Value) (Q:Int→Prop):Prop:=∃n:Int,some (Value.int .i64 n)=some r∧Q n
abbrev Tt:Prop:=true=true
abbrev S3 (A:Option Addr) (l c:Nat) (A':Option Addr) (l' c':Nat) (A'':Option Addr) (l'' c'':Nat):Value:=.agg #[.slice A l c,.slice A' l' c',.slice A'' l'' c'']
abbrev S6 (A:Option Addr) (l c:Nat) (A':Option Addr) (l' c':Nat) (A'':Option Addr) (l'' c'':Nat) (B:Option Addr) (m d:Nat) (B':Option Addr) (m' d':Nat) (B'':Option Addr) (m'' d'':Nat):Value:=.agg #[.slice A l c,.slice A' l' c',.slice A'' l'' c'',.slice B m d,.slice B' m' d',.slice B'' m'' d'']
abbrev Z3:Value:=.agg #[.slice none 0 0,.slice none 0 0,.slice none 0 0]
abbrev Z6:Value:=.agg #[.slice none 0 0,.slice none 0 0,.slice none 0 0,.slice none 0 0,.slice none 0 0,.slice none 0 0]
abbrev Rg (a b c d:Array Value):Value:=.agg (a.toList++(b.toList++(c.toList++(d.toList++([]))))).toArray
abbrev qV (i n:Nat):List Sy.SC:=(List.range' i n).map Sy.SC.var
theorem qX (cfg:Sy.Cfg) {f:FuncId}(args:List Sy.SV) (vals:List Value) (kinds:List Sy.LK) {vs:List Value}{k:World}{R:World→Value→Prop}{V:Prop}(hfit:Sy.fitsL kinds vals) (hT:V) (hargs:Sy.argsD (Sy.Env.of k vals kinds []) args=some vs:=by kernel_rfl)
 (hV:V=(Sy.execFn Tryz.prog cfg f args [] kinds).den Tryz.prog ⟨R,fun _ _ _=>True⟩ (Sy.Env.of k vals kinds []).bare k:=by kernel_rfl):Sy.CallsG Tryz.prog f vs.toArray k R:=
 Sy.execFn_use (cfg:=cfg) (args:=args) (vals:=vals) (kinds:=kinds) ox hfit hargs hV hT
def fl:List Value→List Value
 | []=>[]
 | .agg cs :: r=>cs.toList++fl r
 | v :: r=>v :: fl r
def sh (i:Nat):List Value→List Sy.SV
 | []=>[]
 | .agg cs :: r=>.agg (qV i cs.size) :: sh (i+cs.size) r
 | _ :: r=>.one (.var i) :: sh (i+1) r
def kd:Value→Sy.LK
 | .slice _ _ _=>.slice
 | .int k _=>.int k
 | _=>.bool
def bas:Value→Bool
 | .slice _ _ _=>true
 | .int _ _=>true
 | .bool _=>true
 | _=>false
theorem bAk:∀vs:List Value,vs.all bas=true→Sy.fitsL (vs.map kd) vs
 | [],_=>trivial
 | v :: vs,h=>by
  rw [List.all_cons,qf]at h;refine⟨?_,bAk vs h.2⟩;have h:=h.1;cases v <;> first|exact⟨_,_,_,rfl⟩|exact⟨_,rfl⟩|cases h
theorem qY (cfg:Sy.Cfg) {f:FuncId}{vs:List Value}{k:World}{R:World→Value→Prop}{V:Prop}(hT:V) (hb:(fl vs).all bas=true:=by kernel_rfl) (hargs:Sy.argsD (Sy.Env.of k (fl vs) ((fl vs).map kd) []) (sh 0 vs)=some vs:=by kernel_rfl)
 (hV:V=(Sy.execFn Tryz.prog cfg f (sh 0 vs) [] ((fl vs).map kd)).den Tryz.prog ⟨R,fun _ _ _=>True⟩ (Sy.Env.of k (fl vs) ((fl vs).map kd) []).bare k:=by kernel_rfl):Sy.CallsG Tryz.prog f vs.toArray k R:=
 Sy.execFn_use (cfg:=cfg) (args:=sh 0 vs) (vals:=fl vs) (kinds:=(fl vs).map kd) ox (bAk _ hb) hargs hV hT
theorem qS {A:Option Addr}{n c:Nat}:∃A' n' c',Value.slice A n c=Value.slice A' n' c':=⟨_,_,_,rfl⟩
open IntKind (wrap)
open Value (agg slice int bool tuple)
open Sy (Up Sees CallsG Seg execFn_use)
set_option maxRecDepth 100000
variable {k:World}{R:World→Value→Prop}{b0 b2 b4 b6:Bool}{A1 A3 A4 A5 A6 A7 A8 A9:Option Addr}{c1 c3 c4 c5 c6 c7 c8 c9 l1 l3 l4 l5 l6 l7 l8 l9:Nat}{cs0 cs1 cs2 cs3 cs4 cs5 cs6 cs7 cs8:Array Value}
theorem aVn 
 (h:Cl k 77 #[slice A8 l8 c8,slice A1 l1 c1] fun k1 r0=>∃A9 l9 c9,some (slice A9 l9 c9)=some r0∧
 Cl k1 77 #[slice A9 l9 c9,slice A3 l3 c3] fun k3 r2=>∃A10 l10 c10,some (slice A10 l10 c10)=some r2∧
 Cl k3 77 #[slice A10 l10 c10,slice A5 l5 c5] fun k5 r4=>∃A11 l11 c11,some (slice A11 l11 c11)=some r4∧
 Cl k5 77 #[slice A11 l11 c11,slice A7 l7 c7] fun k7 r6=>∃A12 l12 c12,some (slice A12 l12 c12)=some r6∧
 Cl k7 78 #[slice A12 l12 c12] fun k9 r8=>Gb r8 fun b13=>
 Br (!b13) (Cl k9 79 #[slice A1 l1 c1,slice A12 l12 c12] fun k11 r10=>∃A14 l14 c14,∃A15 l15 c15,some (tuple #[slice A14 l14 c14,slice A15 l15 c15])=some r10∧
 Cl k11 79 #[slice A3 l3 c3,slice A12 l12 c12] fun k13 r12=>∃A16 l16 c16,∃A17 l17 c17,some (tuple #[slice A16 l16 c16,slice A17 l17 c17])=some r12∧
 Cl k13 79 #[slice A5 l5 c5,slice A12 l12 c12] fun k15 r14=>∃A18 l18 c18,∃A19 l19 c19,some (tuple #[slice A18 l18 c18,slice A19 l19 c19])=some r14∧
 Cl k15 79 #[slice A7 l7 c7,slice A12 l12 c12] fun k17 r16=>∃A20 l20 c20,∃A21 l21 c21,some (tuple #[slice A20 l20 c20,slice A21 l21 c21])=some r16∧
 Cl k17 79 #[slice A8 l8 c8,slice A12 l12 c12] fun k19 r18=>∃A22 l22 c22,∃A23 l23 c23,some (tuple #[slice A22 l22 c22,slice A23 l23 c23])=some r18∧
 Cl k19 78 #[slice A22 l22 c22] fun k21 r20=>Gb r20 fun b24=>
 Br b24 (Rt R k21 (agg #[bool b0,slice A14 l14 c14,bool b2,slice A16 l16 c16,bool b4,slice A18 l18 c18,bool b6,slice A20 l20 c20,slice none 0 0])) (Rt R k21 (agg #[bool b0,slice A14 l14 c14,bool b2,slice A16 l16 c16,bool b4,slice A18 l18 c18,bool b6,slice A20 l20 c20,slice A22 l22 c22]))) (Cl k9 78 #[slice A8 l8 c8] fun k25 r24=>Gb r24 fun b14=>
 Br b14 (Rt R k25 (agg #[bool b0,slice A1 l1 c1,bool b2,slice A3 l3 c3,bool b4,slice A5 l5 c5,bool b6,slice A7 l7 c7,slice none 0 0])) (Rt R k25 (agg #[bool b0,slice A1 l1 c1,bool b2,slice A3 l3 c3,bool b4,slice A5 l5 c5,bool b6,slice A7 l7 c7,slice A8 l8 c8])))) :
  CallsG Tryz.prog 51 #[agg #[bool b0,slice A1 l1 c1,bool b2,slice A3 l3 c3,bool b4,slice A5 l5 c5,bool b6,slice A7 l7 c7],slice A8 l8 c8] k R:=
  qY { opq:=[] } h
theorem aSe (hcs0:Seg 2 cs0) (hcs1:Seg 2 cs1) (hcs2:Seg 2 cs2) (hcs3:Seg 2 cs3) (hcs5:Seg 2 cs5) (hcs6:Seg 2 cs6) (hcs7:Seg 2 cs7) (hcs8:Seg 2 cs8)
 (h:Cl k 53 #[slice A4 l4 c4] fun k1 r0=>∃A10 l10 c10,some (slice A10 l10 c10)=some r0∧
 Cl k1 53 #[slice A9 l9 c9] fun k3 r2=>∃A11 l11 c11,some (slice A11 l11 c11)=some r2∧
 Cl k3 55 #[agg cs0,slice A11 l11 c11] fun k5 r4=>Gt 2 r4 fun cs12=>
 Cl k5 55 #[agg cs5,slice A10 l10 c10] fun k7 r6=>Gt 2 r6 fun cs13=>
 Cl k7 56 #[agg cs12,agg cs13] fun k9 r8=>Gt 2 r8 fun cs14=>
 Cl k9 55 #[agg cs1,slice A11 l11 c11] fun k11 r10=>Gt 2 r10 fun cs15=>
 Cl k11 55 #[agg cs6,slice A10 l10 c10] fun k13 r12=>Gt 2 r12 fun cs16=>
 Cl k13 56 #[agg cs15,agg cs16] fun k15 r14=>Gt 2 r14 fun cs17=>
 Cl k15 55 #[agg cs2,slice A11 l11 c11] fun k17 r16=>Gt 2 r16 fun cs18=>
 Cl k17 55 #[agg cs7,slice A10 l10 c10] fun k19 r18=>Gt 2 r18 fun cs19=>
 Cl k19 56 #[agg cs18,agg cs19] fun k21 r20=>Gt 2 r20 fun cs20=>
 Cl k21 55 #[agg cs3,slice A11 l11 c11] fun k23 r22=>Gt 2 r22 fun cs21=>
 Cl k23 55 #[agg cs8,slice A10 l10 c10] fun k25 r24=>Gt 2 r24 fun cs22=>
 Cl k25 56 #[agg cs21,agg cs22] fun k27 r26=>Gt 2 r26 fun cs23=>
 Cl k27 54 #[slice A10 l10 c10,slice A11 l11 c11] fun k29 r28=>∃A24 l24 c24,some (slice A24 l24 c24)=some r28∧
 Cl k29 51 #[Rg cs14 cs17 cs20 cs23,slice A24 l24 c24] fun k31 r30=>∃cs25,Seg 2 cs25∧∃cs26,Seg 2 cs26∧∃cs27,Seg 2 cs27∧∃cs28,Seg 2 cs28∧∃A29 l29 c29,some (agg (cs25.toList++(cs26.toList++(cs27.toList++(cs28.toList++((slice A29 l29 c29) :: ([])))))).toArray)=some r30∧
 Rt R k31 (agg (cs25.toList++(cs26.toList++(cs27.toList++(cs28.toList++((slice A29 l29 c29) :: ([])))))).toArray)) :
  CallsG Tryz.prog 26 #[agg (cs0.toList++(cs1.toList++(cs2.toList++(cs3.toList++((slice A4 l4 c4) :: ([])))))).toArray,agg (cs5.toList++(cs6.toList++(cs7.toList++(cs8.toList++((slice A9 l9 c9) :: ([])))))).toArray] k R:=
  qX { opq:=[33] } [.agg [.seg 0 2,.seg 1 2,.seg 2 2,.seg 3 2,.var 4],.agg [.seg 5 2,.seg 6 2,.seg 7 2,.seg 8 2,.var 9]] [agg cs0,agg cs1,agg cs2,agg cs3,slice A4 l4 c4,agg cs5,agg cs6,agg cs7,agg cs8,slice A9 l9 c9] [.seg 2,.seg 2,.seg 2,.seg 2,.slice,.seg 2,.seg 2,.seg 2,.seg 2,.slice] ⟨⟨cs0,rfl,hcs0⟩,⟨cs1,rfl,hcs1⟩,⟨cs2,rfl,hcs2⟩,⟨cs3,rfl,hcs3⟩,qS,⟨cs5,rfl,hcs5⟩,⟨cs6,rfl,hcs6⟩,⟨cs7,rfl,hcs7⟩,⟨cs8,rfl,hcs8⟩,qS,trivial⟩ h
theorem aDl (hcs0:Seg 2 cs0) (hcs1:Seg 2 cs1) (hcs2:Seg 2 cs2) (hcs3:Seg 2 cs3) (hcs4:Seg 2 cs4) (hcs5:Seg 2 cs5) (hcs6:Seg 2 cs6) (hcs7:Seg 2 cs7)
 (h:∀p8 k0,Up k k0→Sy.Blk k0 p8 34 (cs0.toList++(cs1.toList++(cs2.toList++(cs3.toList++([]))))).toArray→
 ∀p9 k1,Up k0 k1→Sy.Blk k1 p9 34 (cs4.toList++(cs5.toList++(cs6.toList++(cs7.toList++([]))))).toArray→
 Cl k1 80 #[int .i64 0,int .i64 0,(Value.pointer (some ⟨p8,0,none⟩)),(Value.pointer (some ⟨p9,0,none⟩))] fun k3 r2=>Gt 2 r2 fun cs10=>
 Cl k3 80 #[int .i64 1,int .i64 1,(Value.pointer (some ⟨p8,0,none⟩)),(Value.pointer (some ⟨p9,0,none⟩))] fun k5 r4=>Gt 2 r4 fun cs11=>
 Cl k5 82 #[agg cs11,int .u64 2] fun k7 r6=>Gt 2 r6 fun cs12=>
 Cl k7 56 #[agg cs10,agg cs12] fun k9 r8=>Gt 2 r8 fun cs13=>
 Cl k9 80 #[int .i64 2,int .i64 2,(Value.pointer (some ⟨p8,0,none⟩)),(Value.pointer (some ⟨p9,0,none⟩))] fun k11 r10=>Gt 2 r10 fun cs14=>
 Cl k11 82 #[agg cs14,int .u64 3] fun k13 r12=>Gt 2 r12 fun cs15=>
 Cl k13 56 #[agg cs13,agg cs15] fun k15 r14=>Gt 2 r14 fun cs16=>
 Cl k15 80 #[int .i64 3,int .i64 3,(Value.pointer (some ⟨p8,0,none⟩)),(Value.pointer (some ⟨p9,0,none⟩))] fun k17 r16=>Gt 2 r16 fun cs17=>
 Cl k17 82 #[agg cs17,int .u64 6] fun k19 r18=>Gt 2 r18 fun cs18=>
 Cl k19 56 #[agg cs16,agg cs18] fun k21 r20=>Gt 2 r20 fun cs19=>
 Cl k21 80 #[int .i64 0,int .i64 1,(Value.pointer (some ⟨p8,0,none⟩)),(Value.pointer (some ⟨p9,0,none⟩))] fun k23 r22=>Gt 2 r22 fun cs20=>
 Cl k23 80 #[int .i64 1,int .i64 0,(Value.pointer (some ⟨p8,0,none⟩)),(Value.pointer (some ⟨p9,0,none⟩))] fun k25 r24=>Gt 2 r24 fun cs21=>
 Cl k25 56 #[agg cs20,agg cs21] fun k27 r26=>Gt 2 r26 fun cs22=>
 Cl k27 80 #[int .i64 2,int .i64 3,(Value.pointer (some ⟨p8,0,none⟩)),(Value.pointer (some ⟨p9,0,none⟩))] fun k29 r28=>Gt 2 r28 fun cs23=>
 Cl k29 80 #[int .i64 3,int .i64 2,(Value.pointer (some ⟨p8,0,none⟩)),(Value.pointer (some ⟨p9,0,none⟩))] fun k31 r30=>Gt 2 r30 fun cs24=>
 Cl k31 56 #[agg cs23,agg cs24] fun k33 r32=>Gt 2 r32 fun cs25=>
 Cl k33 82 #[agg cs25,int .u64 3] fun k35 r34=>Gt 2 r34 fun cs26=>
 Cl k35 56 #[agg cs22,agg cs26] fun k37 r36=>Gt 2 r36 fun cs27=>
 Cl k37 80 #[int .i64 0,int .i64 2,(Value.pointer (some ⟨p8,0,none⟩)),(Value.pointer (some ⟨p9,0,none⟩))] fun k39 r38=>Gt 2 r38 fun cs28=>
 Cl k39 80 #[int .i64 2,int .i64 0,(Value.pointer (some ⟨p8,0,none⟩)),(Value.pointer (some ⟨p9,0,none⟩))] fun k41 r40=>Gt 2 r40 fun cs29=>
 Cl k41 56 #[agg cs28,agg cs29] fun k43 r42=>Gt 2 r42 fun cs30=>
 Cl k43 80 #[int .i64 1,int .i64 3,(Value.pointer (some ⟨p8,0,none⟩)),(Value.pointer (some ⟨p9,0,none⟩))] fun k45 r44=>Gt 2 r44 fun cs31=>
 Cl k45 80 #[int .i64 3,int .i64 1,(Value.pointer (some ⟨p8,0,none⟩)),(Value.pointer (some ⟨p9,0,none⟩))] fun k47 r46=>Gt 2 r46 fun cs32=>
 Cl k47 56 #[agg cs31,agg cs32] fun k49 r48=>Gt 2 r48 fun cs33=>
 Cl k49 82 #[agg cs33,int .u64 2] fun k51 r50=>Gt 2 r50 fun cs34=>
 Cl k51 56 #[agg cs30,agg cs34] fun k53 r52=>Gt 2 r52 fun cs35=>
 Cl k53 80 #[int .i64 0,int .i64 3,(Value.pointer (some ⟨p8,0,none⟩)),(Value.pointer (some ⟨p9,0,none⟩))] fun k55 r54=>Gt 2 r54 fun cs36=>
 Cl k55 80 #[int .i64 3,int .i64 0,(Value.pointer (some ⟨p8,0,none⟩)),(Value.pointer (some ⟨p9,0,none⟩))] fun k57 r56=>Gt 2 r56 fun cs37=>
 Cl k57 56 #[agg cs36,agg cs37] fun k59 r58=>Gt 2 r58 fun cs38=>
 Cl k59 80 #[int .i64 1,int .i64 2,(Value.pointer (some ⟨p8,0,none⟩)),(Value.pointer (some ⟨p9,0,none⟩))] fun k61 r60=>Gt 2 r60 fun cs39=>
 Cl k61 56 #[agg cs38,agg cs39] fun k63 r62=>Gt 2 r62 fun cs40=>
 Cl k63 80 #[int .i64 2,int .i64 1,(Value.pointer (some ⟨p8,0,none⟩)),(Value.pointer (some ⟨p9,0,none⟩))] fun k65 r64=>Gt 2 r64 fun cs41=>
 Cl k65 56 #[agg cs40,agg cs41] fun k67 r66=>Gt 2 r66 fun cs42=>
 Rt R k67 (Rg cs19 cs27 cs35 cs42)) :
  CallsG Tryz.prog 52 #[Rg cs0 cs1 cs2 cs3,Rg cs4 cs5 cs6 cs7] k R:=
  qX { opq:=[33] } [.agg [.seg 0 2,.seg 1 2,.seg 2 2,.seg 3 2],.agg [.seg 4 2,.seg 5 2,.seg 6 2,.seg 7 2]] [agg cs0,agg cs1,agg cs2,agg cs3,agg cs4,agg cs5,agg cs6,agg cs7] [.seg 2,.seg 2,.seg 2,.seg 2,.seg 2,.seg 2,.seg 2,.seg 2] ⟨⟨cs0,rfl,hcs0⟩,⟨cs1,rfl,hcs1⟩,⟨cs2,rfl,hcs2⟩,⟨cs3,rfl,hcs3⟩,⟨cs4,rfl,hcs4⟩,⟨cs5,rfl,hcs5⟩,⟨cs6,rfl,hcs6⟩,⟨cs7,rfl,hcs7⟩,trivial⟩ h
theorem aSg (hcs0:Seg 2 cs0) (hcs1:Seg 2 cs1) (hcs2:Seg 2 cs2) (hcs3:Seg 2 cs3)
 (h:Cl k 88 #[agg cs0] fun k1 r0=>Gt 2 r0 fun cs5=>
 Cl k1 88 #[agg cs1] fun k3 r2=>Gt 2 r2 fun cs6=>
 Cl k3 88 #[agg cs2] fun k5 r4=>Gt 2 r4 fun cs7=>
 Cl k5 88 #[agg cs3] fun k7 r6=>Gt 2 r6 fun cs8=>
 Rt R k7 (agg (cs5.toList++(cs6.toList++(cs7.toList++(cs8.toList++((slice A4 l4 c4) :: ([])))))).toArray)) :
  CallsG Tryz.prog 57 #[agg (cs0.toList++(cs1.toList++(cs2.toList++(cs3.toList++((slice A4 l4 c4) :: ([])))))).toArray] k R:=
  qX { opq:=[33] } [.agg [.seg 0 2,.seg 1 2,.seg 2 2,.seg 3 2,.var 4]] [agg cs0,agg cs1,agg cs2,agg cs3,slice A4 l4 c4] [.seg 2,.seg 2,.seg 2,.seg 2,.slice] ⟨⟨cs0,rfl,hcs0⟩,⟨cs1,rfl,hcs1⟩,⟨cs2,rfl,hcs2⟩,⟨cs3,rfl,hcs3⟩,qS,trivial⟩ h
theorem aLi 
 (h:Tt∧(Tt∧(Tt∧(Tt∧(Rt R k (bool (((wrap .i64 ((wrap .i64 ((wrap .i64 ((l1:Nat)+(l3:Nat)))+(l5:Nat)))+(l7:Nat))):Int) == 0))))))) :
 CallsG Tryz.prog 161 #[agg #[bool b0,slice A1 l1 c1,bool b2,slice A3 l3 c3,bool b4,slice A5 l5 c5,bool b6,slice A7 l7 c7,slice A8 l8 c8]] k R:=
 qY { opq:=[] } h
theorem aSh (hcs0:Seg 9 cs0) (hcs1:Seg 9 cs1)
 (h:Cl k 57 #[agg cs1] fun k1 r0=>Gt 9 r0 fun cs2=>
 Cl k1 26 #[agg cs0,agg cs2] fun k3 r2=>Gt 9 r2 fun cs3=>
 Rt R k3 (agg cs3)) :
  CallsG Tryz.prog 27 #[agg cs0,agg cs1] k R:=
  qX { opq:=[36] } [.agg [.seg 0 9],.agg [.seg 1 9]] [agg cs0,agg cs1] [.seg 9,.seg 9] ⟨⟨cs0,rfl,hcs0⟩,⟨cs1,rfl,hcs1⟩,trivial⟩ h
theorem aLd (hcs0:Seg 2 cs0) (hcs1:Seg 2 cs1) (hcs2:Seg 2 cs2) (hcs3:Seg 2 cs3)
 (h:Cl k 53 #[slice A4 l4 c4] fun k1 r0=>∃A5 l5 c5,some (slice A5 l5 c5)=some r0∧
 Cl k1 59 #[agg cs0,slice A5 l5 c5] fun k3 r2=>Gt 3 r2 fun cs6=>
 Cl k3 53 #[slice A4 l4 c4] fun k5 r4=>∃A7 l7 c7,some (slice A7 l7 c7)=some r4∧
 Cl k5 59 #[agg cs1,slice A7 l7 c7] fun k7 r6=>Gt 3 r6 fun cs8=>
 Cl k7 53 #[slice A4 l4 c4] fun k9 r8=>∃A9 l9 c9,some (slice A9 l9 c9)=some r8∧
 Cl k9 59 #[agg cs2,slice A9 l9 c9] fun k11 r10=>Gt 3 r10 fun cs10=>
 Cl k11 53 #[slice A4 l4 c4] fun k13 r12=>∃A11 l11 c11,some (slice A11 l11 c11)=some r12∧
 Cl k13 59 #[agg cs3,slice A11 l11 c11] fun k15 r14=>Gt 3 r14 fun cs12=>
 Rt R k15 (Rg cs6 cs8 cs10 cs12)) :
  CallsG Tryz.prog 30 #[agg (cs0.toList++(cs1.toList++(cs2.toList++(cs3.toList++((slice A4 l4 c4) :: ([])))))).toArray] k R:=
  qX { opq:=[33,41] } [.agg [.seg 0 2,.seg 1 2,.seg 2 2,.seg 3 2,.var 4]] [agg cs0,agg cs1,agg cs2,agg cs3,slice A4 l4 c4] [.seg 2,.seg 2,.seg 2,.seg 2,.slice] ⟨⟨cs0,rfl,hcs0⟩,⟨cs1,rfl,hcs1⟩,⟨cs2,rfl,hcs2⟩,⟨cs3,rfl,hcs3⟩,qS,trivial⟩ h
theorem aSf (hcs0:Seg 2 cs0) (hcs1:Seg 2 cs1) (hcs2:Seg 2 cs2) (hcs3:Seg 2 cs3) (hcs5:Seg 2 cs5) (hcs6:Seg 2 cs6) (hcs7:Seg 2 cs7) (hcs8:Seg 2 cs8)
 (h:Cl k 52 #[Rg cs0 cs1 cs2 cs3,Rg cs5 cs6 cs7 cs8] fun k1 r0=>∃cs10,Seg 2 cs10∧∃cs11,Seg 2 cs11∧∃cs12,Seg 2 cs12∧∃cs13,Seg 2 cs13∧some (Rg cs10 cs11 cs12 cs13)=some r0∧
 Cl k1 53 #[slice A4 l4 c4] fun k3 r2=>∃A14 l14 c14,some (slice A14 l14 c14)=some r2∧
 Cl k3 53 #[slice A9 l9 c9] fun k5 r4=>∃A15 l15 c15,some (slice A15 l15 c15)=some r4∧
 Cl k5 54 #[slice A14 l14 c14,slice A15 l15 c15] fun k7 r6=>∃A16 l16 c16,some (slice A16 l16 c16)=some r6∧
 Cl k7 51 #[Rg cs10 cs11 cs12 cs13,slice A16 l16 c16] fun k9 r8=>∃cs17,Seg 2 cs17∧∃cs18,Seg 2 cs18∧∃cs19,Seg 2 cs19∧∃cs20,Seg 2 cs20∧∃A21 l21 c21,some (agg (cs17.toList++(cs18.toList++(cs19.toList++(cs20.toList++((slice A21 l21 c21) :: ([])))))).toArray)=some r8∧
 Rt R k9 (agg (cs17.toList++(cs18.toList++(cs19.toList++(cs20.toList++((slice A21 l21 c21) :: ([])))))).toArray)) :
  CallsG Tryz.prog 25 #[agg (cs0.toList++(cs1.toList++(cs2.toList++(cs3.toList++((slice A4 l4 c4) :: ([])))))).toArray,agg (cs5.toList++(cs6.toList++(cs7.toList++(cs8.toList++((slice A9 l9 c9) :: ([])))))).toArray] k R:=
  qX { opq:=[33] } [.agg [.seg 0 2,.seg 1 2,.seg 2 2,.seg 3 2,.var 4],.agg [.seg 5 2,.seg 6 2,.seg 7 2,.seg 8 2,.var 9]] [agg cs0,agg cs1,agg cs2,agg cs3,slice A4 l4 c4,agg cs5,agg cs6,agg cs7,agg cs8,slice A9 l9 c9] [.seg 2,.seg 2,.seg 2,.seg 2,.slice,.seg 2,.seg 2,.seg 2,.seg 2,.slice] ⟨⟨cs0,rfl,hcs0⟩,⟨cs1,rfl,hcs1⟩,⟨cs2,rfl,hcs2⟩,⟨cs3,rfl,hcs3⟩,qS,⟨cs5,rfl,hcs5⟩,⟨cs6,rfl,hcs6⟩,⟨cs7,rfl,hcs7⟩,⟨cs8,rfl,hcs8⟩,qS,trivial⟩ h
theorem aWv (hcs0:Seg 2 cs0) (hcs1:Seg 2 cs1) (hcs2:Seg 2 cs2) (hcs3:Seg 2 cs3) (hcs5:Seg 2 cs5)
 (h:Rt R k (agg (cs5.toList++((bool false) :: ((slice none 0 0) :: ((bool false) :: ((slice none 0 0) :: ((bool false) :: ((slice none 0 0) :: ((slice A6 l6 c6) :: ([]))))))))).toArray)) :
 CallsG Tryz.prog 7 #[agg (cs0.toList++(cs1.toList++(cs2.toList++(cs3.toList++((slice A4 l4 c4) :: ([])))))).toArray,agg (cs5.toList++((slice A6 l6 c6) :: ([]))).toArray] k R:=
 qX { opq:=[33] } [.agg [.seg 0 2,.seg 1 2,.seg 2 2,.seg 3 2,.var 4],.agg [.seg 5 2,.var 6]] [agg cs0,agg cs1,agg cs2,agg cs3,slice A4 l4 c4,agg cs5,slice A6 l6 c6] [.seg 2,.seg 2,.seg 2,.seg 2,.slice,.seg 2,.slice] ⟨⟨cs0,rfl,hcs0⟩,⟨cs1,rfl,hcs1⟩,⟨cs2,rfl,hcs2⟩,⟨cs3,rfl,hcs3⟩,qS,⟨cs5,rfl,hcs5⟩,qS,trivial⟩ h
