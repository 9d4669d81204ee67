/- Several texts in one. (Printed by prep.py.) -/
import Derived.Test.YtjgnlflbgmnfaaaGreatHsNP
namespace Go.Proofs.YtjgnlflbgmnfaaaGreat
open Num Plain
namespace Q23L
end Q23L
open Q23L
noncomputable def sgd (a b:Q4):Int:=C.sg (a.sub b).toQ
def fAt (x:W4) (k:Nat):Q4:=(x.mul (aIm ((24-k) % 24))).re
noncomputable def hi (x:W4):Nat→Nat×Q4
 | 0=>(0,x.re)
 | j+1=>if 0<sgd (fAt x (j+1)) (hi x j).2 then (j+1,fAt x (j+1)) else hi x j
noncomputable def cnt (x:W4) (s:Q4) (k:Nat):Nat:=((List.range k).filter fun i=>decide (sgd (fAt x i) s=0)).length
def sg2F (a b:Rat):Int:=cP a.num.sign b.num.sign (a*a-2*(b*b)).num.sign
def sgF (v:Q4):Int:=cP (sg2F v.a v.b) (sg2F v.c v.d) (sg2F (v.a*v.a+2*(v.b*v.b)-3*(v.c*v.c+2*(v.d*v.d))) (v.a*v.b+v.b*v.a-3*(v.c*v.d+v.d*v.c)))
open IntKind (wrap)
open Go.RowKit
open Value (agg slice int bool tuple)
open Sy (Up Sees CallsG Seg execFn_use)
set_option maxRecDepth 100000
variable {k:World}{R:World→Value→Prop}{n0:Int}
theorem aQo 
 (h:Rt R k (int .i64 (Int.tmod (wrap .i64 ((Int.tmod n0 24)+24)) 24))) :
 CallsG Tryz.prog 209 #[int .i64 n0] k R:=
 qY { opq:=[] } h
theorem aUp 
 (h:Cl k 209 #[int .i64 n0] fun k1 r0=>Gi r0 fun n1=>
 Cl k1 210 #[int .i64 n1] fun k3 r2=>Gt 9 r2 fun cs2=>
 Cl k3 209 #[int .i64 (wrap .i64 (n1-6))] fun k5 r4=>Gi r4 fun n3=>
 Cl k5 210 #[int .i64 n3] fun k7 r6=>Gt 9 r6 fun cs4=>
 Rt R k7 (agg (cs2.toList++(cs4.toList++([]))).toArray)) :
  CallsG Tryz.prog 129 #[int .i64 n0] k R:=
  qY { opq:=[63] } h
theorem bJ 
 (h:Br (decide ((n0:Int) > 12)) (Br (decide (((wrap .i64 (24-n0)):Int) > 6)) (Cl k 210 #[int .i64 (wrap .i64 (12-(wrap .i64 (24-n0))))] fun k1 r0=>Gt 9 r0 fun cs1=>
 Cl k1 111 #[agg cs1] fun k3 r2=>Gt 9 r2 fun cs2=>
 Rt R k3 (agg cs2)) (Br (((wrap .i64 (24-n0)):Int) == 0) (Cl k 92 #[int .i64 1] fun k6 r5=>Gt 2 r5 fun cs1=>
 Rt R k6 (agg (cs1.toList++((bool false) :: ((slice none 0 0) :: ((bool false) :: ((slice none 0 0) :: ((bool false) :: ((slice none 0 0) :: ((slice none 0 0) :: ([]))))))))).toArray)) (Br (((wrap .i64 (24-n0)):Int) == 1) (Cl k 253 #[int .i64 1,int .u64 4] fun k9 r8=>Gt 9 r8 fun cs1=>
 Cl k9 253 #[int .i64 3,int .u64 4] fun k11 r10=>Gt 9 r10 fun cs2=>
 Cl k11 110 #[agg cs1,agg cs2] fun k13 r12=>Gt 9 r12 fun cs3=>
 Rt R k13 (agg cs3)) (Br (((wrap .i64 (24-n0)):Int) == 2) (Cl k 253 #[int .i64 2,int .u64 2] fun k16 r15=>Gt 9 r15 fun cs1=>
 Rt R k16 (agg cs1)) (Br (((wrap .i64 (24-n0)):Int) == 3) (Cl k 253 #[int .i64 1,int .u64 2] fun k19 r18=>Gt 9 r18 fun cs1=>
 Rt R k19 (agg cs1)) (Br (((wrap .i64 (24-n0)):Int) == 4) (Cl k 253 #[int .i64 0,int .u64 2] fun k22 r21=>Gt 9 r21 fun cs1=>
 Rt R k22 (agg cs1)) (Br (((wrap .i64 (24-n0)):Int) == 5) (Cl k 253 #[int .i64 3,int .u64 4] fun k25 r24=>Gt 9 r24 fun cs1=>
 Cl k25 253 #[int .i64 1,int .u64 4] fun k27 r26=>Gt 9 r26 fun cs2=>
 Cl k27 34 #[agg cs1,agg cs2] fun k29 r28=>Gt 9 r28 fun cs3=>
 Rt R k29 (agg cs3)) (Rt R k (agg #[bool false,slice none 0 0,bool false,slice none 0 0,bool false,slice none 0 0,bool false,slice none 0 0,slice none 0 0]))))))))) (Br (decide ((n0:Int) > 6)) (Cl k 210 #[int .i64 (wrap .i64 (12-n0))] fun k33 r32=>Gt 9 r32 fun cs1=>
 Cl k33 111 #[agg cs1] fun k35 r34=>Gt 9 r34 fun cs2=>
 Rt R k35 (agg cs2)) (Br ((n0:Int) == 0) (Cl k 92 #[int .i64 1] fun k38 r37=>Gt 2 r37 fun cs1=>
 Rt R k38 (agg (cs1.toList++((bool false) :: ((slice none 0 0) :: ((bool false) :: ((slice none 0 0) :: ((bool false) :: ((slice none 0 0) :: ((slice none 0 0) :: ([]))))))))).toArray)) (Br ((n0:Int) == 1) (Cl k 253 #[int .i64 1,int .u64 4] fun k41 r40=>Gt 9 r40 fun cs1=>
 Cl k41 253 #[int .i64 3,int .u64 4] fun k43 r42=>Gt 9 r42 fun cs2=>
 Cl k43 110 #[agg cs1,agg cs2] fun k45 r44=>Gt 9 r44 fun cs3=>
 Rt R k45 (agg cs3)) (Br ((n0:Int) == 2) (Cl k 253 #[int .i64 2,int .u64 2] fun k48 r47=>Gt 9 r47 fun cs1=>
 Rt R k48 (agg cs1)) (Br ((n0:Int) == 3) (Cl k 253 #[int .i64 1,int .u64 2] fun k51 r50=>Gt 9 r50 fun cs1=>
 Rt R k51 (agg cs1)) (Br ((n0:Int) == 4) (Cl k 253 #[int .i64 0,int .u64 2] fun k54 r53=>Gt 9 r53 fun cs1=>
 Rt R k54 (agg cs1)) (Br ((n0:Int) == 5) (Cl k 253 #[int .i64 3,int .u64 4] fun k57 r56=>Gt 9 r56 fun cs1=>
 Cl k57 253 #[int .i64 1,int .u64 4] fun k59 r58=>Gt 9 r58 fun cs2=>
 Cl k59 34 #[agg cs1,agg cs2] fun k61 r60=>Gt 9 r60 fun cs3=>
 Rt R k61 (agg cs3)) (Rt R k (agg #[bool false,slice none 0 0,bool false,slice none 0 0,bool false,slice none 0 0,bool false,slice none 0 0,slice none 0 0])))))))))) :
  CallsG Tryz.prog 210 #[int .i64 n0] k R:=
  qY { opq:=[63,29] } h
theorem aRh 
 (h:Cl k 211 #[int .i64 (Int.tmod (wrap .i64 ((Int.tmod n0 24)+24)) 24)] fun k1 r0=>Gt 12 r0 fun cs1=>
 Cl k1 211 #[int .i64 (Int.tmod (wrap .i64 ((Int.tmod (wrap .i64 ((Int.tmod n0 24)+24)) 24)+18)) 24)] fun k3 r2=>Gt 12 r2 fun cs2=>
 Rt R k3 (agg (cs1.toList++(cs2.toList++([]))).toArray)) :
  CallsG Tryz.prog 131 #[int .i64 n0] k R:=
  qY { opq:=[68] } h
theorem aRi
 (h:Cl k 165 #[int .i64 4,int .i64 4] fun k1 r0=>∃cs0,Seg 3 cs0∧∃n1,some (tuple #[agg cs0,int .i64 n1])=some r0∧
 Cl k1 165 #[int .i64 0,int .i64 4] fun k3 r2=>∃cs2,Seg 3 cs2∧∃n3,some (tuple #[agg cs2,int .i64 n3])=some r2∧
 Cl k3 165 #[int .i64 0,int .i64 4] fun k5 r4=>∃cs4,Seg 3 cs4∧∃n5,some (tuple #[agg cs4,int .i64 n5])=some r4∧
 Cl k5 165 #[int .i64 0,int .i64 4] fun k7 r6=>∃cs6,Seg 3 cs6∧∃n7,some (tuple #[agg cs6,int .i64 n7])=some r6∧
 Rt R k7 (Rg cs0 cs2 cs4 cs6)) :
  CallsG Tryz.prog 211 #[int .i64 0] k R:=
  Sy.execFn_use_heap (cfg:={ opq:=[34] }) (args:=[.one (.lit (.int .i64 (0)))]) (vals:=[]) (kinds:=[]) (blks:=[]) (heap:=[]) ox trivial ox trivial ox h
theorem aRt
 (h:Cl k 165 #[int .i64 0,int .i64 4] fun k1 r0=>∃cs0,Seg 3 cs0∧∃n1,some (tuple #[agg cs0,int .i64 n1])=some r0∧
 Cl k1 165 #[int .i64 1,int .i64 4] fun k3 r2=>∃cs2,Seg 3 cs2∧∃n3,some (tuple #[agg cs2,int .i64 n3])=some r2∧
 Cl k3 165 #[int .i64 0,int .i64 4] fun k5 r4=>∃cs4,Seg 3 cs4∧∃n5,some (tuple #[agg cs4,int .i64 n5])=some r4∧
 Cl k5 165 #[int .i64 1,int .i64 4] fun k7 r6=>∃cs6,Seg 3 cs6∧∃n7,some (tuple #[agg cs6,int .i64 n7])=some r6∧
 Rt R k7 (Rg cs0 cs2 cs4 cs6)) :
  CallsG Tryz.prog 211 #[int .i64 1] k R:=
  Sy.execFn_use_heap (cfg:={ opq:=[34] }) (args:=[.one (.lit (.int .i64 (1)))]) (vals:=[]) (kinds:=[]) (blks:=[]) (heap:=[]) ox trivial ox trivial ox h
theorem aRy
 (h:Cl k 165 #[int .i64 0,int .i64 4] fun k1 r0=>∃cs0,Seg 3 cs0∧∃n1,some (tuple #[agg cs0,int .i64 n1])=some r0∧
 Cl k1 165 #[int .i64 0,int .i64 4] fun k3 r2=>∃cs2,Seg 3 cs2∧∃n3,some (tuple #[agg cs2,int .i64 n3])=some r2∧
 Cl k3 165 #[int .i64 2,int .i64 4] fun k5 r4=>∃cs4,Seg 3 cs4∧∃n5,some (tuple #[agg cs4,int .i64 n5])=some r4∧
 Cl k5 165 #[int .i64 0,int .i64 4] fun k7 r6=>∃cs6,Seg 3 cs6∧∃n7,some (tuple #[agg cs6,int .i64 n7])=some r6∧
 Rt R k7 (Rg cs0 cs2 cs4 cs6)) :
  CallsG Tryz.prog 211 #[int .i64 2] k R:=
  Sy.execFn_use_heap (cfg:={ opq:=[34] }) (args:=[.one (.lit (.int .i64 (2)))]) (vals:=[]) (kinds:=[]) (blks:=[]) (heap:=[]) ox trivial ox trivial ox h
theorem aRz
 (h:Cl k 165 #[int .i64 0,int .i64 4] fun k1 r0=>∃cs0,Seg 3 cs0∧∃n1,some (tuple #[agg cs0,int .i64 n1])=some r0∧
 Cl k1 165 #[int .i64 2,int .i64 4] fun k3 r2=>∃cs2,Seg 3 cs2∧∃n3,some (tuple #[agg cs2,int .i64 n3])=some r2∧
 Cl k3 165 #[int .i64 0,int .i64 4] fun k5 r4=>∃cs4,Seg 3 cs4∧∃n5,some (tuple #[agg cs4,int .i64 n5])=some r4∧
 Cl k5 165 #[int .i64 0,int .i64 4] fun k7 r6=>∃cs6,Seg 3 cs6∧∃n7,some (tuple #[agg cs6,int .i64 n7])=some r6∧
 Rt R k7 (Rg cs0 cs2 cs4 cs6)) :
  CallsG Tryz.prog 211 #[int .i64 3] k R:=
  Sy.execFn_use_heap (cfg:={ opq:=[34] }) (args:=[.one (.lit (.int .i64 (3)))]) (vals:=[]) (kinds:=[]) (blks:=[]) (heap:=[]) ox trivial ox trivial ox h
theorem aSa
 (h:Cl k 165 #[int .i64 2,int .i64 4] fun k1 r0=>∃cs0,Seg 3 cs0∧∃n1,some (tuple #[agg cs0,int .i64 n1])=some r0∧
 Cl k1 165 #[int .i64 0,int .i64 4] fun k3 r2=>∃cs2,Seg 3 cs2∧∃n3,some (tuple #[agg cs2,int .i64 n3])=some r2∧
 Cl k3 165 #[int .i64 0,int .i64 4] fun k5 r4=>∃cs4,Seg 3 cs4∧∃n5,some (tuple #[agg cs4,int .i64 n5])=some r4∧
 Cl k5 165 #[int .i64 0,int .i64 4] fun k7 r6=>∃cs6,Seg 3 cs6∧∃n7,some (tuple #[agg cs6,int .i64 n7])=some r6∧
 Rt R k7 (Rg cs0 cs2 cs4 cs6)) :
  CallsG Tryz.prog 211 #[int .i64 4] k R:=
  Sy.execFn_use_heap (cfg:={ opq:=[34] }) (args:=[.one (.lit (.int .i64 (4)))]) (vals:=[]) (kinds:=[]) (blks:=[]) (heap:=[]) ox trivial ox trivial ox h
theorem aSb
 (h:Cl k 165 #[int .i64 0,int .i64 4] fun k1 r0=>∃cs0,Seg 3 cs0∧∃n1,some (tuple #[agg cs0,int .i64 n1])=some r0∧
 Cl k1 165 #[int .i64 (-1),int .i64 4] fun k3 r2=>∃cs2,Seg 3 cs2∧∃n3,some (tuple #[agg cs2,int .i64 n3])=some r2∧
 Cl k3 165 #[int .i64 0,int .i64 4] fun k5 r4=>∃cs4,Seg 3 cs4∧∃n5,some (tuple #[agg cs4,int .i64 n5])=some r4∧
 Cl k5 165 #[int .i64 1,int .i64 4] fun k7 r6=>∃cs6,Seg 3 cs6∧∃n7,some (tuple #[agg cs6,int .i64 n7])=some r6∧
 Rt R k7 (Rg cs0 cs2 cs4 cs6)) :
  CallsG Tryz.prog 211 #[int .i64 5] k R:=
  Sy.execFn_use_heap (cfg:={ opq:=[34] }) (args:=[.one (.lit (.int .i64 (5)))]) (vals:=[]) (kinds:=[]) (blks:=[]) (heap:=[]) ox trivial ox trivial ox h
theorem aSc
 (h:Cl k 165 #[int .i64 0,int .i64 4] fun k1 r0=>∃cs0,Seg 3 cs0∧∃n1,some (tuple #[agg cs0,int .i64 n1])=some r0∧
 Cl k1 165 #[int .i64 0,int .i64 4] fun k3 r2=>∃cs2,Seg 3 cs2∧∃n3,some (tuple #[agg cs2,int .i64 n3])=some r2∧
 Cl k3 165 #[int .i64 0,int .i64 4] fun k5 r4=>∃cs4,Seg 3 cs4∧∃n5,some (tuple #[agg cs4,int .i64 n5])=some r4∧
 Cl k5 165 #[int .i64 0,int .i64 4] fun k7 r6=>∃cs6,Seg 3 cs6∧∃n7,some (tuple #[agg cs6,int .i64 n7])=some r6∧
 Rt R k7 (Rg cs0 cs2 cs4 cs6)) :
  CallsG Tryz.prog 211 #[int .i64 6] k R:=
  Sy.execFn_use_heap (cfg:={ opq:=[34] }) (args:=[.one (.lit (.int .i64 (6)))]) (vals:=[]) (kinds:=[]) (blks:=[]) (heap:=[]) ox trivial ox trivial ox h
theorem aSd
 (h:Cl k 211 #[int .i64 5] fun k1 r0=>∃cs0,Seg 3 cs0∧∃cs1,Seg 3 cs1∧∃cs2,Seg 3 cs2∧∃cs3,Seg 3 cs3∧some (Rg cs0 cs1 cs2 cs3)=some r0∧
 Cl k1 113 #[Rg cs0 cs1 cs2 cs3] fun k3 r2=>∃cs4,Seg 3 cs4∧∃cs5,Seg 3 cs5∧∃cs6,Seg 3 cs6∧∃cs7,Seg 3 cs7∧some (Rg cs4 cs5 cs6 cs7)=some r2∧
 Rt R k3 (Rg cs4 cs5 cs6 cs7)) :
  CallsG Tryz.prog 211 #[int .i64 7] k R:=
  Sy.execFn_use_heap (cfg:={ opq:=[34] }) (args:=[.one (.lit (.int .i64 (7)))]) (vals:=[]) (kinds:=[]) (blks:=[]) (heap:=[]) ox trivial ox trivial ox h
theorem aSe
 (h:Cl k 211 #[int .i64 4] fun k1 r0=>∃cs0,Seg 3 cs0∧∃cs1,Seg 3 cs1∧∃cs2,Seg 3 cs2∧∃cs3,Seg 3 cs3∧some (Rg cs0 cs1 cs2 cs3)=some r0∧
 Cl k1 113 #[Rg cs0 cs1 cs2 cs3] fun k3 r2=>∃cs4,Seg 3 cs4∧∃cs5,Seg 3 cs5∧∃cs6,Seg 3 cs6∧∃cs7,Seg 3 cs7∧some (Rg cs4 cs5 cs6 cs7)=some r2∧
 Rt R k3 (Rg cs4 cs5 cs6 cs7)) :
  CallsG Tryz.prog 211 #[int .i64 8] k R:=
  Sy.execFn_use_heap (cfg:={ opq:=[34] }) (args:=[.one (.lit (.int .i64 (8)))]) (vals:=[]) (kinds:=[]) (blks:=[]) (heap:=[]) ox trivial ox trivial ox h
theorem aSf
 (h:Cl k 211 #[int .i64 3] fun k1 r0=>∃cs0,Seg 3 cs0∧∃cs1,Seg 3 cs1∧∃cs2,Seg 3 cs2∧∃cs3,Seg 3 cs3∧some (Rg cs0 cs1 cs2 cs3)=some r0∧
 Cl k1 113 #[Rg cs0 cs1 cs2 cs3] fun k3 r2=>∃cs4,Seg 3 cs4∧∃cs5,Seg 3 cs5∧∃cs6,Seg 3 cs6∧∃cs7,Seg 3 cs7∧some (Rg cs4 cs5 cs6 cs7)=some r2∧
 Rt R k3 (Rg cs4 cs5 cs6 cs7)) :
  CallsG Tryz.prog 211 #[int .i64 9] k R:=
  Sy.execFn_use_heap (cfg:={ opq:=[34] }) (args:=[.one (.lit (.int .i64 (9)))]) (vals:=[]) (kinds:=[]) (blks:=[]) (heap:=[]) ox trivial ox trivial ox h
theorem aLj
 (h:Cl k 211 #[int .i64 2] fun k1 r0=>∃cs0,Seg 3 cs0∧∃cs1,Seg 3 cs1∧∃cs2,Seg 3 cs2∧∃cs3,Seg 3 cs3∧some (Rg cs0 cs1 cs2 cs3)=some r0∧
 Cl k1 113 #[Rg cs0 cs1 cs2 cs3] fun k3 r2=>∃cs4,Seg 3 cs4∧∃cs5,Seg 3 cs5∧∃cs6,Seg 3 cs6∧∃cs7,Seg 3 cs7∧some (Rg cs4 cs5 cs6 cs7)=some r2∧
 Rt R k3 (Rg cs4 cs5 cs6 cs7)) :
  CallsG Tryz.prog 211 #[int .i64 10] k R:=
  Sy.execFn_use_heap (cfg:={ opq:=[34] }) (args:=[.one (.lit (.int .i64 (10)))]) (vals:=[]) (kinds:=[]) (blks:=[]) (heap:=[]) ox trivial ox trivial ox h
theorem aLk
 (h:Cl k 211 #[int .i64 1] fun k1 r0=>∃cs0,Seg 3 cs0∧∃cs1,Seg 3 cs1∧∃cs2,Seg 3 cs2∧∃cs3,Seg 3 cs3∧some (Rg cs0 cs1 cs2 cs3)=some r0∧
 Cl k1 113 #[Rg cs0 cs1 cs2 cs3] fun k3 r2=>∃cs4,Seg 3 cs4∧∃cs5,Seg 3 cs5∧∃cs6,Seg 3 cs6∧∃cs7,Seg 3 cs7∧some (Rg cs4 cs5 cs6 cs7)=some r2∧
 Rt R k3 (Rg cs4 cs5 cs6 cs7)) :
  CallsG Tryz.prog 211 #[int .i64 11] k R:=
  Sy.execFn_use_heap (cfg:={ opq:=[34] }) (args:=[.one (.lit (.int .i64 (11)))]) (vals:=[]) (kinds:=[]) (blks:=[]) (heap:=[]) ox trivial ox trivial ox h
theorem aLl
 (h:Cl k 211 #[int .i64 0] fun k1 r0=>∃cs0,Seg 3 cs0∧∃cs1,Seg 3 cs1∧∃cs2,Seg 3 cs2∧∃cs3,Seg 3 cs3∧some (Rg cs0 cs1 cs2 cs3)=some r0∧
 Cl k1 113 #[Rg cs0 cs1 cs2 cs3] fun k3 r2=>∃cs4,Seg 3 cs4∧∃cs5,Seg 3 cs5∧∃cs6,Seg 3 cs6∧∃cs7,Seg 3 cs7∧some (Rg cs4 cs5 cs6 cs7)=some r2∧
 Rt R k3 (Rg cs4 cs5 cs6 cs7)) :
  CallsG Tryz.prog 211 #[int .i64 12] k R:=
  Sy.execFn_use_heap (cfg:={ opq:=[34] }) (args:=[.one (.lit (.int .i64 (12)))]) (vals:=[]) (kinds:=[]) (blks:=[]) (heap:=[]) ox trivial ox trivial ox h
theorem aLm
 (h:Cl k 211 #[int .i64 1] fun k1 r0=>∃cs0,Seg 3 cs0∧∃cs1,Seg 3 cs1∧∃cs2,Seg 3 cs2∧∃cs3,Seg 3 cs3∧some (Rg cs0 cs1 cs2 cs3)=some r0∧
 Cl k1 113 #[Rg cs0 cs1 cs2 cs3] fun k3 r2=>∃cs4,Seg 3 cs4∧∃cs5,Seg 3 cs5∧∃cs6,Seg 3 cs6∧∃cs7,Seg 3 cs7∧some (Rg cs4 cs5 cs6 cs7)=some r2∧
 Rt R k3 (Rg cs4 cs5 cs6 cs7)) :
  CallsG Tryz.prog 211 #[int .i64 13] k R:=
  Sy.execFn_use_heap (cfg:={ opq:=[34] }) (args:=[.one (.lit (.int .i64 (13)))]) (vals:=[]) (kinds:=[]) (blks:=[]) (heap:=[]) ox trivial ox trivial ox h
theorem aLn
 (h:Cl k 211 #[int .i64 2] fun k1 r0=>∃cs0,Seg 3 cs0∧∃cs1,Seg 3 cs1∧∃cs2,Seg 3 cs2∧∃cs3,Seg 3 cs3∧some (Rg cs0 cs1 cs2 cs3)=some r0∧
 Cl k1 113 #[Rg cs0 cs1 cs2 cs3] fun k3 r2=>∃cs4,Seg 3 cs4∧∃cs5,Seg 3 cs5∧∃cs6,Seg 3 cs6∧∃cs7,Seg 3 cs7∧some (Rg cs4 cs5 cs6 cs7)=some r2∧
 Rt R k3 (Rg cs4 cs5 cs6 cs7)) :
  CallsG Tryz.prog 211 #[int .i64 14] k R:=
  Sy.execFn_use_heap (cfg:={ opq:=[34] }) (args:=[.one (.lit (.int .i64 (14)))]) (vals:=[]) (kinds:=[]) (blks:=[]) (heap:=[]) ox trivial ox trivial ox h
theorem aLo
 (h:Cl k 211 #[int .i64 3] fun k1 r0=>∃cs0,Seg 3 cs0∧∃cs1,Seg 3 cs1∧∃cs2,Seg 3 cs2∧∃cs3,Seg 3 cs3∧some (Rg cs0 cs1 cs2 cs3)=some r0∧
 Cl k1 113 #[Rg cs0 cs1 cs2 cs3] fun k3 r2=>∃cs4,Seg 3 cs4∧∃cs5,Seg 3 cs5∧∃cs6,Seg 3 cs6∧∃cs7,Seg 3 cs7∧some (Rg cs4 cs5 cs6 cs7)=some r2∧
 Rt R k3 (Rg cs4 cs5 cs6 cs7)) :
  CallsG Tryz.prog 211 #[int .i64 15] k R:=
  Sy.execFn_use_heap (cfg:={ opq:=[34] }) (args:=[.one (.lit (.int .i64 (15)))]) (vals:=[]) (kinds:=[]) (blks:=[]) (heap:=[]) ox trivial ox trivial ox h
theorem aLp
 (h:Cl k 211 #[int .i64 4] fun k1 r0=>∃cs0,Seg 3 cs0∧∃cs1,Seg 3 cs1∧∃cs2,Seg 3 cs2∧∃cs3,Seg 3 cs3∧some (Rg cs0 cs1 cs2 cs3)=some r0∧
 Cl k1 113 #[Rg cs0 cs1 cs2 cs3] fun k3 r2=>∃cs4,Seg 3 cs4∧∃cs5,Seg 3 cs5∧∃cs6,Seg 3 cs6∧∃cs7,Seg 3 cs7∧some (Rg cs4 cs5 cs6 cs7)=some r2∧
 Rt R k3 (Rg cs4 cs5 cs6 cs7)) :
  CallsG Tryz.prog 211 #[int .i64 16] k R:=
  Sy.execFn_use_heap (cfg:={ opq:=[34] }) (args:=[.one (.lit (.int .i64 (16)))]) (vals:=[]) (kinds:=[]) (blks:=[]) (heap:=[]) ox trivial ox trivial ox h
theorem aLq
 (h:Cl k 211 #[int .i64 5] fun k1 r0=>∃cs0,Seg 3 cs0∧∃cs1,Seg 3 cs1∧∃cs2,Seg 3 cs2∧∃cs3,Seg 3 cs3∧some (Rg cs0 cs1 cs2 cs3)=some r0∧
 Cl k1 113 #[Rg cs0 cs1 cs2 cs3] fun k3 r2=>∃cs4,Seg 3 cs4∧∃cs5,Seg 3 cs5∧∃cs6,Seg 3 cs6∧∃cs7,Seg 3 cs7∧some (Rg cs4 cs5 cs6 cs7)=some r2∧
 Rt R k3 (Rg cs4 cs5 cs6 cs7)) :
  CallsG Tryz.prog 211 #[int .i64 17] k R:=
  Sy.execFn_use_heap (cfg:={ opq:=[34] }) (args:=[.one (.lit (.int .i64 (17)))]) (vals:=[]) (kinds:=[]) (blks:=[]) (heap:=[]) ox trivial ox trivial ox h
theorem aLr
 (h:Cl k 165 #[int .i64 0,int .i64 4] fun k1 r0=>∃cs0,Seg 3 cs0∧∃n1,some (tuple #[agg cs0,int .i64 n1])=some r0∧
 Cl k1 165 #[int .i64 0,int .i64 4] fun k3 r2=>∃cs2,Seg 3 cs2∧∃n3,some (tuple #[agg cs2,int .i64 n3])=some r2∧
 Cl k3 165 #[int .i64 0,int .i64 4] fun k5 r4=>∃cs4,Seg 3 cs4∧∃n5,some (tuple #[agg cs4,int .i64 n5])=some r4∧
 Cl k5 165 #[int .i64 0,int .i64 4] fun k7 r6=>∃cs6,Seg 3 cs6∧∃n7,some (tuple #[agg cs6,int .i64 n7])=some r6∧
 Rt R k7 (Rg cs0 cs2 cs4 cs6)) :
  CallsG Tryz.prog 211 #[int .i64 18] k R:=
  Sy.execFn_use_heap (cfg:={ opq:=[34] }) (args:=[.one (.lit (.int .i64 (18)))]) (vals:=[]) (kinds:=[]) (blks:=[]) (heap:=[]) ox trivial ox trivial ox h
theorem aLs
 (h:Cl k 165 #[int .i64 0,int .i64 4] fun k1 r0=>∃cs0,Seg 3 cs0∧∃n1,some (tuple #[agg cs0,int .i64 n1])=some r0∧
 Cl k1 165 #[int .i64 (-1),int .i64 4] fun k3 r2=>∃cs2,Seg 3 cs2∧∃n3,some (tuple #[agg cs2,int .i64 n3])=some r2∧
 Cl k3 165 #[int .i64 0,int .i64 4] fun k5 r4=>∃cs4,Seg 3 cs4∧∃n5,some (tuple #[agg cs4,int .i64 n5])=some r4∧
 Cl k5 165 #[int .i64 1,int .i64 4] fun k7 r6=>∃cs6,Seg 3 cs6∧∃n7,some (tuple #[agg cs6,int .i64 n7])=some r6∧
 Rt R k7 (Rg cs0 cs2 cs4 cs6)) :
  CallsG Tryz.prog 211 #[int .i64 19] k R:=
  Sy.execFn_use_heap (cfg:={ opq:=[34] }) (args:=[.one (.lit (.int .i64 (19)))]) (vals:=[]) (kinds:=[]) (blks:=[]) (heap:=[]) ox trivial ox trivial ox h
theorem aLt
 (h:Cl k 165 #[int .i64 2,int .i64 4] fun k1 r0=>∃cs0,Seg 3 cs0∧∃n1,some (tuple #[agg cs0,int .i64 n1])=some r0∧
 Cl k1 165 #[int .i64 0,int .i64 4] fun k3 r2=>∃cs2,Seg 3 cs2∧∃n3,some (tuple #[agg cs2,int .i64 n3])=some r2∧
 Cl k3 165 #[int .i64 0,int .i64 4] fun k5 r4=>∃cs4,Seg 3 cs4∧∃n5,some (tuple #[agg cs4,int .i64 n5])=some r4∧
 Cl k5 165 #[int .i64 0,int .i64 4] fun k7 r6=>∃cs6,Seg 3 cs6∧∃n7,some (tuple #[agg cs6,int .i64 n7])=some r6∧
 Rt R k7 (Rg cs0 cs2 cs4 cs6)) :
  CallsG Tryz.prog 211 #[int .i64 20] k R:=
  Sy.execFn_use_heap (cfg:={ opq:=[34] }) (args:=[.one (.lit (.int .i64 (20)))]) (vals:=[]) (kinds:=[]) (blks:=[]) (heap:=[]) ox trivial ox trivial ox h
theorem aLu
 (h:Cl k 165 #[int .i64 0,int .i64 4] fun k1 r0=>∃cs0,Seg 3 cs0∧∃n1,some (tuple #[agg cs0,int .i64 n1])=some r0∧
 Cl k1 165 #[int .i64 2,int .i64 4] fun k3 r2=>∃cs2,Seg 3 cs2∧∃n3,some (tuple #[agg cs2,int .i64 n3])=some r2∧
 Cl k3 165 #[int .i64 0,int .i64 4] fun k5 r4=>∃cs4,Seg 3 cs4∧∃n5,some (tuple #[agg cs4,int .i64 n5])=some r4∧
 Cl k5 165 #[int .i64 0,int .i64 4] fun k7 r6=>∃cs6,Seg 3 cs6∧∃n7,some (tuple #[agg cs6,int .i64 n7])=some r6∧
 Rt R k7 (Rg cs0 cs2 cs4 cs6)) :
  CallsG Tryz.prog 211 #[int .i64 21] k R:=
  Sy.execFn_use_heap (cfg:={ opq:=[34] }) (args:=[.one (.lit (.int .i64 (21)))]) (vals:=[]) (kinds:=[]) (blks:=[]) (heap:=[]) ox trivial ox trivial ox h
theorem aLv
 (h:Cl k 165 #[int .i64 0,int .i64 4] fun k1 r0=>∃cs0,Seg 3 cs0∧∃n1,some (tuple #[agg cs0,int .i64 n1])=some r0∧
 Cl k1 165 #[int .i64 0,int .i64 4] fun k3 r2=>∃cs2,Seg 3 cs2∧∃n3,some (tuple #[agg cs2,int .i64 n3])=some r2∧
 Cl k3 165 #[int .i64 2,int .i64 4] fun k5 r4=>∃cs4,Seg 3 cs4∧∃n5,some (tuple #[agg cs4,int .i64 n5])=some r4∧
 Cl k5 165 #[int .i64 0,int .i64 4] fun k7 r6=>∃cs6,Seg 3 cs6∧∃n7,some (tuple #[agg cs6,int .i64 n7])=some r6∧
 Rt R k7 (Rg cs0 cs2 cs4 cs6)) :
  CallsG Tryz.prog 211 #[int .i64 22] k R:=
  Sy.execFn_use_heap (cfg:={ opq:=[34] }) (args:=[.one (.lit (.int .i64 (22)))]) (vals:=[]) (kinds:=[]) (blks:=[]) (heap:=[]) ox trivial ox trivial ox h
theorem aLw
 (h:Cl k 165 #[int .i64 0,int .i64 4] fun k1 r0=>∃cs0,Seg 3 cs0∧∃n1,some (tuple #[agg cs0,int .i64 n1])=some r0∧
 Cl k1 165 #[int .i64 1,int .i64 4] fun k3 r2=>∃cs2,Seg 3 cs2∧∃n3,some (tuple #[agg cs2,int .i64 n3])=some r2∧
 Cl k3 165 #[int .i64 0,int .i64 4] fun k5 r4=>∃cs4,Seg 3 cs4∧∃n5,some (tuple #[agg cs4,int .i64 n5])=some r4∧
 Cl k5 165 #[int .i64 1,int .i64 4] fun k7 r6=>∃cs6,Seg 3 cs6∧∃n7,some (tuple #[agg cs6,int .i64 n7])=some r6∧
 Rt R k7 (Rg cs0 cs2 cs4 cs6)) :
  CallsG Tryz.prog 211 #[int .i64 23] k R:=
  Sy.execFn_use_heap (cfg:={ opq:=[34] }) (args:=[.one (.lit (.int .i64 (23)))]) (vals:=[]) (kinds:=[]) (blks:=[]) (heap:=[]) ox trivial ox trivial ox h
theorem aKw
 (h:Cl k 92 #[int .i64 1] fun k1 r0=>Gt 2 r0 fun cs0=>
 Cl k1 97 #[int .u64 4] fun k3 r2=>∃A1 l1 c1,some (slice A1 l1 c1)=some r2∧
 Rt R k3 (agg ((bool false) :: ((slice none 0 0) :: (cs0.toList++((bool false) :: ((slice none 0 0) :: ((bool false) :: ((slice none 0 0) :: ((slice A1 l1 c1) :: ([]))))))))).toArray)) :
  CallsG Tryz.prog 253 #[int .i64 1,int .u64 4] k R:=
  Sy.execFn_use_heap (cfg:={ opq:=[29] }) (args:=[.one (.lit (.int .i64 (1))),.one (.lit (.int .u64 (4)))]) (vals:=[]) (kinds:=[]) (blks:=[]) (heap:=[]) ox trivial ox trivial ox h
theorem aKy
 (h:Cl k 92 #[int .i64 1] fun k1 r0=>Gt 2 r0 fun cs0=>
 Cl k1 97 #[int .u64 4] fun k3 r2=>∃A1 l1 c1,some (slice A1 l1 c1)=some r2∧
 Rt R k3 (agg ((bool false) :: ((slice none 0 0) :: ((bool false) :: ((slice none 0 0) :: ((bool false) :: ((slice none 0 0) :: (cs0.toList++((slice A1 l1 c1) :: ([]))))))))).toArray)) :
  CallsG Tryz.prog 253 #[int .i64 3,int .u64 4] k R:=
  Sy.execFn_use_heap (cfg:={ opq:=[29] }) (args:=[.one (.lit (.int .i64 (3))),.one (.lit (.int .u64 (4)))]) (vals:=[]) (kinds:=[]) (blks:=[]) (heap:=[]) ox trivial ox trivial ox h
theorem aKx
 (h:Cl k 92 #[int .i64 1] fun k1 r0=>Gt 2 r0 fun cs0=>
 Cl k1 97 #[int .u64 2] fun k3 r2=>∃A1 l1 c1,some (slice A1 l1 c1)=some r2∧
 Rt R k3 (agg ((bool false) :: ((slice none 0 0) :: ((bool false) :: ((slice none 0 0) :: (cs0.toList++((bool false) :: ((slice none 0 0) :: ((slice A1 l1 c1) :: ([]))))))))).toArray)) :
  CallsG Tryz.prog 253 #[int .i64 2,int .u64 2] k R:=
  Sy.execFn_use_heap (cfg:={ opq:=[29] }) (args:=[.one (.lit (.int .i64 (2))),.one (.lit (.int .u64 (2)))]) (vals:=[]) (kinds:=[]) (blks:=[]) (heap:=[]) ox trivial ox trivial ox h
theorem aKv
 (h:Cl k 92 #[int .i64 1] fun k1 r0=>Gt 2 r0 fun cs0=>
 Cl k1 97 #[int .u64 2] fun k3 r2=>∃A1 l1 c1,some (slice A1 l1 c1)=some r2∧
 Rt R k3 (agg ((bool false) :: ((slice none 0 0) :: (cs0.toList++((bool false) :: ((slice none 0 0) :: ((bool false) :: ((slice none 0 0) :: ((slice A1 l1 c1) :: ([]))))))))).toArray)) :
  CallsG Tryz.prog 253 #[int .i64 1,int .u64 2] k R:=
  Sy.execFn_use_heap (cfg:={ opq:=[29] }) (args:=[.one (.lit (.int .i64 (1))),.one (.lit (.int .u64 (2)))]) (vals:=[]) (kinds:=[]) (blks:=[]) (heap:=[]) ox trivial ox trivial ox h
theorem aKu
 (h:Cl k 92 #[int .i64 1] fun k1 r0=>Gt 2 r0 fun cs0=>
 Cl k1 97 #[int .u64 2] fun k3 r2=>∃A1 l1 c1,some (slice A1 l1 c1)=some r2∧
 Rt R k3 (agg (cs0.toList++((bool false) :: ((slice none 0 0) :: ((bool false) :: ((slice none 0 0) :: ((bool false) :: ((slice none 0 0) :: ((slice A1 l1 c1) :: ([]))))))))).toArray)) :
  CallsG Tryz.prog 253 #[int .i64 0,int .u64 2] k R:=
  Sy.execFn_use_heap (cfg:={ opq:=[29] }) (args:=[.one (.lit (.int .i64 (0))),.one (.lit (.int .u64 (2)))]) (vals:=[]) (kinds:=[]) (blks:=[]) (heap:=[]) ox trivial ox trivial ox h
end Go.Proofs.YtjgnlflbgmnfaaaGreat

namespace Go.Proofs.YtjgnlflbgmnfaaaGreat
open IntKind (wrap)
open Go.RowKit Num
open Sy (Up Sees CallsG Seg)
section
variable {k k':World}{cs cs' c0 c1:Array Value}{R:World→Value→Prop}{v v':Q4}{x y:W4}{K L:Nat}
theorem IntV.cut {z:Int}(h:IntV k cs z K) (hz:z.natAbs≤1000):IntV k cs z 1:=by
 obtain⟨b,A,n,c,e,h1,h2⟩:=h;refine⟨b,A,n,c,e,h1,?_⟩;rw [h1.lim.len];exact aI (by unfold B64;omega)
theorem kT {z:Int}{m:Nat}(hm:0<m) (h:q4s (mkRat z m)=true):m ∣ 4*z.natAbs∧4*z.natAbs≤1000*m:=by
 unfold q4s at h;rw [jx,beq_iff_eq,decide_eq_true_iff]at h;have e:(4:Rat)*mkRat z m=mkRat (z*(4:Nat)) m:=by rw [qR z 4 hm];rfl
 rw [e,iJ _ hm,fS _ hm]at h;obtain⟨h1,h2⟩:=h;have hz:(z*((4:Nat):Int)).natAbs=4*z.natAbs:=by rw [Int.natAbs_mul,xv,qj]
 rw [hz]at h1 h2;generalize hg:Nat.gcd (4*z.natAbs) m=g at h1 h2;have d1:g ∣ m:=hg▸ww _ _;have d2:g ∣ 4*z.natAbs:=hg▸ke _ _;have em:m=g:=by have:=Nat.div_mul_cancel d1;rw [h1,jv]at this;exact this.symm
 have hle:=oc g h2;rw [Nat.div_mul_cancel d2]at hle;rw [em];exact⟨d2,hle⟩
theorem SurdV.cut (h:SurdV k cs v K) (hs:v.small=true):SurdV k cs v 1:=by
 obtain⟨c0,c1,c2,c3,D,d,e,y0,y1,y2,y3,m,h1,hm,hg,rfl,i0,i1,i2,i3,l,hd⟩:=h;unfold Q4.small mkQ at hs;rw [jx,jx,jx]at hs;obtain⟨⟨⟨s0,s1⟩,s2⟩,s3⟩:=hs;obtain⟨d0,b0⟩:=kT hm s0;obtain⟨d1,b1⟩:=kT hm s1;obtain⟨d2,b2⟩:=kT hm s2;obtain⟨d3,b3⟩:=kT hm s3;have hm4:m ∣ 4:=by
  have dm:m ∣ 4*m:=Nat.dvd_mul_left m 4;have:=Nat.dvd_gcd (Nat.dvd_gcd (Nat.dvd_gcd (Nat.dvd_gcd dm d0) d1) d2) d3;rw [Nat.gcd_mul_left,Nat.gcd_mul_left,Nat.gcd_mul_left,Nat.gcd_mul_left]at this;unfold gcd5 at hg;rw [hg]at this;exact this
 have hm4:=Nat.le_of_dvd oz hm4;refine⟨c0,c1,c2,c3,D,d,e,y0,y1,y2,y3,m,h1,hm,hg,rfl,i0.cut oq,i1.cut oq,i2.cut oq,i3.cut oq,l,?_⟩;rw [l.len];refine aI ?_;unfold B64;split <;> omega
theorem oU (C:∀k' ds,Up k k'→SurdV k' ds ⟨0,1/4,0,0⟩ 1→R k' (.agg ds)) :
 Cl k 253 #[.int .i64 1,.int .u64 4] R:=by
 intro k0 u0;refine aKw ?_;refine aKq oz oz fun k1 d1 u1 i1=>⟨d1,i1.seg,rfl,?_⟩;refine jN (x:=4) oz fun k2 A l c u2 l2 hl=>⟨A,l,c,rfl,fun k3 u3=>?_⟩;exact C k3 _ (((u0.trans u1).trans u2).trans u3) ⟨#[.bool false,.slice none 0 0],d1,#[.bool false,.slice none 0 0],#[.bool false,.slice none 0 0],A,l,c,0,1,0,0,4,rfl,oz,oz,by decide +kernel,IntV.nil,(i1.up u2).up u3,IntV.nil,IntV.nil,(by rw [oh oz];exact l2.up u3),hl⟩
theorem oV (C:∀k' ds,Up k k'→SurdV k' ds ⟨0,0,0,1/4⟩ 1→R k' (.agg ds)) :
 Cl k 253 #[.int .i64 3,.int .u64 4] R:=by
 intro k0 u0;refine aKy ?_;refine aKq oz oz fun k1 d1 u1 i1=>⟨d1,i1.seg,rfl,?_⟩;refine jN (x:=4) oz fun k2 A l c u2 l2 hl=>⟨A,l,c,rfl,fun k3 u3=>?_⟩;exact C k3 _ (((u0.trans u1).trans u2).trans u3) ⟨#[.bool false,.slice none 0 0],#[.bool false,.slice none 0 0],#[.bool false,.slice none 0 0],d1,A,l,c,0,0,0,1,4,rfl,oz,oz,by decide +kernel,IntV.nil,IntV.nil,IntV.nil,(i1.up u2).up u3,(by rw [oh oz];exact l2.up u3),hl⟩
theorem aCg (C:∀k' ds,Up k k'→SurdV k' ds ⟨0,0,1/2,0⟩ 1→R k' (.agg ds)) :
 Cl k 253 #[.int .i64 2,.int .u64 2] R:=by
 intro k0 u0;refine aKx ?_;refine aKq oz oz fun k1 d1 u1 i1=>⟨d1,i1.seg,rfl,?_⟩;refine jN (x:=2) oz fun k2 A l c u2 l2 hl=>⟨A,l,c,rfl,fun k3 u3=>?_⟩;exact C k3 _ (((u0.trans u1).trans u2).trans u3) ⟨#[.bool false,.slice none 0 0],#[.bool false,.slice none 0 0],d1,#[.bool false,.slice none 0 0],A,l,c,0,0,1,0,2,rfl,oz,oz,by decide +kernel,IntV.nil,IntV.nil,(i1.up u2).up u3,IntV.nil,(by rw [oh oz];exact l2.up u3),hl⟩
theorem aCf (C:∀k' ds,Up k k'→SurdV k' ds ⟨0,1/2,0,0⟩ 1→R k' (.agg ds)) :
 Cl k 253 #[.int .i64 1,.int .u64 2] R:=by
 intro k0 u0;refine aKv ?_;refine aKq oz oz fun k1 d1 u1 i1=>⟨d1,i1.seg,rfl,?_⟩;refine jN (x:=2) oz fun k2 A l c u2 l2 hl=>⟨A,l,c,rfl,fun k3 u3=>?_⟩;exact C k3 _ (((u0.trans u1).trans u2).trans u3) ⟨#[.bool false,.slice none 0 0],d1,#[.bool false,.slice none 0 0],#[.bool false,.slice none 0 0],A,l,c,0,1,0,0,2,rfl,oz,oz,by decide +kernel,IntV.nil,(i1.up u2).up u3,IntV.nil,IntV.nil,(by rw [oh oz];exact l2.up u3),hl⟩
theorem aCe (C:∀k' ds,Up k k'→SurdV k' ds ⟨1/2,0,0,0⟩ 1→R k' (.agg ds)) :
 Cl k 253 #[.int .i64 0,.int .u64 2] R:=by
 intro k0 u0;refine aKu ?_;refine aKq oz oz fun k1 d1 u1 i1=>⟨d1,i1.seg,rfl,?_⟩;refine jN (x:=2) oz fun k2 A l c u2 l2 hl=>⟨A,l,c,rfl,fun k3 u3=>?_⟩;exact C k3 _ (((u0.trans u1).trans u2).trans u3) ⟨d1,#[.bool false,.slice none 0 0],#[.bool false,.slice none 0 0],#[.bool false,.slice none 0 0],A,l,c,1,0,0,0,2,rfl,oz,oz,by decide +kernel,(i1.up u2).up u3,IntV.nil,IntV.nil,IntV.nil,(by rw [oh oz];exact l2.up u3),hl⟩
theorem cast4 (h:SurdV k cs v K) (e:v=v'):SurdV k cs v' K:=e▸h
theorem aIp (C:∀k' ds,Up k k'→SurdV k' ds (bZ 0) 1→R k' (.agg ds)) :
 Cl k 210 #[.int .i64 0] R:=by
 intro k0 u0;refine bJ ⟨fun h=>absurd h (by decide +kernel),fun _=>⟨fun h=>absurd h (by decide +kernel),fun _=>⟨fun _=>?_,fun h=>absurd h (by decide +kernel)⟩⟩⟩;refine aKq oz oz fun k1 d1 u1 i1=>⟨d1,i1.seg,rfl,fun k2 u2=>?_⟩;exact C k2 _ ((u0.trans u1).trans u2) ⟨d1,#[.bool false,.slice none 0 0],#[.bool false,.slice none 0 0],#[.bool false,.slice none 0 0],none,0,0,1,0,0,0,1,rfl,oz,oz,by decide +kernel,i1.up u2,IntV.nil,IntV.nil,IntV.nil,(by rw [od rfl];exact LimR.nil),zx _⟩
theorem aAa (C:∀k' ds,Up k k'→SurdV k' ds (bZ 1) 1→R k' (.agg ds)) :
 Cl k 210 #[.int .i64 1] R:=by
 intro k0 u0;refine bJ ⟨fun h=>absurd h (by decide +kernel),fun _=>⟨fun h=>absurd h (by decide +kernel),fun _=>⟨fun h=>absurd h (by decide +kernel),fun _=>⟨fun _=>?_,fun h=>absurd h (by decide +kernel)⟩⟩⟩⟩;refine oU fun k1 d1 u1 h1=>⟨d1,h1.seg,rfl,?_⟩;refine oV fun k2 d2 u2 h2=>⟨d2,h2.seg,rfl,?_⟩;refine xN (h1.up u2) h2 oz oz fun k3 d3 u3 h3=>⟨d3,h3.seg,rfl,fun k4 u4=>?_⟩;refine C k4 d3 ((((u0.trans u1).trans u2).trans u3).trans u4) (SurdV.cut (K:=2*1+1) (cast4 (h3.up u4) (by decide +kernel)) (by decide +kernel))
theorem aAb (C:∀k' ds,Up k k'→SurdV k' ds (bZ 2) 1→R k' (.agg ds)) :
 Cl k 210 #[.int .i64 2] R:=by
 intro k0 u0;refine bJ ⟨fun h=>absurd h (by decide +kernel),fun _=>⟨fun h=>absurd h (by decide +kernel),fun _=>⟨fun h=>absurd h (by decide +kernel),fun _=>⟨fun h=>absurd h (by decide +kernel),fun _=>⟨fun _=>?_,fun h=>absurd h (by decide +kernel)⟩⟩⟩⟩⟩;exact aCg fun k1 d1 u1 h1=>⟨d1,h1.seg,rfl,fun k2 u2=>C k2 d1 ((u0.trans u1).trans u2) (h1.up u2)⟩
theorem aAc (C:∀k' ds,Up k k'→SurdV k' ds (bZ 3) 1→R k' (.agg ds)) :
 Cl k 210 #[.int .i64 3] R:=by
 intro k0 u0;refine bJ ⟨fun h=>absurd h (by decide +kernel),fun _=>⟨fun h=>absurd h (by decide +kernel),fun _=>⟨fun h=>absurd h (by decide +kernel),fun _=>⟨fun h=>absurd h (by decide +kernel),fun _=>⟨fun h=>absurd h (by decide +kernel),fun _=>⟨fun _=>?_,fun h=>absurd h (by decide +kernel)⟩⟩⟩⟩⟩⟩;exact aCf fun k1 d1 u1 h1=>⟨d1,h1.seg,rfl,fun k2 u2=>C k2 d1 ((u0.trans u1).trans u2) (h1.up u2)⟩
theorem aAd (C:∀k' ds,Up k k'→SurdV k' ds (bZ 4) 1→R k' (.agg ds)) :
 Cl k 210 #[.int .i64 4] R:=by
 intro k0 u0;refine bJ ⟨fun h=>absurd h (by decide +kernel),fun _=>⟨fun h=>absurd h (by decide +kernel),fun _=>⟨fun h=>absurd h (by decide +kernel),fun _=>⟨fun h=>absurd h (by decide +kernel),fun _=>⟨fun h=>absurd h (by decide +kernel),fun _=>⟨fun h=>absurd h (by decide +kernel),fun _=>⟨fun _=>?_,fun h=>absurd h (by decide +kernel)⟩⟩⟩⟩⟩⟩⟩;exact aCe fun k1 d1 u1 h1=>⟨d1,h1.seg,rfl,fun k2 u2=>C k2 d1 ((u0.trans u1).trans u2) (h1.up u2)⟩
theorem aAe (C:∀k' ds,Up k k'→SurdV k' ds (bZ 5) 1→R k' (.agg ds)) :
 Cl k 210 #[.int .i64 5] R:=by
 intro k0 u0;refine bJ ⟨fun h=>absurd h (by decide +kernel),fun _=>⟨fun h=>absurd h (by decide +kernel),fun _=>⟨fun h=>absurd h (by decide +kernel),fun _=>⟨fun h=>absurd h (by decide +kernel),fun _=>⟨fun h=>absurd h (by decide +kernel),fun _=>⟨fun h=>absurd h (by decide +kernel),fun _=>⟨fun h=>absurd h (by decide +kernel),fun _=>⟨fun _=>?_,fun h=>absurd h (by decide +kernel)⟩⟩⟩⟩⟩⟩⟩⟩;refine oV fun k1 d1 u1 h1=>⟨d1,h1.seg,rfl,?_⟩;refine oU fun k2 d2 u2 h2=>⟨d2,h2.seg,rfl,?_⟩;refine xP (h1.up u2) h2 oz oz fun k3 d3 u3 h3=>⟨d3,h3.seg,rfl,fun k4 u4=>?_⟩;refine C k4 d3 ((((u0.trans u1).trans u2).trans u3).trans u4) (SurdV.cut (K:=2*1+1) (cast4 (h3.up u4) (by decide +kernel)) (by decide +kernel))
theorem bAc (C:∀k' ds,Up k k'→SurdV k' ds (bZ 6) 1→R k' (.agg ds)) :
 Cl k 210 #[.int .i64 6] R:=by
 intro k0 u0;refine bJ ⟨fun h=>absurd h (by decide +kernel),fun _=>⟨fun h=>absurd h (by decide +kernel),fun _=>⟨fun h=>absurd h (by decide +kernel),fun _=>⟨fun h=>absurd h (by decide +kernel),fun _=>⟨fun h=>absurd h (by decide +kernel),fun _=>⟨fun h=>absurd h (by decide +kernel),fun _=>⟨fun h=>absurd h (by decide +kernel),fun _=>⟨fun h=>absurd h (by decide +kernel),fun _=>?_⟩⟩⟩⟩⟩⟩⟩⟩;intro k1 u1;exact C k1 _ (u0.trans u1) (SurdV.nil (zx _))
theorem bAd (C:∀k' ds,Up k k'→SurdV k' ds (bZ 7) 1→R k' (.agg ds)) :
 Cl k 210 #[.int .i64 7] R:=by
 intro k0 u0;refine bJ ⟨fun h=>absurd h (by decide +kernel),fun _=>⟨fun _=>?_,fun h=>absurd h (by decide +kernel)⟩⟩;rw [show wrap .i64 (12-7)=(5:Int) from by decide +kernel];refine aAe fun k1 d1 u1 h1=>⟨d1,h1.seg,rfl,?_⟩;refine gJ h1 oz fun k3 d3 u3 h3=>⟨d3,h3.seg,rfl,fun k4 u4=>?_⟩;exact C k4 d3 (((u0.trans u1).trans u3).trans u4) (h3.up u4)
theorem bAe (C:∀k' ds,Up k k'→SurdV k' ds (bZ 8) 1→R k' (.agg ds)) :
 Cl k 210 #[.int .i64 8] R:=by
 intro k0 u0;refine bJ ⟨fun h=>absurd h (by decide +kernel),fun _=>⟨fun _=>?_,fun h=>absurd h (by decide +kernel)⟩⟩;rw [show wrap .i64 (12-8)=(4:Int) from by decide +kernel];refine aAd fun k1 d1 u1 h1=>⟨d1,h1.seg,rfl,?_⟩;refine gJ h1 oz fun k3 d3 u3 h3=>⟨d3,h3.seg,rfl,fun k4 u4=>?_⟩;exact C k4 d3 (((u0.trans u1).trans u3).trans u4) (h3.up u4)
theorem bAf (C:∀k' ds,Up k k'→SurdV k' ds (bZ 9) 1→R k' (.agg ds)) :
 Cl k 210 #[.int .i64 9] R:=by
 intro k0 u0;refine bJ ⟨fun h=>absurd h (by decide +kernel),fun _=>⟨fun _=>?_,fun h=>absurd h (by decide +kernel)⟩⟩;rw [show wrap .i64 (12-9)=(3:Int) from by decide +kernel];refine aAc fun k1 d1 u1 h1=>⟨d1,h1.seg,rfl,?_⟩;refine gJ h1 oz fun k3 d3 u3 h3=>⟨d3,h3.seg,rfl,fun k4 u4=>?_⟩;exact C k4 d3 (((u0.trans u1).trans u3).trans u4) (h3.up u4)
theorem aUq (C:∀k' ds,Up k k'→SurdV k' ds (bZ 10) 1→R k' (.agg ds)) :
 Cl k 210 #[.int .i64 10] R:=by
 intro k0 u0;refine bJ ⟨fun h=>absurd h (by decide +kernel),fun _=>⟨fun _=>?_,fun h=>absurd h (by decide +kernel)⟩⟩;rw [show wrap .i64 (12-10)=(2:Int) from by decide +kernel];refine aAb fun k1 d1 u1 h1=>⟨d1,h1.seg,rfl,?_⟩;refine gJ h1 oz fun k3 d3 u3 h3=>⟨d3,h3.seg,rfl,fun k4 u4=>?_⟩;exact C k4 d3 (((u0.trans u1).trans u3).trans u4) (h3.up u4)
theorem aUr (C:∀k' ds,Up k k'→SurdV k' ds (bZ 11) 1→R k' (.agg ds)) :
 Cl k 210 #[.int .i64 11] R:=by
 intro k0 u0;refine bJ ⟨fun h=>absurd h (by decide +kernel),fun _=>⟨fun _=>?_,fun h=>absurd h (by decide +kernel)⟩⟩;rw [show wrap .i64 (12-11)=(1:Int) from by decide +kernel];refine aAa fun k1 d1 u1 h1=>⟨d1,h1.seg,rfl,?_⟩;refine gJ h1 oz fun k3 d3 u3 h3=>⟨d3,h3.seg,rfl,fun k4 u4=>?_⟩;exact C k4 d3 (((u0.trans u1).trans u3).trans u4) (h3.up u4)
theorem aUs (C:∀k' ds,Up k k'→SurdV k' ds (bZ 12) 1→R k' (.agg ds)) :
 Cl k 210 #[.int .i64 12] R:=by
 intro k0 u0;refine bJ ⟨fun h=>absurd h (by decide +kernel),fun _=>⟨fun _=>?_,fun h=>absurd h (by decide +kernel)⟩⟩;rw [show wrap .i64 (12-12)=(0:Int) from by decide +kernel];refine aIp fun k1 d1 u1 h1=>⟨d1,h1.seg,rfl,?_⟩;refine gJ h1 oz fun k3 d3 u3 h3=>⟨d3,h3.seg,rfl,fun k4 u4=>?_⟩;exact C k4 d3 (((u0.trans u1).trans u3).trans u4) (h3.up u4)
theorem aUt (C:∀k' ds,Up k k'→SurdV k' ds (bZ 13) 1→R k' (.agg ds)) :
 Cl k 210 #[.int .i64 13] R:=by
 intro k0 u0;refine bJ ⟨fun _=>⟨fun _=>?_,fun h=>absurd h (by decide +kernel)⟩,fun h=>absurd h (by decide +kernel)⟩;rw [show wrap .i64 (12-(wrap .i64 (24-13)))=(1:Int) from by decide +kernel];refine aAa fun k1 d1 u1 h1=>⟨d1,h1.seg,rfl,?_⟩;refine gJ h1 oz fun k3 d3 u3 h3=>⟨d3,h3.seg,rfl,fun k4 u4=>?_⟩;exact C k4 d3 (((u0.trans u1).trans u3).trans u4) (h3.up u4)
theorem aUu (C:∀k' ds,Up k k'→SurdV k' ds (bZ 14) 1→R k' (.agg ds)) :
 Cl k 210 #[.int .i64 14] R:=by
 intro k0 u0;refine bJ ⟨fun _=>⟨fun _=>?_,fun h=>absurd h (by decide +kernel)⟩,fun h=>absurd h (by decide +kernel)⟩;rw [show wrap .i64 (12-(wrap .i64 (24-14)))=(2:Int) from by decide +kernel];refine aAb fun k1 d1 u1 h1=>⟨d1,h1.seg,rfl,?_⟩;refine gJ h1 oz fun k3 d3 u3 h3=>⟨d3,h3.seg,rfl,fun k4 u4=>?_⟩;exact C k4 d3 (((u0.trans u1).trans u3).trans u4) (h3.up u4)
theorem aUv (C:∀k' ds,Up k k'→SurdV k' ds (bZ 15) 1→R k' (.agg ds)) :
 Cl k 210 #[.int .i64 15] R:=by
 intro k0 u0;refine bJ ⟨fun _=>⟨fun _=>?_,fun h=>absurd h (by decide +kernel)⟩,fun h=>absurd h (by decide +kernel)⟩;rw [show wrap .i64 (12-(wrap .i64 (24-15)))=(3:Int) from by decide +kernel];refine aAc fun k1 d1 u1 h1=>⟨d1,h1.seg,rfl,?_⟩;refine gJ h1 oz fun k3 d3 u3 h3=>⟨d3,h3.seg,rfl,fun k4 u4=>?_⟩;exact C k4 d3 (((u0.trans u1).trans u3).trans u4) (h3.up u4)
theorem aUw (C:∀k' ds,Up k k'→SurdV k' ds (bZ 16) 1→R k' (.agg ds)) :
 Cl k 210 #[.int .i64 16] R:=by
 intro k0 u0;refine bJ ⟨fun _=>⟨fun _=>?_,fun h=>absurd h (by decide +kernel)⟩,fun h=>absurd h (by decide +kernel)⟩;rw [show wrap .i64 (12-(wrap .i64 (24-16)))=(4:Int) from by decide +kernel];refine aAd fun k1 d1 u1 h1=>⟨d1,h1.seg,rfl,?_⟩;refine gJ h1 oz fun k3 d3 u3 h3=>⟨d3,h3.seg,rfl,fun k4 u4=>?_⟩;exact C k4 d3 (((u0.trans u1).trans u3).trans u4) (h3.up u4)
theorem aUx (C:∀k' ds,Up k k'→SurdV k' ds (bZ 17) 1→R k' (.agg ds)) :
 Cl k 210 #[.int .i64 17] R:=by
 intro k0 u0;refine bJ ⟨fun _=>⟨fun _=>?_,fun h=>absurd h (by decide +kernel)⟩,fun h=>absurd h (by decide +kernel)⟩;rw [show wrap .i64 (12-(wrap .i64 (24-17)))=(5:Int) from by decide +kernel];refine aAe fun k1 d1 u1 h1=>⟨d1,h1.seg,rfl,?_⟩;refine gJ h1 oz fun k3 d3 u3 h3=>⟨d3,h3.seg,rfl,fun k4 u4=>?_⟩;exact C k4 d3 (((u0.trans u1).trans u3).trans u4) (h3.up u4)
theorem aUy (C:∀k' ds,Up k k'→SurdV k' ds (bZ 18) 1→R k' (.agg ds)) :
 Cl k 210 #[.int .i64 18] R:=by
 intro k0 u0;refine bJ ⟨fun _=>⟨fun h=>absurd h (by decide +kernel),fun _=>⟨fun h=>absurd h (by decide +kernel),fun _=>⟨fun h=>absurd h (by decide +kernel),fun _=>⟨fun h=>absurd h (by decide +kernel),fun _=>⟨fun h=>absurd h (by decide +kernel),fun _=>⟨fun h=>absurd h (by decide +kernel),fun _=>⟨fun h=>absurd h (by decide +kernel),fun _=>?_⟩⟩⟩⟩⟩⟩⟩,fun h=>absurd h (by decide +kernel)⟩;intro k1 u1;exact C k1 _ (u0.trans u1) (SurdV.nil (zx _))
theorem aUz (C:∀k' ds,Up k k'→SurdV k' ds (bZ 19) 1→R k' (.agg ds)) :
 Cl k 210 #[.int .i64 19] R:=by
 intro k0 u0;refine bJ ⟨fun _=>⟨fun h=>absurd h (by decide +kernel),fun _=>⟨fun h=>absurd h (by decide +kernel),fun _=>⟨fun h=>absurd h (by decide +kernel),fun _=>⟨fun h=>absurd h (by decide +kernel),fun _=>⟨fun h=>absurd h (by decide +kernel),fun _=>⟨fun h=>absurd h (by decide +kernel),fun _=>⟨fun _=>?_,fun h=>absurd h (by decide +kernel)⟩⟩⟩⟩⟩⟩⟩,fun h=>absurd h (by decide +kernel)⟩;refine oV fun k1 d1 u1 h1=>⟨d1,h1.seg,rfl,?_⟩;refine oU fun k2 d2 u2 h2=>⟨d2,h2.seg,rfl,?_⟩;refine xP (h1.up u2) h2 oz oz fun k3 d3 u3 h3=>⟨d3,h3.seg,rfl,fun k4 u4=>?_⟩;refine C k4 d3 ((((u0.trans u1).trans u2).trans u3).trans u4) (SurdV.cut (K:=2*1+1) (cast4 (h3.up u4) (by decide +kernel)) (by decide +kernel))
theorem aVa (C:∀k' ds,Up k k'→SurdV k' ds (bZ 20) 1→R k' (.agg ds)) :
 Cl k 210 #[.int .i64 20] R:=by
 intro k0 u0;refine bJ ⟨fun _=>⟨fun h=>absurd h (by decide +kernel),fun _=>⟨fun h=>absurd h (by decide +kernel),fun _=>⟨fun h=>absurd h (by decide +kernel),fun _=>⟨fun h=>absurd h (by decide +kernel),fun _=>⟨fun h=>absurd h (by decide +kernel),fun _=>⟨fun _=>?_,fun h=>absurd h (by decide +kernel)⟩⟩⟩⟩⟩⟩,fun h=>absurd h (by decide +kernel)⟩;exact aCe fun k1 d1 u1 h1=>⟨d1,h1.seg,rfl,fun k2 u2=>C k2 d1 ((u0.trans u1).trans u2) (h1.up u2)⟩
theorem aVb (C:∀k' ds,Up k k'→SurdV k' ds (bZ 21) 1→R k' (.agg ds)) :
 Cl k 210 #[.int .i64 21] R:=by
 intro k0 u0;refine bJ ⟨fun _=>⟨fun h=>absurd h (by decide +kernel),fun _=>⟨fun h=>absurd h (by decide +kernel),fun _=>⟨fun h=>absurd h (by decide +kernel),fun _=>⟨fun h=>absurd h (by decide +kernel),fun _=>⟨fun _=>?_,fun h=>absurd h (by decide +kernel)⟩⟩⟩⟩⟩,fun h=>absurd h (by decide +kernel)⟩;exact aCf fun k1 d1 u1 h1=>⟨d1,h1.seg,rfl,fun k2 u2=>C k2 d1 ((u0.trans u1).trans u2) (h1.up u2)⟩
theorem aVc (C:∀k' ds,Up k k'→SurdV k' ds (bZ 22) 1→R k' (.agg ds)) :
 Cl k 210 #[.int .i64 22] R:=by
 intro k0 u0;refine bJ ⟨fun _=>⟨fun h=>absurd h (by decide +kernel),fun _=>⟨fun h=>absurd h (by decide +kernel),fun _=>⟨fun h=>absurd h (by decide +kernel),fun _=>⟨fun _=>?_,fun h=>absurd h (by decide +kernel)⟩⟩⟩⟩,fun h=>absurd h (by decide +kernel)⟩;exact aCg fun k1 d1 u1 h1=>⟨d1,h1.seg,rfl,fun k2 u2=>C k2 d1 ((u0.trans u1).trans u2) (h1.up u2)⟩
theorem aVd (C:∀k' ds,Up k k'→SurdV k' ds (bZ 23) 1→R k' (.agg ds)) :
 Cl k 210 #[.int .i64 23] R:=by
 intro k0 u0;refine bJ ⟨fun _=>⟨fun h=>absurd h (by decide +kernel),fun _=>⟨fun h=>absurd h (by decide +kernel),fun _=>⟨fun _=>?_,fun h=>absurd h (by decide +kernel)⟩⟩⟩,fun h=>absurd h (by decide +kernel)⟩;refine oU fun k1 d1 u1 h1=>⟨d1,h1.seg,rfl,?_⟩;refine oV fun k2 d2 u2 h2=>⟨d2,h2.seg,rfl,?_⟩;refine xN (h1.up u2) h2 oz oz fun k3 d3 u3 h3=>⟨d3,h3.seg,rfl,fun k4 u4=>?_⟩;refine C k4 d3 ((((u0.trans u1).trans u2).trans u3).trans u4) (SurdV.cut (K:=2*1+1) (cast4 (h3.up u4) (by decide +kernel)) (by decide +kernel))
theorem aVe {n:Nat}(hn:n<24) (C:∀k' ds,Up k k'→SurdV k' ds (bZ n) 1→R k' (.agg ds)) :
 Cl k 210 #[.int .i64 (n:Int)] R:=by
 match n,hn with
 | 0,_=>exact aIp C
 | 1,_=>exact aAa C
 | 2,_=>exact aAb C
 | 3,_=>exact aAc C
 | 4,_=>exact aAd C
 | 5,_=>exact aAe C
 | 6,_=>exact bAc C
 | 7,_=>exact bAd C
 | 8,_=>exact bAe C
 | 9,_=>exact bAf C
 | 10,_=>exact aUq C
 | 11,_=>exact aUr C
 | 12,_=>exact aUs C
 | 13,_=>exact aUt C
 | 14,_=>exact aUu C
 | 15,_=>exact aUv C
 | 16,_=>exact aUw C
 | 17,_=>exact aUx C
 | 18,_=>exact aUy C
 | 19,_=>exact aUz C
 | 20,_=>exact aVa C
 | 21,_=>exact aVb C
 | 22,_=>exact aVc C
 | 23,_=>exact aVd C
 | n+24,h=>exact absurd h oq
theorem aQq {n:Int}:Int.tmod (wrap .i64 ((Int.tmod n 24)+24)) 24=(plc n:Int):=by
 have h:Int.tmod n 24=n % 24∨Int.tmod n 24=n % 24-24:=by
  rw [Int.tmod_eq_emod];split
  ·left;omega
  ·right;rfl
 have hw:wrap .i64 ((Int.tmod n 24)+24)=Int.tmod n 24+24:=by rw [qy];omega
 rw [hw,Int.tmod_eq_emod_of_nonneg oq];unfold plc;omega
theorem aHs {n:Int}(C:∀k',Up k k'→R k' (.int .i64 (plc n:Int))) :
 Cl k 209 #[.int .i64 n] R:=by
 intro k0 u0;refine aQo fun k1 u1=>?_;rw [aQq];exact C k1 (u0.trans u1)
theorem aQp {m:Nat}(h:m<24):plc (wrap .i64 ((m:Int)-6))=(m+18) % 24:=by
 have hw:wrap .i64 ((m:Int)-6)=(m:Int)-6:=by rw [qy];omega
 rw [hw];unfold plc;omega
theorem bAj {n:Int}(C:∀k' ds,Up k k'→WaveV k' ds (aIm (plc n)) 1→R k' (.agg ds)) :
 Cl k 129 #[.int .i64 n] R:=by
 intro k0 u0;have hl:=aQr n;refine aUp (aHs fun k1 u1=>⟨_,rfl,?_⟩);refine aVe hl fun k2 d2 u2 h2=>⟨d2,h2.seg,rfl,?_⟩;have e:=aQp hl;refine aHs fun k3 u3=>⟨_,rfl,?_⟩;rw [e];refine aVe (qf _ oz) fun k4 d4 u4 h4=>⟨d4,h4.seg,rfl,fun k5 u5=>?_⟩;exact C k5 _ (((((u0.trans u1).trans u2).trans u3).trans u4).trans u5) ⟨d2,d4,rfl,((h2.up u3).up u4).up u5,h4.up u5⟩
end
open Value (agg slice int bool tuple)
open Sy (Up Sees CallsG Seg execFn_use)
set_option maxRecDepth 100000
variable {k:World}{R:World→Value→Prop}{cs0 cs1:Array Value}
theorem aUi (hcs0:Seg 9 cs0) (hcs1:Seg 9 cs1)
 (h:∃I0:Nat→World→List Value→Prop,(∃m0,∀k0,Up k k0→I0 m0 k0 [int .i64 0,int .i64 1,agg cs0])∧
 ∀m0 k0 vs0,Up k k0→I0 m0 k0 vs0→∃n2,∃n3,∃cs4,Seg 9 cs4∧some [int .i64 n2,int .i64 n3,agg cs4]=some vs0∧
 Br (decide ((n3:Int)<24)) (Cl k0 129 #[int .i64 (wrap .i64 (0-n3))] fun k2 r1=>∃cs5,Seg 9 cs5∧∃cs6,Seg 9 cs6∧some (agg (cs5.toList++(cs6.toList++([]))).toArray)=some r1∧
 Cl k2 128 #[agg (cs0.toList++(cs1.toList++([]))).toArray,agg (cs5.toList++(cs6.toList++([]))).toArray] fun k4 r3=>∃cs7,Seg 9 cs7∧∃cs8,Seg 9 cs8∧some (agg (cs7.toList++(cs8.toList++([]))).toArray)=some r3∧
 Cl k4 61 #[agg cs7,agg cs4] fun k6 r5=>Gi r5 fun n9=>
 Br (decide ((n9:Int) > 0)) (∀k7,Up k6 k7→∃m,m<m0∧I0 m k7 [int .i64 n3,int .i64 (wrap .i64 (n3+1)),agg cs7]) (∀k8,Up k6 k8→∃m,m<m0∧I0 m k8 [int .i64 n2,int .i64 (wrap .i64 (n3+1)),agg cs4])) (Rt R k0 (tuple #[int .i64 n2,agg cs4]))) :
  CallsG Tryz.prog 44 #[agg (cs0.toList++(cs1.toList++([]))).toArray] k R:=
  qX { opq:=[63],loops:=[(0,[.tmp 5 false [.int .i64],.tmp 6 false [.int .i64],.blk 2 [.seg 9]])] } [.agg [.seg 0 9,.seg 1 9]] [agg cs0,agg cs1] [.seg 9,.seg 9] ⟨⟨cs0,rfl,hcs0⟩,⟨cs1,rfl,hcs1⟩,trivial⟩ h
end Go.Proofs.YtjgnlflbgmnfaaaGreat

namespace Go.Proofs.YtjgnlflbgmnfaaaGreat
open IntKind (wrap)
open Go.RowKit Num Plain
open Sy (Up Sees CallsG Seg)
section
variable {k k':World}{R:World→Value→Prop}{K L:Nat}{cs cs':Array Value}{x y:W4}{v v':Q4}
theorem aCi {j:Nat}(hj:j<24):plc (wrap .i64 (0-(j:Int)))=(24-j) % 24:=by
 have hw:wrap .i64 (0-(j:Int))=0-(j:Int):=by rw [qy];omega
 rw [hw];unfold plc;omega
theorem sN {j:Nat}(hj:j<100):wrap .i64 ((j:Int)+1)=((j+1:Nat):Int):=by rw [qy];omega
theorem bCm (hx:WaveV k cs x K) (hK1:1≤K) (hK:K≤1000000) (C:∀k' ds,Up k k'→SurdV k' ds (hi x 23).2 (4*K+9)→R k' (.tuple #[.int .i64 ((hi x 23).1:Int),.agg ds])) :
 Cl k 44 #[.agg cs] R:=by
 intro k0 u0;replace hx:=hx.up u0;replace C:=fun k' ds u=>C k' ds (u0.trans u);have hx':=hx;obtain⟨a,b,rfl,a0,b0⟩:=hx';refine aUi a0.seg b0.seg ⟨fun m k' vs=>∃j c,j≤23∧m=23-j∧vs=[.int .i64 ((hi x j).1:Int),.int .i64 ((j+1:Nat):Int),.agg c]∧SurdV k' c (hi x j).2 (4*K+9),⟨23,fun k' u=>⟨0,a,oq,rfl,rfl,(a0.up u).mono oq⟩⟩,?_⟩;rintro m k1 vs u1 ⟨j,c,hj,rfl,rfl,hb⟩;refine⟨_,_,c,hb.seg,rfl,fun hlt=>?_,fun hge k9 u9=>?_⟩
 ·have hlt:=ow hlt;refine bAj fun k2 d2 u2 hT=>?_;rw [aCi (j:=j+1) oq]at hT;have hT':=hT;obtain⟨p,q,rfl,p0,q0⟩:=hT';refine⟨p,p0.seg,q,q0.seg,rfl,?_⟩;refine bBh ((hx.up u1).up u2) (hT.mono hK1) hK1 oq fun k4 d4 u4 hM=>?_;obtain⟨r,s,rfl,r0,s0⟩:=hM;refine⟨r,r0.seg,s,s0.seg,rfl,?_⟩;refine bBc r0 ((hb.up u2).up u4) oq oq fun k6 u6=>⟨_,rfl,fun hc=>?_,fun hc=>?_⟩
  ·have hc:0<sgd (fAt x (j+1)) (hi x j).2:=ow hc;have e:hi x (j+1)=(j+1,fAt x (j+1)):=by show (if _ then _ else _)=_;rw [od hc]
   intro k7 u7;refine⟨23-(j+1),oq,j+1,r,oq,rfl,?_,?_⟩
   ·rw [e,sN oq]
   ·rw [e];exact (r0.up u6).up u7
  ·have hc:¬ 0<sgd (fAt x (j+1)) (hi x j).2:=ov hc;have e:hi x (j+1)=hi x j:=by show (if _ then _ else _)=_;rw [oh hc]
   intro k7 u7;refine⟨23-(j+1),oq,j+1,c,oq,rfl,?_,?_⟩
   ·rw [e,sN oq]
   ·rw [e];exact (((hb.up u2).up u4).up u6).up u7
 ·have hge:=ov hge;have e:j=23:=oq
  subst e;exact C k9 c (u1.trans u9) (hb.up u9)
end
def zS:List Value:=[.bool false,.slice none 0 0,.bool false,.slice none 0 0,.bool false,.slice none 0 0,.bool false,.slice none 0 0,.slice none 0 0]
def zT:List Value:=[.bool false,.slice none 0 0,.slice none 0 0,.bool false,.slice none 0 0,.slice none 0 0,.bool false,.slice none 0 0,.slice none 0 0,.bool false,.slice none 0 0,.slice none 0 0]
def bFh (n:Nat) (z:List Value):Array Value:=(List.replicate n z).flatten.toArray
def elt (cs:Array Value) (s i:Nat):Array Value:=(Sy.pickL cs (i*s+0) s).toArray
structure Arr (n s:Nat) (E:Nat→Array Value→Prop) (cs:Array Value):Prop where
 size:cs.size=n*s
 el:∀i,i<n→E i (elt cs s i)
section
variable {n s i:Nat}{E E':Nat→Array Value→Prop}{cs ys:Array Value}
end
def bFf {α:Type}(n s:Nat) (P:Array Value→α→Prop) (cs:Array Value) (f:Nat→α):Prop:=Arr n s (fun i a=>P a (f i)) cs
def cut {α:Type}(j:Nat) (F G:Nat→α) (i:Nat):α:=if i<j then F i else G i
section
variable {α:Type}{n s i j:Nat}{P Q:Array Value→α→Prop}{cs ys:Array Value}{f g F G:Nat→α}
def bFg (s:Nat) (P:Array Value→α→Prop) (a:Array Value):Option α→Prop
 | none=>Seg s a
 | some v=>P a v
end
open Value (agg slice int bool tuple)
open Sy (Up Sees CallsG Seg execFn_use)
set_option maxRecDepth 100000
variable {k:World}{R:World→Value→Prop}{cs0 cs1:Array Value}
theorem aRf (hcs0:Seg 12 cs0) (hcs1:Seg 12 cs1)
 (h:∃I0:Nat→World→List Value→Prop,(∃m0,∀k0,Up k k0→I0 m0 k0 [int .i64 0,int .i64 1,agg cs0])∧
 ∀m0 k0 vs0,Up k k0→I0 m0 k0 vs0→∃n2,∃n3,∃cs4,Seg 12 cs4∧some [int .i64 n2,int .i64 n3,agg cs4]=some vs0∧
 Br (decide ((n3:Int)<24)) (Cl k0 131 #[int .i64 (wrap .i64 (0-n3))] fun k2 r1=>∃cs5,Seg 12 cs5∧∃cs6,Seg 12 cs6∧some (agg (cs5.toList++(cs6.toList++([]))).toArray)=some r1∧
 Cl k2 130 #[agg (cs0.toList++(cs1.toList++([]))).toArray,agg (cs5.toList++(cs6.toList++([]))).toArray] fun k4 r3=>∃cs7,Seg 12 cs7∧∃cs8,Seg 12 cs8∧some (agg (cs7.toList++(cs8.toList++([]))).toArray)=some r3∧
 Cl k4 132 #[agg cs7,agg cs4] fun k6 r5=>Gi r5 fun n9=>
 Br (decide ((n9:Int) > 0)) (∀k7,Up k6 k7→∃m,m<m0∧I0 m k7 [int .i64 n3,int .i64 (wrap .i64 (n3+1)),agg cs7]) (∀k8,Up k6 k8→∃m,m<m0∧I0 m k8 [int .i64 n2,int .i64 (wrap .i64 (n3+1)),agg cs4])) (Rt R k0 (tuple #[int .i64 n2,agg cs4]))) :
  CallsG Tryz.prog 45 #[agg (cs0.toList++(cs1.toList++([]))).toArray] k R:=
  qX { opq:=[68],loops:=[(0,[.tmp 4 false [.int .i64],.tmp 6 false [.int .i64],.blk 2 [.seg 12]])] } [.agg [.seg 0 12,.seg 1 12]] [agg cs0,agg cs1] [.seg 12,.seg 12] ⟨⟨cs0,rfl,hcs0⟩,⟨cs1,rfl,hcs1⟩,trivial⟩ h
end Go.Proofs.YtjgnlflbgmnfaaaGreat

namespace Go.Proofs.YtjgnlflbgmnfaaaGreat.W32
open IntKind (wrap)
open Go.RowKit Num
open Sy (Up Sees CallsG Seg)
section
variable {k k':World}{cs cs' c0 c1:Array Value}{R:World→Value→Prop}{v v':Q4}{x y:W4}{K L:Nat}
theorem in64s {z:Int}(h:z.natAbs≤100):In64 z:=⟨oq,oq⟩
theorem aHu (C:∀k' ds,Up k k'→SQ k' ds (bZ 0) 2→R k' (.agg ds)) :
 Cl k 211 #[.int .i64 0] R:=by
 intro k0 u0;refine aRi (aR (in64s oz) (in64s oz) fun k1 d1 u1 h1=>⟨d1,h1.seg,_,rfl,?_⟩);refine aR (in64s oz) (in64s oz) fun k2 d2 u2 h2=>⟨d2,h2.seg,_,rfl,?_⟩;refine aR (in64s oz) (in64s oz) fun k3 d3 u3 h3=>⟨d3,h3.seg,_,rfl,?_⟩;refine aR (in64s oz) (in64s oz) fun k4 d4 u4 h4=>⟨d4,h4.seg,_,rfl,fun k9 u9=>?_⟩;exact C k9 _ (((((u0.trans u1).trans u2).trans u3).trans u4).trans u9) ⟨d1,d2,d3,d4,rfl,((((h1.up u2).up u3).up u4).up u9).cast (by decide +kernel),(((h2.up u3).up u4).up u9).cast (by decide +kernel),((h3.up u4).up u9).cast (by decide +kernel),(h4.up u9).cast (by decide +kernel)⟩
theorem yV (C:∀k' ds,Up k k'→SQ k' ds (bZ 1) 2→R k' (.agg ds)) :
 Cl k 211 #[.int .i64 1] R:=by
 intro k0 u0;refine aRt (aR (in64s oz) (in64s oz) fun k1 d1 u1 h1=>⟨d1,h1.seg,_,rfl,?_⟩);refine aR (in64s oz) (in64s oz) fun k2 d2 u2 h2=>⟨d2,h2.seg,_,rfl,?_⟩;refine aR (in64s oz) (in64s oz) fun k3 d3 u3 h3=>⟨d3,h3.seg,_,rfl,?_⟩;refine aR (in64s oz) (in64s oz) fun k4 d4 u4 h4=>⟨d4,h4.seg,_,rfl,fun k9 u9=>?_⟩;exact C k9 _ (((((u0.trans u1).trans u2).trans u3).trans u4).trans u9) ⟨d1,d2,d3,d4,rfl,((((h1.up u2).up u3).up u4).up u9).cast (by decide +kernel),(((h2.up u3).up u4).up u9).cast (by decide +kernel),((h3.up u4).up u9).cast (by decide +kernel),(h4.up u9).cast (by decide +kernel)⟩
theorem yW (C:∀k' ds,Up k k'→SQ k' ds (bZ 2) 2→R k' (.agg ds)) :
 Cl k 211 #[.int .i64 2] R:=by
 intro k0 u0;refine aRy (aR (in64s oz) (in64s oz) fun k1 d1 u1 h1=>⟨d1,h1.seg,_,rfl,?_⟩);refine aR (in64s oz) (in64s oz) fun k2 d2 u2 h2=>⟨d2,h2.seg,_,rfl,?_⟩;refine aR (in64s oz) (in64s oz) fun k3 d3 u3 h3=>⟨d3,h3.seg,_,rfl,?_⟩;refine aR (in64s oz) (in64s oz) fun k4 d4 u4 h4=>⟨d4,h4.seg,_,rfl,fun k9 u9=>?_⟩;exact C k9 _ (((((u0.trans u1).trans u2).trans u3).trans u4).trans u9) ⟨d1,d2,d3,d4,rfl,((((h1.up u2).up u3).up u4).up u9).cast (by decide +kernel),(((h2.up u3).up u4).up u9).cast (by decide +kernel),((h3.up u4).up u9).cast (by decide +kernel),(h4.up u9).cast (by decide +kernel)⟩
theorem yX (C:∀k' ds,Up k k'→SQ k' ds (bZ 3) 2→R k' (.agg ds)) :
 Cl k 211 #[.int .i64 3] R:=by
 intro k0 u0;refine aRz (aR (in64s oz) (in64s oz) fun k1 d1 u1 h1=>⟨d1,h1.seg,_,rfl,?_⟩);refine aR (in64s oz) (in64s oz) fun k2 d2 u2 h2=>⟨d2,h2.seg,_,rfl,?_⟩;refine aR (in64s oz) (in64s oz) fun k3 d3 u3 h3=>⟨d3,h3.seg,_,rfl,?_⟩;refine aR (in64s oz) (in64s oz) fun k4 d4 u4 h4=>⟨d4,h4.seg,_,rfl,fun k9 u9=>?_⟩;exact C k9 _ (((((u0.trans u1).trans u2).trans u3).trans u4).trans u9) ⟨d1,d2,d3,d4,rfl,((((h1.up u2).up u3).up u4).up u9).cast (by decide +kernel),(((h2.up u3).up u4).up u9).cast (by decide +kernel),((h3.up u4).up u9).cast (by decide +kernel),(h4.up u9).cast (by decide +kernel)⟩
theorem yY (C:∀k' ds,Up k k'→SQ k' ds (bZ 4) 2→R k' (.agg ds)) :
 Cl k 211 #[.int .i64 4] R:=by
 intro k0 u0;refine aSa (aR (in64s oz) (in64s oz) fun k1 d1 u1 h1=>⟨d1,h1.seg,_,rfl,?_⟩);refine aR (in64s oz) (in64s oz) fun k2 d2 u2 h2=>⟨d2,h2.seg,_,rfl,?_⟩;refine aR (in64s oz) (in64s oz) fun k3 d3 u3 h3=>⟨d3,h3.seg,_,rfl,?_⟩;refine aR (in64s oz) (in64s oz) fun k4 d4 u4 h4=>⟨d4,h4.seg,_,rfl,fun k9 u9=>?_⟩;exact C k9 _ (((((u0.trans u1).trans u2).trans u3).trans u4).trans u9) ⟨d1,d2,d3,d4,rfl,((((h1.up u2).up u3).up u4).up u9).cast (by decide +kernel),(((h2.up u3).up u4).up u9).cast (by decide +kernel),((h3.up u4).up u9).cast (by decide +kernel),(h4.up u9).cast (by decide +kernel)⟩
theorem yZ (C:∀k' ds,Up k k'→SQ k' ds (bZ 5) 2→R k' (.agg ds)) :
 Cl k 211 #[.int .i64 5] R:=by
 intro k0 u0;refine aSb (aR (in64s oz) (in64s oz) fun k1 d1 u1 h1=>⟨d1,h1.seg,_,rfl,?_⟩);refine aR (in64s oz) (in64s oz) fun k2 d2 u2 h2=>⟨d2,h2.seg,_,rfl,?_⟩;refine aR (in64s oz) (in64s oz) fun k3 d3 u3 h3=>⟨d3,h3.seg,_,rfl,?_⟩;refine aR (in64s oz) (in64s oz) fun k4 d4 u4 h4=>⟨d4,h4.seg,_,rfl,fun k9 u9=>?_⟩;exact C k9 _ (((((u0.trans u1).trans u2).trans u3).trans u4).trans u9) ⟨d1,d2,d3,d4,rfl,((((h1.up u2).up u3).up u4).up u9).cast (by decide +kernel),(((h2.up u3).up u4).up u9).cast (by decide +kernel),((h3.up u4).up u9).cast (by decide +kernel),(h4.up u9).cast (by decide +kernel)⟩
theorem aYr (C:∀k' ds,Up k k'→SQ k' ds (bZ 6) 2→R k' (.agg ds)) :
 Cl k 211 #[.int .i64 6] R:=by
 intro k0 u0;refine aSc (aR (in64s oz) (in64s oz) fun k1 d1 u1 h1=>⟨d1,h1.seg,_,rfl,?_⟩);refine aR (in64s oz) (in64s oz) fun k2 d2 u2 h2=>⟨d2,h2.seg,_,rfl,?_⟩;refine aR (in64s oz) (in64s oz) fun k3 d3 u3 h3=>⟨d3,h3.seg,_,rfl,?_⟩;refine aR (in64s oz) (in64s oz) fun k4 d4 u4 h4=>⟨d4,h4.seg,_,rfl,fun k9 u9=>?_⟩;exact C k9 _ (((((u0.trans u1).trans u2).trans u3).trans u4).trans u9) ⟨d1,d2,d3,d4,rfl,((((h1.up u2).up u3).up u4).up u9).cast (by decide +kernel),(((h2.up u3).up u4).up u9).cast (by decide +kernel),((h3.up u4).up u9).cast (by decide +kernel),(h4.up u9).cast (by decide +kernel)⟩
theorem aYs (C:∀k' ds,Up k k'→SQ k' ds (bZ 7) 2→R k' (.agg ds)) :
 Cl k 211 #[.int .i64 7] R:=by
 intro k0 u0;refine aSd (yZ fun k1 d1 u1 h1=>?_);have h1':=h1;obtain⟨a0,a1,a2,a3,rfl,q0,q1,q2,q3⟩:=h1';refine⟨a0,q0.seg,a1,q1.seg,a2,q2.seg,a3,q3.seg,rfl,?_⟩;refine gO h1 oz fun k3 d3 u3 h3=>?_;have h3':=h3;obtain⟨b0,b1,b2,b3,rfl,r0,r1,r2,r3⟩:=h3';exact⟨b0,r0.seg,b1,r1.seg,b2,r2.seg,b3,r3.seg,rfl,fun k4 u4=>C k4 _ (((u0.trans u1).trans u3).trans u4) (h3.up u4)⟩
theorem aYt (C:∀k' ds,Up k k'→SQ k' ds (bZ 8) 2→R k' (.agg ds)) :
 Cl k 211 #[.int .i64 8] R:=by
 intro k0 u0;refine aSe (yY fun k1 d1 u1 h1=>?_);have h1':=h1;obtain⟨a0,a1,a2,a3,rfl,q0,q1,q2,q3⟩:=h1';refine⟨a0,q0.seg,a1,q1.seg,a2,q2.seg,a3,q3.seg,rfl,?_⟩;refine gO h1 oz fun k3 d3 u3 h3=>?_;have h3':=h3;obtain⟨b0,b1,b2,b3,rfl,r0,r1,r2,r3⟩:=h3';exact⟨b0,r0.seg,b1,r1.seg,b2,r2.seg,b3,r3.seg,rfl,fun k4 u4=>C k4 _ (((u0.trans u1).trans u3).trans u4) (h3.up u4)⟩
theorem aYu (C:∀k' ds,Up k k'→SQ k' ds (bZ 9) 2→R k' (.agg ds)) :
 Cl k 211 #[.int .i64 9] R:=by
 intro k0 u0;refine aSf (yX fun k1 d1 u1 h1=>?_);have h1':=h1;obtain⟨a0,a1,a2,a3,rfl,q0,q1,q2,q3⟩:=h1';refine⟨a0,q0.seg,a1,q1.seg,a2,q2.seg,a3,q3.seg,rfl,?_⟩;refine gO h1 oz fun k3 d3 u3 h3=>?_;have h3':=h3;obtain⟨b0,b1,b2,b3,rfl,r0,r1,r2,r3⟩:=h3';exact⟨b0,r0.seg,b1,r1.seg,b2,r2.seg,b3,r3.seg,rfl,fun k4 u4=>C k4 _ (((u0.trans u1).trans u3).trans u4) (h3.up u4)⟩
theorem aRj (C:∀k' ds,Up k k'→SQ k' ds (bZ 10) 2→R k' (.agg ds)) :
 Cl k 211 #[.int .i64 10] R:=by
 intro k0 u0;refine aLj (yW fun k1 d1 u1 h1=>?_);have h1':=h1;obtain⟨a0,a1,a2,a3,rfl,q0,q1,q2,q3⟩:=h1';refine⟨a0,q0.seg,a1,q1.seg,a2,q2.seg,a3,q3.seg,rfl,?_⟩;refine gO h1 oz fun k3 d3 u3 h3=>?_;have h3':=h3;obtain⟨b0,b1,b2,b3,rfl,r0,r1,r2,r3⟩:=h3';exact⟨b0,r0.seg,b1,r1.seg,b2,r2.seg,b3,r3.seg,rfl,fun k4 u4=>C k4 _ (((u0.trans u1).trans u3).trans u4) (h3.up u4)⟩
theorem aRk (C:∀k' ds,Up k k'→SQ k' ds (bZ 11) 2→R k' (.agg ds)) :
 Cl k 211 #[.int .i64 11] R:=by
 intro k0 u0;refine aLk (yV fun k1 d1 u1 h1=>?_);have h1':=h1;obtain⟨a0,a1,a2,a3,rfl,q0,q1,q2,q3⟩:=h1';refine⟨a0,q0.seg,a1,q1.seg,a2,q2.seg,a3,q3.seg,rfl,?_⟩;refine gO h1 oz fun k3 d3 u3 h3=>?_;have h3':=h3;obtain⟨b0,b1,b2,b3,rfl,r0,r1,r2,r3⟩:=h3';exact⟨b0,r0.seg,b1,r1.seg,b2,r2.seg,b3,r3.seg,rfl,fun k4 u4=>C k4 _ (((u0.trans u1).trans u3).trans u4) (h3.up u4)⟩
theorem aRl (C:∀k' ds,Up k k'→SQ k' ds (bZ 12) 2→R k' (.agg ds)) :
 Cl k 211 #[.int .i64 12] R:=by
 intro k0 u0;refine aLl (aHu fun k1 d1 u1 h1=>?_);have h1':=h1;obtain⟨a0,a1,a2,a3,rfl,q0,q1,q2,q3⟩:=h1';refine⟨a0,q0.seg,a1,q1.seg,a2,q2.seg,a3,q3.seg,rfl,?_⟩;refine gO h1 oz fun k3 d3 u3 h3=>?_;have h3':=h3;obtain⟨b0,b1,b2,b3,rfl,r0,r1,r2,r3⟩:=h3';exact⟨b0,r0.seg,b1,r1.seg,b2,r2.seg,b3,r3.seg,rfl,fun k4 u4=>C k4 _ (((u0.trans u1).trans u3).trans u4) (h3.up u4)⟩
theorem aRm (C:∀k' ds,Up k k'→SQ k' ds (bZ 13) 2→R k' (.agg ds)) :
 Cl k 211 #[.int .i64 13] R:=by
 intro k0 u0;refine aLm (yV fun k1 d1 u1 h1=>?_);have h1':=h1;obtain⟨a0,a1,a2,a3,rfl,q0,q1,q2,q3⟩:=h1';refine⟨a0,q0.seg,a1,q1.seg,a2,q2.seg,a3,q3.seg,rfl,?_⟩;refine gO h1 oz fun k3 d3 u3 h3=>?_;have h3':=h3;obtain⟨b0,b1,b2,b3,rfl,r0,r1,r2,r3⟩:=h3';exact⟨b0,r0.seg,b1,r1.seg,b2,r2.seg,b3,r3.seg,rfl,fun k4 u4=>C k4 _ (((u0.trans u1).trans u3).trans u4) (h3.up u4)⟩
theorem aRn (C:∀k' ds,Up k k'→SQ k' ds (bZ 14) 2→R k' (.agg ds)) :
 Cl k 211 #[.int .i64 14] R:=by
 intro k0 u0;refine aLn (yW fun k1 d1 u1 h1=>?_);have h1':=h1;obtain⟨a0,a1,a2,a3,rfl,q0,q1,q2,q3⟩:=h1';refine⟨a0,q0.seg,a1,q1.seg,a2,q2.seg,a3,q3.seg,rfl,?_⟩;refine gO h1 oz fun k3 d3 u3 h3=>?_;have h3':=h3;obtain⟨b0,b1,b2,b3,rfl,r0,r1,r2,r3⟩:=h3';exact⟨b0,r0.seg,b1,r1.seg,b2,r2.seg,b3,r3.seg,rfl,fun k4 u4=>C k4 _ (((u0.trans u1).trans u3).trans u4) (h3.up u4)⟩
theorem aRo (C:∀k' ds,Up k k'→SQ k' ds (bZ 15) 2→R k' (.agg ds)) :
 Cl k 211 #[.int .i64 15] R:=by
 intro k0 u0;refine aLo (yX fun k1 d1 u1 h1=>?_);have h1':=h1;obtain⟨a0,a1,a2,a3,rfl,q0,q1,q2,q3⟩:=h1';refine⟨a0,q0.seg,a1,q1.seg,a2,q2.seg,a3,q3.seg,rfl,?_⟩;refine gO h1 oz fun k3 d3 u3 h3=>?_;have h3':=h3;obtain⟨b0,b1,b2,b3,rfl,r0,r1,r2,r3⟩:=h3';exact⟨b0,r0.seg,b1,r1.seg,b2,r2.seg,b3,r3.seg,rfl,fun k4 u4=>C k4 _ (((u0.trans u1).trans u3).trans u4) (h3.up u4)⟩
theorem aRp (C:∀k' ds,Up k k'→SQ k' ds (bZ 16) 2→R k' (.agg ds)) :
 Cl k 211 #[.int .i64 16] R:=by
 intro k0 u0;refine aLp (yY fun k1 d1 u1 h1=>?_);have h1':=h1;obtain⟨a0,a1,a2,a3,rfl,q0,q1,q2,q3⟩:=h1';refine⟨a0,q0.seg,a1,q1.seg,a2,q2.seg,a3,q3.seg,rfl,?_⟩;refine gO h1 oz fun k3 d3 u3 h3=>?_;have h3':=h3;obtain⟨b0,b1,b2,b3,rfl,r0,r1,r2,r3⟩:=h3';exact⟨b0,r0.seg,b1,r1.seg,b2,r2.seg,b3,r3.seg,rfl,fun k4 u4=>C k4 _ (((u0.trans u1).trans u3).trans u4) (h3.up u4)⟩
theorem aRq (C:∀k' ds,Up k k'→SQ k' ds (bZ 17) 2→R k' (.agg ds)) :
 Cl k 211 #[.int .i64 17] R:=by
 intro k0 u0;refine aLq (yZ fun k1 d1 u1 h1=>?_);have h1':=h1;obtain⟨a0,a1,a2,a3,rfl,q0,q1,q2,q3⟩:=h1';refine⟨a0,q0.seg,a1,q1.seg,a2,q2.seg,a3,q3.seg,rfl,?_⟩;refine gO h1 oz fun k3 d3 u3 h3=>?_;have h3':=h3;obtain⟨b0,b1,b2,b3,rfl,r0,r1,r2,r3⟩:=h3';exact⟨b0,r0.seg,b1,r1.seg,b2,r2.seg,b3,r3.seg,rfl,fun k4 u4=>C k4 _ (((u0.trans u1).trans u3).trans u4) (h3.up u4)⟩
theorem aRr (C:∀k' ds,Up k k'→SQ k' ds (bZ 18) 2→R k' (.agg ds)) :
 Cl k 211 #[.int .i64 18] R:=by
 intro k0 u0;refine aLr (aR (in64s oz) (in64s oz) fun k1 d1 u1 h1=>⟨d1,h1.seg,_,rfl,?_⟩);refine aR (in64s oz) (in64s oz) fun k2 d2 u2 h2=>⟨d2,h2.seg,_,rfl,?_⟩;refine aR (in64s oz) (in64s oz) fun k3 d3 u3 h3=>⟨d3,h3.seg,_,rfl,?_⟩;refine aR (in64s oz) (in64s oz) fun k4 d4 u4 h4=>⟨d4,h4.seg,_,rfl,fun k9 u9=>?_⟩;exact C k9 _ (((((u0.trans u1).trans u2).trans u3).trans u4).trans u9) ⟨d1,d2,d3,d4,rfl,((((h1.up u2).up u3).up u4).up u9).cast (by decide +kernel),(((h2.up u3).up u4).up u9).cast (by decide +kernel),((h3.up u4).up u9).cast (by decide +kernel),(h4.up u9).cast (by decide +kernel)⟩
theorem aRs (C:∀k' ds,Up k k'→SQ k' ds (bZ 19) 2→R k' (.agg ds)) :
 Cl k 211 #[.int .i64 19] R:=by
 intro k0 u0;refine aLs (aR (in64s oz) (in64s oz) fun k1 d1 u1 h1=>⟨d1,h1.seg,_,rfl,?_⟩);refine aR (in64s oz) (in64s oz) fun k2 d2 u2 h2=>⟨d2,h2.seg,_,rfl,?_⟩;refine aR (in64s oz) (in64s oz) fun k3 d3 u3 h3=>⟨d3,h3.seg,_,rfl,?_⟩;refine aR (in64s oz) (in64s oz) fun k4 d4 u4 h4=>⟨d4,h4.seg,_,rfl,fun k9 u9=>?_⟩;exact C k9 _ (((((u0.trans u1).trans u2).trans u3).trans u4).trans u9) ⟨d1,d2,d3,d4,rfl,((((h1.up u2).up u3).up u4).up u9).cast (by decide +kernel),(((h2.up u3).up u4).up u9).cast (by decide +kernel),((h3.up u4).up u9).cast (by decide +kernel),(h4.up u9).cast (by decide +kernel)⟩
theorem aRu (C:∀k' ds,Up k k'→SQ k' ds (bZ 20) 2→R k' (.agg ds)) :
 Cl k 211 #[.int .i64 20] R:=by
 intro k0 u0;refine aLt (aR (in64s oz) (in64s oz) fun k1 d1 u1 h1=>⟨d1,h1.seg,_,rfl,?_⟩);refine aR (in64s oz) (in64s oz) fun k2 d2 u2 h2=>⟨d2,h2.seg,_,rfl,?_⟩;refine aR (in64s oz) (in64s oz) fun k3 d3 u3 h3=>⟨d3,h3.seg,_,rfl,?_⟩;refine aR (in64s oz) (in64s oz) fun k4 d4 u4 h4=>⟨d4,h4.seg,_,rfl,fun k9 u9=>?_⟩;exact C k9 _ (((((u0.trans u1).trans u2).trans u3).trans u4).trans u9) ⟨d1,d2,d3,d4,rfl,((((h1.up u2).up u3).up u4).up u9).cast (by decide +kernel),(((h2.up u3).up u4).up u9).cast (by decide +kernel),((h3.up u4).up u9).cast (by decide +kernel),(h4.up u9).cast (by decide +kernel)⟩
theorem aRv (C:∀k' ds,Up k k'→SQ k' ds (bZ 21) 2→R k' (.agg ds)) :
 Cl k 211 #[.int .i64 21] R:=by
 intro k0 u0;refine aLu (aR (in64s oz) (in64s oz) fun k1 d1 u1 h1=>⟨d1,h1.seg,_,rfl,?_⟩);refine aR (in64s oz) (in64s oz) fun k2 d2 u2 h2=>⟨d2,h2.seg,_,rfl,?_⟩;refine aR (in64s oz) (in64s oz) fun k3 d3 u3 h3=>⟨d3,h3.seg,_,rfl,?_⟩;refine aR (in64s oz) (in64s oz) fun k4 d4 u4 h4=>⟨d4,h4.seg,_,rfl,fun k9 u9=>?_⟩;exact C k9 _ (((((u0.trans u1).trans u2).trans u3).trans u4).trans u9) ⟨d1,d2,d3,d4,rfl,((((h1.up u2).up u3).up u4).up u9).cast (by decide +kernel),(((h2.up u3).up u4).up u9).cast (by decide +kernel),((h3.up u4).up u9).cast (by decide +kernel),(h4.up u9).cast (by decide +kernel)⟩
theorem aRw (C:∀k' ds,Up k k'→SQ k' ds (bZ 22) 2→R k' (.agg ds)) :
 Cl k 211 #[.int .i64 22] R:=by
 intro k0 u0;refine aLv (aR (in64s oz) (in64s oz) fun k1 d1 u1 h1=>⟨d1,h1.seg,_,rfl,?_⟩);refine aR (in64s oz) (in64s oz) fun k2 d2 u2 h2=>⟨d2,h2.seg,_,rfl,?_⟩;refine aR (in64s oz) (in64s oz) fun k3 d3 u3 h3=>⟨d3,h3.seg,_,rfl,?_⟩;refine aR (in64s oz) (in64s oz) fun k4 d4 u4 h4=>⟨d4,h4.seg,_,rfl,fun k9 u9=>?_⟩;exact C k9 _ (((((u0.trans u1).trans u2).trans u3).trans u4).trans u9) ⟨d1,d2,d3,d4,rfl,((((h1.up u2).up u3).up u4).up u9).cast (by decide +kernel),(((h2.up u3).up u4).up u9).cast (by decide +kernel),((h3.up u4).up u9).cast (by decide +kernel),(h4.up u9).cast (by decide +kernel)⟩
theorem aRx (C:∀k' ds,Up k k'→SQ k' ds (bZ 23) 2→R k' (.agg ds)) :
 Cl k 211 #[.int .i64 23] R:=by
 intro k0 u0;refine aLw (aR (in64s oz) (in64s oz) fun k1 d1 u1 h1=>⟨d1,h1.seg,_,rfl,?_⟩);refine aR (in64s oz) (in64s oz) fun k2 d2 u2 h2=>⟨d2,h2.seg,_,rfl,?_⟩;refine aR (in64s oz) (in64s oz) fun k3 d3 u3 h3=>⟨d3,h3.seg,_,rfl,?_⟩;refine aR (in64s oz) (in64s oz) fun k4 d4 u4 h4=>⟨d4,h4.seg,_,rfl,fun k9 u9=>?_⟩;exact C k9 _ (((((u0.trans u1).trans u2).trans u3).trans u4).trans u9) ⟨d1,d2,d3,d4,rfl,((((h1.up u2).up u3).up u4).up u9).cast (by decide +kernel),(((h2.up u3).up u4).up u9).cast (by decide +kernel),((h3.up u4).up u9).cast (by decide +kernel),(h4.up u9).cast (by decide +kernel)⟩
theorem aSg {n:Nat}(hn:n<24) (C:∀k' ds,Up k k'→SQ k' ds (bZ n) 2→R k' (.agg ds)) :
 Cl k 211 #[.int .i64 (n:Int)] R:=by
 match n,hn with
 | 0,_=>exact aHu C
 | 1,_=>exact yV C
 | 2,_=>exact yW C
 | 3,_=>exact yX C
 | 4,_=>exact yY C
 | 5,_=>exact yZ C
 | 6,_=>exact aYr C
 | 7,_=>exact aYs C
 | 8,_=>exact aYt C
 | 9,_=>exact aYu C
 | 10,_=>exact aRj C
 | 11,_=>exact aRk C
 | 12,_=>exact aRl C
 | 13,_=>exact aRm C
 | 14,_=>exact aRn C
 | 15,_=>exact aRo C
 | 16,_=>exact aRp C
 | 17,_=>exact aRq C
 | 18,_=>exact aRr C
 | 19,_=>exact aRs C
 | 20,_=>exact aRu C
 | 21,_=>exact aRv C
 | 22,_=>exact aRw C
 | 23,_=>exact aRx C
 | n+24,h=>exact absurd h oq
theorem aZd {n:Int}(C:∀k' ds,Up k k'→WQ k' ds (aIm (plc n)) 2→R k' (.agg ds)) :
 Cl k 131 #[.int .i64 n] R:=by
 intro k0 u0;have hl:=aQr n;have e:Int.tmod (wrap .i64 ((plc n:Int)+18)) 24=(((plc n+18) % 24:Nat):Int):=by
  generalize plc n=m at hl ⊢;rw [qy,Int.tmod_eq_emod_of_nonneg oq];omega
 refine aRh ?_;rw [aQq,e];refine aSg hl fun k2 d2 u2 h2=>⟨d2,h2.seg,rfl,?_⟩;refine aSg (qf _ oz) fun k4 d4 u4 h4=>⟨d4,h4.seg,rfl,fun k5 u5=>?_⟩;exact C k5 _ (((u0.trans u2).trans u4).trans u5) ⟨d2,d4,rfl,(h2.up u4).up u5,h4.up u5⟩
end
end Go.Proofs.YtjgnlflbgmnfaaaGreat.W32

namespace Go.Proofs.YtjgnlflbgmnfaaaGreat
open Go.RowKit Num Plain W32
open Sy (Up Sees CallsG Seg)
section
variable {k k':World}{R:World→Value→Prop}{K L:Nat}{cs cs':Array Value}{x y:W4}{v v':Q4}
theorem sC (x:W4) (j:Nat):hi x (j+1)=if 0<sgd (fAt x (j+1)) (hi x j).2 then (j+1,fAt x (j+1)) else hi x j:=rfl
theorem aYv (hx:WQ k cs x K) (hK:K≤5000) (C:∀k' ds,Up k k'→SQ k' ds (hi x 23).2 (8*K+61)→R k' (.tuple #[.int .i64 ((hi x 23).1:Int),.agg ds])) :
 Cl k 45 #[.agg cs] R:=by
 intro k0 u0;replace hx:=hx.up u0;replace C:=fun k' ds u=>C k' ds (u0.trans u);have hx':=hx;obtain⟨xa,xb,rfl,ha,hb⟩:=hx';refine aRf ha.seg hb.seg ⟨fun m k' vs=>∃j c,j+m=23∧vs=[.int .i64 ((hi x j).1:Int),.int .i64 ((j+1:Nat):Int),.agg c]∧SQ k' c (hi x j).2 (8*K+61),⟨23,fun k' u=>⟨0,_,rfl,rfl,(ha.up u).mono oq⟩⟩,?_⟩;rintro m k1 vs u1 ⟨j,c,hj,rfl,hc⟩;refine⟨_,_,c,hc.seg,rfl,fun hlt=>?_,fun hge=>?_⟩
 ·have hlt:=ow hlt;have hlt:j+1<24:=oq
  refine aZd fun k2 d2 u2 hT=>?_;rw [aCi hlt]at hT;have hT':=hT;obtain⟨ta,tb,rfl,hta,htb⟩:=hT';refine⟨ta,hta.seg,tb,htb.seg,rfl,?_⟩;refine bDm ((hx.up u1).up u2) hT oq fun k3 d3 u3 h3=>?_;obtain⟨ma,mb,rfl,hma,hmb⟩:=h3;refine⟨ma,hma.seg,mb,hmb.seg,rfl,?_⟩;have hma:SQ k3 ma (fAt x (j+1)) (8*K+61):=hma.mono oq;refine bDe hma ((hc.up u2).up u3) oq fun k4 u4=>⟨_,rfl,fun hd=>?_,fun hd=>?_⟩
  ·have hd:0<sgd (fAt x (j+1)) (hi x j).2:=ow hd;refine fun k5 u5=>⟨m-1,oq,j+1,ma,oq,?_,?_⟩
   ·rw [sC,od hd,sN oq]
   ·rw [sC,od hd];exact (hma.up u4).up u5
  ·have hd:¬ (0<sgd (fAt x (j+1)) (hi x j).2):=ov hd;refine fun k5 u5=>⟨m-1,oq,j+1,c,oq,?_,?_⟩
   ·rw [sC,oh hd,sN oq]
   ·rw [sC,oh hd];exact ((((hc.up u2).up u3).up u4).up u5)
 ·have hge:=ov hge;have e:j=23:=oq
  subst e;exact fun k2 u2=>C k2 c (u1.trans u2) (hc.up u2)
end
open Value (agg slice int bool tuple)
open Sy (Up Sees CallsG Seg execFn_use)
set_option maxRecDepth 100000
variable {k:World}{R:World→Value→Prop}{cs0 cs1:Array Value}{n0 n1 n2 n3 n4 n5 n6 n7 n8 n9 n10 n11 n12 n13 n14 n15:Int}
theorem aNi (hcs0:Seg 9 cs0) (hcs1:Seg 9 cs1)
 (h:Cl k 39 #[agg cs0] fun k1 r0=>∃n2:Nat,some (Value.float .f64 n2)=some r0∧
 Cl k1 39 #[agg cs1] fun k3 r2=>∃n3:Nat,some (Value.float .f64 n3)=some r2∧
 Rt R k3 (Value.complex .f64 n2 n3)) :
  CallsG Tryz.prog 46 #[agg (cs0.toList++(cs1.toList++([]))).toArray] k R:=
  qX { opq:=[63] } [.agg [.seg 0 9,.seg 1 9]] [agg cs0,agg cs1] [.seg 9,.seg 9] ⟨⟨cs0,rfl,hcs0⟩,⟨cs1,rfl,hcs1⟩,trivial⟩ h
theorem aDj (hcs0:Seg 9 cs0) (hcs1:Seg 9 cs1)
 (h:Cl k 88 #[] fun k1 r0=>Gt 3 r0 fun cs2=>
 Cl k1 125 #[agg cs0,agg cs2] fun k3 r2=>∃n3:Nat,some (Value.float .f64 n3)=some r2∧
 (Sy.f2fOk .f64 .f32 n3)=true∧
 (Cl k3 88 #[] fun k5 r4=>Gt 3 r4 fun cs4=>
 Cl k5 125 #[agg cs1,agg cs4] fun k7 r6=>∃n5:Nat,some (Value.float .f64 n5)=some r6∧
 (Sy.f2fOk .f64 .f32 n5)=true∧
 (Rt R k7 (Value.complex .f32 (Sy.f2f .f64 .f32 n3) (Sy.f2f .f64 .f32 n5))))) :
   CallsG Tryz.prog 48 #[agg (cs0.toList++(cs1.toList++([]))).toArray] k R:=
  qX { opq:=[63,181] } [.agg [.seg 0 9,.seg 1 9]] [agg cs0,agg cs1] [.seg 9,.seg 9] ⟨⟨cs0,rfl,hcs0⟩,⟨cs1,rfl,hcs1⟩,trivial⟩ h
theorem aMp (hcs0:Seg 12 cs0) (hcs1:Seg 12 cs1)
 (h:Cl k 40 #[agg cs0] fun k1 r0=>∃n2:Nat,some (Value.float .f64 n2)=some r0∧
 Cl k1 40 #[agg cs1] fun k3 r2=>∃n3:Nat,some (Value.float .f64 n3)=some r2∧
 Rt R k3 (Value.complex .f64 n2 n3)) :
  CallsG Tryz.prog 47 #[agg (cs0.toList++(cs1.toList++([]))).toArray] k R:=
  qX { opq:=[68] } [.agg [.seg 0 12,.seg 1 12]] [agg cs0,agg cs1] [.seg 12,.seg 12] ⟨⟨cs0,rfl,hcs0⟩,⟨cs1,rfl,hcs1⟩,trivial⟩ h
theorem aCp (hcs0:Seg 12 cs0) (hcs1:Seg 12 cs1)
 (h:Cl k 126 #[agg cs0,int .i64 24,int .i64 (-149),int .i64 127] fun k1 r0=>∃n2:Nat,some (Value.float .f64 n2)=some r0∧
 (Sy.f2fOk .f64 .f32 n2)=true∧
 (Cl k1 126 #[agg cs1,int .i64 24,int .i64 (-149),int .i64 127] fun k3 r2=>∃n3:Nat,some (Value.float .f64 n3)=some r2∧
 (Sy.f2fOk .f64 .f32 n3)=true∧
 (Rt R k3 (Value.complex .f32 (Sy.f2f .f64 .f32 n2) (Sy.f2f .f64 .f32 n3))))) :
   CallsG Tryz.prog 49 #[agg (cs0.toList++(cs1.toList++([]))).toArray] k R:=
  qX { opq:=[68] } [.agg [.seg 0 12,.seg 1 12]] [agg cs0,agg cs1] [.seg 12,.seg 12] ⟨⟨cs0,rfl,hcs0⟩,⟨cs1,rfl,hcs1⟩,trivial⟩ h
theorem aEg {n0:Nat}{n1:Nat}
 (h:Rt R k (bool ((((n0:Nat):Int):Int) == ((n1:Nat):Int)))) :
 CallsG Tryz.prog 50 #[Value.float .f32 n0,Value.float .f32 n1] k R:=
 qX { opq:=[] } [.one (.var 0),.one (.var 1)] [Value.float .f32 n0,Value.float .f32 n1] [.flt .f32,.flt .f32] ⟨⟨_,rfl⟩,⟨_,rfl⟩,trivial⟩ h
theorem aKa 
 (h:Cl k 10 #[] fun k1 r0=>Gb r0 fun b16=>
 Br (!b16) (Cl k1 10 #[] fun k3 r2=>Gb r2 fun b17=>
 Rt R k3 (bool b17)) (Cl k1 41 #[agg #[int .i64 n0,int .i64 n1,int .i64 n2,int .i64 n3,int .i64 n4,int .i64 n5,int .i64 n6,int .i64 n7,int .i64 n8,int .i64 n9,int .i64 n10,int .i64 n11,int .i64 n12,int .i64 n13,int .i64 n14,int .i64 n15]] fun k6 r5=>Gb r5 fun b17=>
 Br (!b17) (Cl k6 10 #[] fun k8 r7=>Gb r7 fun b18=>
 Rt R k8 (bool b18)) (Cl k6 42 #[agg #[int .i64 n0,int .i64 n1,int .i64 n2,int .i64 n3,int .i64 n4,int .i64 n5,int .i64 n6,int .i64 n7,int .i64 n8,int .i64 n9,int .i64 n10,int .i64 n11,int .i64 n12,int .i64 n13,int .i64 n14,int .i64 n15]] fun k11 r10=>∃cs18,Seg 9 cs18∧∃cs19,Seg 9 cs19∧some (agg (cs18.toList++(cs19.toList++([]))).toArray)=some r10∧
 Cl k11 43 #[agg #[int .i64 n0,int .i64 n1,int .i64 n2,int .i64 n3,int .i64 n4,int .i64 n5,int .i64 n6,int .i64 n7,int .i64 n8,int .i64 n9,int .i64 n10,int .i64 n11,int .i64 n12,int .i64 n13,int .i64 n14,int .i64 n15]] fun k13 r12=>∃cs20,Seg 12 cs20∧∃cs21,Seg 12 cs21∧some (agg (cs20.toList++(cs21.toList++([]))).toArray)=some r12∧
 Cl k13 44 #[agg (cs18.toList++(cs19.toList++([]))).toArray] fun k15 r14=>∃n22,∃cs23,Seg 9 cs23∧some (tuple #[int .i64 n22,agg cs23])=some r14∧
 Cl k15 45 #[agg (cs20.toList++(cs21.toList++([]))).toArray] fun k17 r16=>∃n24,∃cs25,Seg 12 cs25∧some (tuple #[int .i64 n24,agg cs25])=some r16∧
 Cl k17 46 #[agg (cs18.toList++(cs19.toList++([]))).toArray] fun k19 r18=>∃n26 m26:Nat,some (Value.complex .f64 n26 m26)=some r18∧
 Cl k19 47 #[agg (cs20.toList++(cs21.toList++([]))).toArray] fun k21 r20=>∃n27 m27:Nat,some (Value.complex .f64 n27 m27)=some r20∧
 Cl k21 48 #[agg (cs18.toList++(cs19.toList++([]))).toArray] fun k23 r22=>∃n28 m28:Nat,some (Value.complex .f32 n28 m28)=some r22∧
 Cl k23 49 #[agg (cs20.toList++(cs21.toList++([]))).toArray] fun k25 r24=>∃n29 m29:Nat,some (Value.complex .f32 n29 m29)=some r24∧
 Br ((n22:Int) == n24) (Cl k25 36 #[agg cs23,agg cs25] fun k27 r26=>Gb r26 fun b30=>
 Br b30 (Cl k27 12 #[Value.float .f64 n26,Value.float .f64 n27] fun k29 r28=>Gb r28 fun b31=>
 Br b31 (Cl k29 12 #[Value.float .f64 m26,Value.float .f64 m27] fun k31 r30=>Gb r30 fun b32=>
 Br b32 (Cl k31 50 #[Value.float .f32 n28,Value.float .f32 n29] fun k33 r32=>Gb r32 fun b33=>
 Br b33 (Cl k33 50 #[Value.float .f32 m28,Value.float .f32 m29] fun k35 r34=>Gb r34 fun b34=>
 Rt R k35 (bool b34)) (Rt R k33 (bool false))) (Rt R k31 (bool false))) (Rt R k29 (bool false))) (Rt R k27 (bool false))) (Rt R k25 (bool false))))) :
  CallsG Tryz.prog 6 #[agg #[int .i64 n0,int .i64 n1,int .i64 n2,int .i64 n3,int .i64 n4,int .i64 n5,int .i64 n6,int .i64 n7,int .i64 n8,int .i64 n9,int .i64 n10,int .i64 n11,int .i64 n12,int .i64 n13,int .i64 n14,int .i64 n15]] k R:=
  qY { opq:=[63,68] } h
end Go.Proofs.YtjgnlflbgmnfaaaGreat

namespace Go.Proofs.YtjgnlflbgmnfaaaGreat
open Go.RowKit Num Plain W32 Ieee FT
open Sy (Up Sees CallsG Seg)
section
variable {k k':World}{R:World→Value→Prop}{x q:Rat}{K L:Nat}{cs cs':Array Value}{v:Q4}{w:W4}
theorem oR {W:Nat}(h:Near4 v 24 (-149) 128 W):Sy.f2fOk .f64 .f32 W=true:=by
 obtain⟨lo,hi,_,_,rfl,_⟩:=h;exact (aKm lo.den_nz).1
def aGm (w:W4) (bits:Nat) (least beyond:Int) (a b:Nat):Prop:=Near4 w.re bits least beyond a∧Near4 w.im bits least beyond b
theorem aVj (hx:WaveV k cs w K) (hK1:1≤K) (hK:K≤500) (C:∀k' a b,Up k k'→aGm w 53 (-1074) 1024 a b→R k' (.complex .f64 a b)) :
 Cl k 46 #[.agg cs] R:=by
 intro k0 u0;obtain⟨c0,c1,rfl,h0,h1⟩:=hx.up u0;refine aNi h0.seg h1.seg ?_;refine aDi h0 hK1 hK fun k1 a u1 ha=>⟨_,rfl,?_⟩;refine aDi (h1.up u1) hK1 hK fun k3 b u3 hb=>⟨_,rfl,fun k4 u4=>?_⟩;exact C k4 a b (u0.trans (u1.trans (u3.trans u4))) ⟨ha,hb⟩
theorem aGl (hx:WaveV k cs w K) (hK1:1≤K) (hK:K≤500) (C:∀k' a b,Up k k'→aGm w 24 (-149) 128 a b→R k' (.complex .f32 (Sy.f2f .f64 .f32 a) (Sy.f2f .f64 .f32 b))) :
 Cl k 48 #[.agg cs] R:=by
 intro k0 u0;obtain⟨c0,c1,rfl,h0,h1⟩:=hx.up u0;refine aDj h0.seg h1.seg ?_;refine fun k1 u1=>xL fun k2 u2=>⟨_,⟨rfl,by simp [Value.scalar,Value.noWord]⟩,rfl,?_⟩;refine vD (bits:=24) gY oz (h0.up (u1.trans u2)) hK1 hK fun k3 a u3 ha=>⟨_,rfl,oR ha,?_⟩;refine fun k5 u5=>xL fun k6 u6=>⟨_,⟨rfl,by simp [Value.scalar,Value.noWord]⟩,rfl,?_⟩;refine vD (bits:=24) gY oz (h1.up (u1.trans (u2.trans (u3.trans (u5.trans u6))))) hK1 hK fun k7 b u7 hb=>⟨_,rfl,oR hb,fun k8 u8=>?_⟩;exact C k8 a b (u0.trans (u1.trans (u2.trans (u3.trans (u5.trans (u6.trans (u7.trans u8))))))) ⟨ha,hb⟩
theorem aSx (hx:WQ k cs w (2*K)) (h0:Bel w.re (B64^K)) (h1:Bel w.im (B64^K)) (hK:K≤200) (C:∀k' a b,Up k k'→aGm w 53 (-1074) 1024 a b→R k' (.complex .f64 a b)) :
 Cl k 47 #[.agg cs] R:=by
 intro k0 u0;obtain⟨c0,c1,rfl,q0,q1⟩:=hx.up u0;refine aMp q0.seg q1.seg ?_;refine aCk q0 h0 hK fun k1 a u1 ha=>⟨_,rfl,?_⟩;refine aCk (q1.up u1) h1 hK fun k3 b u3 hb=>⟨_,rfl,fun k4 u4=>?_⟩;exact C k4 a b (u0.trans (u1.trans (u3.trans u4))) ⟨ha,hb⟩
theorem aFp (hx:WQ k cs w (2*K)) (h0:Bel w.re (B64^K)) (h1:Bel w.im (B64^K)) (hK:K≤200) (C:∀k' a b,Up k k'→aGm w 24 (-149) 128 a b→R k' (.complex .f32 (Sy.f2f .f64 .f32 a) (Sy.f2f .f64 .f32 b))) :
 Cl k 49 #[.agg cs] R:=by
 intro k0 u0;obtain⟨c0,c1,rfl,q0,q1⟩:=hx.up u0;refine aCp q0.seg q1.seg ?_;refine uN (bits:=24) (top:=127) gY q0 h0 hK oz oz oz oz oz oz oz fun k1 a u1 ha=>⟨_,rfl,oR ha,?_⟩;refine uN (bits:=24) (top:=127) gY (q1.up u1) h1 hK oz oz oz oz oz oz oz fun k3 b u3 hb=>⟨_,rfl,oR hb,fun k4 u4=>?_⟩;exact C k4 a b (u0.trans (u1.trans (u3.trans u4))) ⟨ha,hb⟩
theorem aCq {a b:Nat}(h:a=b) (C:∀k',Up k k'→R k' (.bool true)):Cl k 50 #[.float .f32 a,.float .f32 b] R:=
 fun _ u0=>aEg fun k1 u1=>by
  rw [h,show (((((b:Nat):Int):Int) == ((b:Nat):Int)))=true from beq_self_eq_true _];exact C k1 (u0.trans u1)
set_option maxRecDepth 100000 in
theorem aXh {n0 n1 n2 n3 n4 n5 n6 n7 n8 n9 n10 n11 n12 n13 n14 n15:Int}(i0:In64 n0) (i1:In64 n1) (i2:In64 n2) (i3:In64 n3) (i4:In64 n4) (i5:In64 n5) (i6:In64 n6) (i7:In64 n7) (i8:In64 n8) (i9:In64 n9) (i10:In64 n10) (i11:In64 n11) (i12:In64 n12) (i13:In64 n13) (i14:In64 n14) (i15:In64 n15)
 (C:∀k',Up k k'→R k' (.bool true)) :
 Cl k 6 #[.agg #[.int .i64 n0,.int .i64 n1,.int .i64 n2,.int .i64 n3,.int .i64 n4,.int .i64 n5,.int .i64 n6,.int .i64 n7,.int .i64 n8,.int .i64 n9,.int .i64 n10,.int .i64 n11,.int .i64 n12,.int .i64 n13,.int .i64 n14,.int .i64 n15]] R:=by
 intro k0 u0;replace C:=fun k' u=>C k' (u0.trans u);clear u0;refine aKa (aGp fun k1 u1=>⟨_,rfl,fun h=>(nomatch h),fun _=>?_⟩)
 refine aCz fun k6 b6 u6=>⟨_,rfl,fun _=>?_,fun _=>?_⟩
 ·exact aGp fun k8 u8=>⟨_,rfl,fun k9 u9=>C k9 (u1.trans (u6.trans (u8.trans u9)))⟩
 refine aNl i0 i1 i2 i3 i4 i5 i6 i7 i8 i9 i10 i11 i12 i13 i14 i15 fun k11 d11 u11 hX=>?_;have hX':=hX;obtain⟨c18,c19,rfl,g18,g19⟩:=hX';refine⟨c18,g18.seg,c19,g19.seg,rfl,?_⟩;refine aNf i0 i1 i2 i3 i4 i5 i6 i7 i8 i9 i10 i11 i12 i13 i14 i15 fun k13 d13 u13 hP=>?_;have hP':=hP;obtain⟨c20,c21,rfl,g20,g21⟩:=hP';refine⟨c20,g20.seg,c21,g21.seg,rfl,?_⟩;have v13:=u1.trans (u6.trans (u11.trans u13));replace C:=fun k' u=>C k' (v13.trans u);replace hX:=hX.up u13;have hB:=hX.bel oz;have hQ:=hP.mono (L:=2*6) oz;generalize (⟨⟨ofQ n0 n1,ofQ n2 n3,ofQ n4 n5,ofQ n6 n7⟩,⟨ofQ n8 n9,ofQ n10 n11,ofQ n12 n13,ofQ n14 n15⟩⟩:W4)=w at *
 clear v13 u1 u6 u11 u13 g18 g19 g20 g21;refine bCm hX oz oz fun k15 d15 u15 s15=>⟨_,d15,s15.seg,rfl,?_⟩;refine aYv (hP.up u15) oz fun k17 d17 u17 s17=>⟨_,d17,s17.seg,rfl,?_⟩;have v17:=u15.trans u17;refine aVj (hX.up v17) oz oz fun k19 a b u19 hN=>⟨_,_,rfl,?_⟩;refine aSx (hQ.up (v17.trans u19)) hB.1 hB.2 oz fun k21 a' b' u21 hN'=>⟨_,_,rfl,?_⟩;have v21:=v17.trans (u19.trans u21);refine aGl (hX.up v21) oz oz fun k23 c d u23 hM=>⟨_,_,rfl,?_⟩;refine aFp (hQ.up (v21.trans u23)) hB.1 hB.2 oz fun k25 c' d' u25 hM'=>⟨_,_,rfl,?_⟩;have v25:=u17.trans (u19.trans (u21.trans (u23.trans u25)));refine⟨fun _=>?_,fun h=>?_⟩
 ·refine aPd (s15.up v25) oz oz (s17.up (u19.trans (u21.trans (u23.trans u25)))) oz fun k27 u27=>⟨_,rfl,fun _=>?_,fun h=>(nomatch h)⟩
  refine aIa (Near4.unique oI hN.1 hN'.1) fun k29 u29=>⟨_,rfl,fun _=>?_,fun h=>(nomatch h)⟩
  refine aIa (Near4.unique oI hN.2 hN'.2) fun k31 u31=>⟨_,rfl,fun _=>?_,fun h=>(nomatch h)⟩
  refine aCq (by rw [Near4.unique gY hM.1 hM'.1]) fun k33 u33=>⟨_,rfl,fun _=>?_,fun h=>(nomatch h)⟩
  exact aCq (by rw [Near4.unique gY hM.2 hM'.2]) fun k35 u35=>⟨_,rfl,fun k36 u36=>C k36 (u15.trans (v25.trans (u27.trans (u29.trans (u31.trans (u33.trans (u35.trans u36)))))))⟩
 ·rw [beq_self_eq_true]at h;cases h
end
