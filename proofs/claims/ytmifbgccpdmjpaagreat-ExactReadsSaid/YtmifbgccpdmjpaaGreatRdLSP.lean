/- Several texts in one. (Printed by prep.py.) -/
import Derived.Test.YtmifbgccpdmjpaaGreatRdPX
import Derived.Test.YtmifbgccpdmjpaaGreatRdLW
namespace Go.Proofs.YtmifbgccpdmjpaaGreat
open IntKind (wrap)
open Go.RowKit
open Value (agg slice int bool tuple)
open Sy (Up Sees CallsG Seg execFn_use)
set_option maxRecDepth 100000
variable {k:World}{R:World→Value→Prop}{s0 s1:ByteArray}{n1 n2 n3 n4 n5 n6 n7 n8:Int}
theorem aCp 
 (h:Cl k 79 #[int .i64 0] fun k1 r0=>Gt 3 r0 fun cs1=>
 Cl k1 78 #[agg cs1] fun k3 r2=>∃cs2,Seg 3 cs2∧∃cs3,Seg 3 cs3∧∃cs4,Seg 3 cs4∧∃cs5,Seg 3 cs5∧some (Rg cs2 cs3 cs4 cs5)=some r2∧
 Tt∧(Br (decide (((ByteArray.size s0:Nat):Int) > 4096)) (Rt R k3 (tuple #[Rg cs2 cs3 cs4 cs5,int .i64 4])) (∃I5:Nat→World→List Value→Prop,(∃m5,∀k5,Up k3 k5→I5 m5 k5 [int .i64 0,int .i64 1,Rg cs2 cs3 cs4 cs5])∧
 ∀m5 k5 vs5,Up k3 k5→I5 m5 k5 vs5→∃n6,∃n7,∃cs8,Seg 12 cs8∧some [int .i64 n6,int .i64 n7,agg cs8]=some vs5∧
 Tt∧(Br (decide ((n7:Int)≤(ByteArray.size s0:Nat))) (∃J6:World→List Value→Prop,(Tt∧(Br (decide ((n7:Int)<(ByteArray.size s0:Nat))) ((decide ((0:Int)≤n7∧(n7:Int)<(ByteArray.size s0:Nat)))=true∧
 (Br (((UInt8.toNat (((s0:ByteArray)[Int.toNat n7]?).getD 0):Nat):Int) != 43) ((decide ((0:Int)≤n7∧(n7:Int)<(ByteArray.size s0:Nat)))=true∧
 (∀k6,Up k5 k6→J6 k6 [bool (((UInt8.toNat (((s0:ByteArray)[Int.toNat n7]?).getD 0):Nat):Int) != 45)])) (∀k7,Up k5 k7→J6 k7 [bool false]))) (∀k8,Up k5 k8→J6 k8 [bool false])))∧
 ∀k9 vs9,Up k5 k9→J6 k9 vs9→∃b9,some [bool b9]=some vs9∧
 Br b9 (∀k10,Up k9 k10→∃m,m<m5∧I5 m k10 [int .i64 n6,int .i64 (wrap .i64 (n7+1)),agg cs8]) (∃J11:World→List Value→Prop,((decide ((0:Int)≤n6))=true∧
 ((decide ((n6:Int)≤n7))=true∧
 ((decide ((n7:Int)≤(ByteArray.size s0:Nat)))=true∧
 (∀k11,Up k9 k11→J11 k11 [Value.string (ByteArray.extract s0 (Int.toNat n6) (Int.toNat n7))]))))∧
 ∀k12 vs12,Up k9 k12→J11 k12 vs12→∃s10,some [Value.string s10]=some vs12∧
 (decide ((0:Int)≤0∧(0:Int)<(ByteArray.size s10:Nat)))=true∧
 (Br (((UInt8.toNat (((s10:ByteArray)[Int.toNat 0]?).getD 0):Nat):Int) == 43) (∃J13:World→List Value→Prop,((decide ((1:Int)≤(ByteArray.size s10:Nat)))=true∧
 ((decide (((ByteArray.size s10:Nat):Int)≤(ByteArray.size s10:Nat)))=true∧
 (∀k13,Up k12 k13→J13 k13 [Value.string (ByteArray.extract s10 (Int.toNat 1) (Int.toNat (ByteArray.size s10:Nat)))])))∧
 ∀k14 vs14,Up k12 k14→J13 k14 vs14→∃s11,some [Value.string s11]=some vs14∧
 Tt∧(∃J15:World→List Value→Prop,(Br (decide (((ByteArray.size s11:Nat):Int) > 2)) ((decide ((0:Int)≤(wrap .i64 ((ByteArray.size s11:Nat)-2))∧((wrap .i64 ((ByteArray.size s11:Nat)-2)):Int)<(ByteArray.size s11:Nat)))=true∧
 (∀k15,Up k14 k15→J15 k15 [bool (((UInt8.toNat (((s11:ByteArray)[Int.toNat (wrap .i64 ((ByteArray.size s11:Nat)-2))]?).getD 0):Nat):Int) == 114)])) (∀k16,Up k14 k16→J15 k16 [bool false]))∧
 ∀k17 vs17,Up k14 k17→J15 k17 vs17→∃b12,some [bool b12]=some vs17∧
 Br b12 ((decide ((0:Int)≤(wrap .i64 ((ByteArray.size s11:Nat)-1))∧((wrap .i64 ((ByteArray.size s11:Nat)-1)):Int)<(ByteArray.size s11:Nat)))=true∧
 (∃J18:World→List Value→Prop,(Br (((UInt8.toNat (((s11:ByteArray)[Int.toNat (wrap .i64 ((ByteArray.size s11:Nat)-1))]?).getD 0):Nat):Int) == 50) (∀k18,Up k17 k18→J18 k18 [int .i64 1]) (Br (((UInt8.toNat (((s11:ByteArray)[Int.toNat (wrap .i64 ((ByteArray.size s11:Nat)-1))]?).getD 0):Nat):Int) == 51) (∀k19,Up k17 k19→J18 k19 [int .i64 2]) (Br (((UInt8.toNat (((s11:ByteArray)[Int.toNat (wrap .i64 ((ByteArray.size s11:Nat)-1))]?).getD 0):Nat):Int) == 54) (∀k20,Up k17 k20→J18 k20 [int .i64 3]) (∀k21,Up k17 k21→J18 k21 [int .i64 0]))))∧
 ∀k22 vs22,Up k17 k22→J18 k22 vs22→∃n13,some [int .i64 n13]=some vs22∧
 ∃J23:World→List Value→Prop,((decide ((0:Int)≤(wrap .i64 ((ByteArray.size s11:Nat)-2))))=true∧
 ((decide (((wrap .i64 ((ByteArray.size s11:Nat)-2)):Int)≤(ByteArray.size s11:Nat)))=true∧
 (∀k23,Up k22 k23→J23 k23 [Value.string (ByteArray.extract s11 (Int.toNat 0) (Int.toNat (wrap .i64 ((ByteArray.size s11:Nat)-2))))])))∧
 ∀k24 vs24,Up k22 k24→J23 k24 vs24→∃s14,some [Value.string s14]=some vs24∧
 Cl k24 108 #[Value.string s14] fun k26 r25=>∃cs15,Seg 3 cs15∧∃n16,some (tuple #[agg cs15,int .i64 n16])=some r25∧
 Br ((n16:Int) != 0) (Rt R k26 (tuple #[Rg cs2 cs3 cs4 cs5,int .i64 2])) ((decide ((0:Int)≤n13∧(n13:Int)<4))=true∧
 (Cl k26 109 #[agg (Sy.pickL cs8 (Int.toNat n13*3+0) 3).toArray,agg cs15] fun k29 r28=>Gt 3 r28 fun cs17=>
 (decide ((0:Int)≤n13∧(n13:Int)<4))=true∧
 (∀k30,Up k29 k30→∃m,m<m5∧I5 m k30 [int .i64 n7,int .i64 (wrap .i64 (n7+1)),agg (Sy.over cs8 (Int.toNat n13*3+0) cs17.toList)]))))) (Cl k17 108 #[Value.string s11] fun k32 r31=>∃cs13,Seg 3 cs13∧∃n14,some (tuple #[agg cs13,int .i64 n14])=some r31∧
 Br ((n14:Int) != 0) (Rt R k32 (tuple #[Rg cs2 cs3 cs4 cs5,int .i64 2])) (Cl k32 109 #[agg (Sy.pickL cs8 (Int.toNat 0*0+0) 3).toArray,agg cs13] fun k35 r34=>Gt 3 r34 fun cs15=>
 ∀k36,Up k35 k36→∃m,m<m5∧I5 m k36 [int .i64 n7,int .i64 (wrap .i64 (n7+1)),agg (cs15.toList++((Sy.pickL cs8 (Int.toNat 0*0+3) 9)++([]))).toArray])))) (Tt∧(∃J37:World→List Value→Prop,(Br (decide (((ByteArray.size s10:Nat):Int) > 2)) ((decide ((0:Int)≤(wrap .i64 ((ByteArray.size s10:Nat)-2))∧((wrap .i64 ((ByteArray.size s10:Nat)-2)):Int)<(ByteArray.size s10:Nat)))=true∧
 (∀k37,Up k12 k37→J37 k37 [bool (((UInt8.toNat (((s10:ByteArray)[Int.toNat (wrap .i64 ((ByteArray.size s10:Nat)-2))]?).getD 0):Nat):Int) == 114)])) (∀k38,Up k12 k38→J37 k38 [bool false]))∧
 ∀k39 vs39,Up k12 k39→J37 k39 vs39→∃b11,some [bool b11]=some vs39∧
 Br b11 ((decide ((0:Int)≤(wrap .i64 ((ByteArray.size s10:Nat)-1))∧((wrap .i64 ((ByteArray.size s10:Nat)-1)):Int)<(ByteArray.size s10:Nat)))=true∧
 (∃J40:World→List Value→Prop,(Br (((UInt8.toNat (((s10:ByteArray)[Int.toNat (wrap .i64 ((ByteArray.size s10:Nat)-1))]?).getD 0):Nat):Int) == 50) (∀k40,Up k39 k40→J40 k40 [int .i64 1]) (Br (((UInt8.toNat (((s10:ByteArray)[Int.toNat (wrap .i64 ((ByteArray.size s10:Nat)-1))]?).getD 0):Nat):Int) == 51) (∀k41,Up k39 k41→J40 k41 [int .i64 2]) (Br (((UInt8.toNat (((s10:ByteArray)[Int.toNat (wrap .i64 ((ByteArray.size s10:Nat)-1))]?).getD 0):Nat):Int) == 54) (∀k42,Up k39 k42→J40 k42 [int .i64 3]) (∀k43,Up k39 k43→J40 k43 [int .i64 0]))))∧
 ∀k44 vs44,Up k39 k44→J40 k44 vs44→∃n12,some [int .i64 n12]=some vs44∧
 ∃J45:World→List Value→Prop,((decide ((0:Int)≤(wrap .i64 ((ByteArray.size s10:Nat)-2))))=true∧
 ((decide (((wrap .i64 ((ByteArray.size s10:Nat)-2)):Int)≤(ByteArray.size s10:Nat)))=true∧
 (∀k45,Up k44 k45→J45 k45 [Value.string (ByteArray.extract s10 (Int.toNat 0) (Int.toNat (wrap .i64 ((ByteArray.size s10:Nat)-2))))])))∧
 ∀k46 vs46,Up k44 k46→J45 k46 vs46→∃s13,some [Value.string s13]=some vs46∧
 Cl k46 108 #[Value.string s13] fun k48 r47=>∃cs14,Seg 3 cs14∧∃n15,some (tuple #[agg cs14,int .i64 n15])=some r47∧
 Br ((n15:Int) != 0) (Rt R k48 (tuple #[Rg cs2 cs3 cs4 cs5,int .i64 2])) ((decide ((0:Int)≤n12∧(n12:Int)<4))=true∧
 (Cl k48 109 #[agg (Sy.pickL cs8 (Int.toNat n12*3+0) 3).toArray,agg cs14] fun k51 r50=>Gt 3 r50 fun cs16=>
 (decide ((0:Int)≤n12∧(n12:Int)<4))=true∧
 (∀k52,Up k51 k52→∃m,m<m5∧I5 m k52 [int .i64 n7,int .i64 (wrap .i64 (n7+1)),agg (Sy.over cs8 (Int.toNat n12*3+0) cs16.toList)]))))) (Cl k39 108 #[Value.string s10] fun k54 r53=>∃cs12,Seg 3 cs12∧∃n13,some (tuple #[agg cs12,int .i64 n13])=some r53∧
 Br ((n13:Int) != 0) (Rt R k54 (tuple #[Rg cs2 cs3 cs4 cs5,int .i64 2])) (Cl k54 109 #[agg (Sy.pickL cs8 (Int.toNat 0*0+0) 3).toArray,agg cs12] fun k57 r56=>Gt 3 r56 fun cs14=>
 ∀k58,Up k57 k58→∃m,m<m5∧I5 m k58 [int .i64 n7,int .i64 (wrap .i64 (n7+1)),agg (cs14.toList++((Sy.pickL cs8 (Int.toNat 0*0+3) 9)++([]))).toArray]))))))) (Cl k5 76 #[agg cs8] fun k60 r59=>∃s9,some (Value.string s9)=some r59∧
 Br (!(ByteArray.toList s9 == ByteArray.toList s0)) (Rt R k60 (tuple #[Rg cs2 cs3 cs4 cs5,int .i64 2])) (Rt R k60 (tuple #[agg cs8,int .i64 0]))))))) :
  CallsG Tryz.prog 39 #[Value.string s0] k R:=
  qX { opq:=[49],loops:=[(0,[.tmp 6 false [.int .i64],.tmp 7 false [.int .i64],.blk 2 [.seg 12]])],joins:=[(9,[.tmp 41 false [.bool]]),(10,[.tmp 8 false [.str]]),(13,[.tmp 8 false [.str]]),(16,[.tmp 62 false [.bool]]),(24,[.tmp 8 false [.str]])],meets:=[(2,[.tmp 9 false [.int .i64]])] } [.one (.var 0)] [Value.string s0] [.str] ⟨⟨_,rfl⟩,trivial⟩ h
theorem aQi 
 (h:Cl k 209 #[Value.string s0,Value.string s1] fun k1 r0=>∃s2,some (Value.string s2)=some r0∧
 Rt R k1 (Value.string s2)) :
  CallsG Tryz.prog 102 #[Value.string s0,Value.string s1] k R:=
  qX { opq:=[] } [.one (.var 0),.one (.var 1)] [Value.string s0,Value.string s1] [.str,.str] ⟨⟨_,rfl⟩,⟨_,rfl⟩,trivial⟩ h
theorem aQj 
 (h:Cl k 211 #[Value.string s0,Value.string s1] fun k1 r0=>∃s2,some (Value.string s2)=some r0∧
 Rt R k1 (Value.string s2)) :
  CallsG Tryz.prog 105 #[Value.string s0,Value.string s1] k R:=
  qX { opq:=[] } [.one (.var 0),.one (.var 1)] [Value.string s0,Value.string s1] [.str,.str] ⟨⟨_,rfl⟩,⟨_,rfl⟩,trivial⟩ h
theorem aOi 
 (h:Cl k 210 #[Value.string s0,Value.string s1] fun k1 r0=>Gb r0 fun b2=>
 Rt R k1 (bool b2)) :
  CallsG Tryz.prog 104 #[Value.string s0,Value.string s1] k R:=
  qX { opq:=[] } [.one (.var 0),.one (.var 1)] [Value.string s0,Value.string s1] [.str,.str] ⟨⟨_,rfl⟩,⟨_,rfl⟩,trivial⟩ h
theorem aDl 
 (h:Tt∧(Br (decide (((ByteArray.size s0:Nat):Int) > 4096)) (Rt R k (tuple #[agg #[bool false,slice none 0 0,bool false,slice none 0 0,bool false,slice none 0 0,bool false,slice none 0 0,slice none 0 0],int .i64 4])) (∃I1:Nat→World→List Value→Prop,(∃m1,∀k1,Up k k1→I1 m1 k1 [Value.string s0,agg #[bool false,slice none 0 0,slice none 0 0,bool false,slice none 0 0,slice none 0 0,bool false,slice none 0 0,slice none 0 0,bool false,slice none 0 0,slice none 0 0]])∧
 ∀m1 k1 vs1,Up k k1→I1 m1 k1 vs1→∃s1,∃cs2,Seg 12 cs2∧some [Value.string s1,agg cs2]=some vs1∧
 Br (!(ByteArray.toList s1 == ByteArray.toList ⟨#[]⟩)) ((decide ((1:Int)≤(ByteArray.size s1:Nat)))=true∧
 ((decide (((ByteArray.size s1:Nat):Int)≤(ByteArray.size s1:Nat)))=true∧
 (Cl k1 101 #[Value.string (ByteArray.extract s1 (Int.toNat 1) (Int.toNat (ByteArray.size s1:Nat))),Value.string ⟨#[43,45]⟩] fun k3 r2=>Gi r2 fun n3=>
 Br (((wrap .i64 (1+n3)):Int) == 0) (Tt∧((decide ((0:Int)≤(ByteArray.size s1:Nat)))=true∧
 ((decide (((ByteArray.size s1:Nat):Int)≤(ByteArray.size s1:Nat)))=true∧
 (Cl k3 102 #[Value.string (ByteArray.extract s1 (Int.toNat 0) (Int.toNat (ByteArray.size s1:Nat))),Value.string ⟨#[43]⟩] fun k5 r4=>∃s4,some (Value.string s4)=some r4∧
 (decide ((0:Int)≤(ByteArray.size s1:Nat)))=true∧
 ((decide (((ByteArray.size s1:Nat):Int)≤(ByteArray.size s1:Nat)))=true∧
 ((decide (((ByteArray.size s1:Nat):Int)≤(ByteArray.size s1:Nat)))=true∧
 (Cl k5 103 #[] fun k7 r6=>∃s5,∃s6,∃s7,∃s8,some (agg #[Value.string s5,Value.string s6,Value.string s7,Value.string s8])=some r6∧
 ∃J8:World→List Value→Prop,(∃M8:World→List Value→Prop,(Br (!(ByteArray.toList s5 == ByteArray.toList ⟨#[]⟩)) (Cl k7 104 #[Value.string s4,Value.string s5] fun k9 r8=>Gb r8 fun b9=>
 ∀k10,Up k9 k10→M8 k10 [bool b9]) (∀k11,Up k7 k11→M8 k11 [bool false]))∧
 ∀k12 vs12,Up k7 k12→M8 k12 vs12→∃b9,some [bool b9]=some vs12∧
 Br b9 (Cl k12 105 #[Value.string s4,Value.string s5] fun k14 r13=>∃s10,some (Value.string s10)=some r13∧
 ∀k15,Up k14 k15→J8 k15 [Value.string s10,int .i64 0]) (∃J16:World→List Value→Prop,(Br (!(ByteArray.toList s6 == ByteArray.toList ⟨#[]⟩)) (Cl k12 104 #[Value.string s4,Value.string s6] fun k17 r16=>Gb r16 fun b10=>
 ∀k18,Up k17 k18→J16 k18 [bool b10]) (∀k19,Up k12 k19→J16 k19 [bool false]))∧
 ∀k20 vs20,Up k12 k20→J16 k20 vs20→∃b10,some [bool b10]=some vs20∧
 Br b10 (Cl k20 105 #[Value.string s4,Value.string s6] fun k22 r21=>∃s11,some (Value.string s11)=some r21∧
 ∀k23,Up k22 k23→J8 k23 [Value.string s11,int .i64 1]) (∃J24:World→List Value→Prop,(Br (!(ByteArray.toList s7 == ByteArray.toList ⟨#[]⟩)) (Cl k20 104 #[Value.string s4,Value.string s7] fun k25 r24=>Gb r24 fun b11=>
 ∀k26,Up k25 k26→J24 k26 [bool b11]) (∀k27,Up k20 k27→J24 k27 [bool false]))∧
 ∀k28 vs28,Up k20 k28→J24 k28 vs28→∃b11,some [bool b11]=some vs28∧
 Br b11 (Cl k28 105 #[Value.string s4,Value.string s7] fun k30 r29=>∃s12,some (Value.string s12)=some r29∧
 ∀k31,Up k30 k31→J8 k31 [Value.string s12,int .i64 2]) (∃J32:World→List Value→Prop,(Br (!(ByteArray.toList s8 == ByteArray.toList ⟨#[]⟩)) (Cl k28 104 #[Value.string s4,Value.string s8] fun k33 r32=>Gb r32 fun b12=>
 ∀k34,Up k33 k34→J32 k34 [bool b12]) (∀k35,Up k28 k35→J32 k35 [bool false]))∧
 ∀k36 vs36,Up k28 k36→J32 k36 vs36→∃b12,some [bool b12]=some vs36∧
 Br b12 (Cl k36 105 #[Value.string s4,Value.string s8] fun k38 r37=>∃s13,some (Value.string s13)=some r37∧
 ∀k39,Up k38 k39→J8 k39 [Value.string s13,int .i64 3]) (∀k40,Up k36 k40→J8 k40 [Value.string s4,int .i64 0])))))∧
 ∀k41 vs41,Up k7 k41→J8 k41 vs41→∃s9,∃n10,some [Value.string s9,int .i64 n10]=some vs41∧
 Cl k41 106 #[Value.string s9] fun k43 r42=>∃cs11,Seg 3 cs11∧∃n12,some (tuple #[agg cs11,int .i64 n12])=some r42∧
 ∃J44:World→List Value→Prop,(Br ((n12:Int) != 0) (∀k44,Up k43 k44→J44 k44 [bool true]) ((decide ((0:Int)≤n10∧(n10:Int)<4))=true∧
 (Cl k43 107 #[agg (Sy.pickL cs2 (Int.toNat n10*3+0) 3).toArray] fun k46 r45=>Gb r45 fun b13=>
 ∀k47,Up k46 k47→J44 k47 [bool (!b13)])))∧
 ∀k48 vs48,Up k43 k48→J44 k48 vs48→∃b13,some [bool b13]=some vs48∧
 Br b13 (Rt R k48 (tuple #[agg #[bool false,slice none 0 0,bool false,slice none 0 0,bool false,slice none 0 0,bool false,slice none 0 0,slice none 0 0],int .i64 2])) ((decide ((0:Int)≤n10∧(n10:Int)<4))=true∧
 (∀k50,Up k48 k50→∃m,m<m1∧I1 m k50 [Value.string (ByteArray.extract s1 (Int.toNat (ByteArray.size s1:Nat)) (Int.toNat (ByteArray.size s1:Nat))),agg (Sy.over cs2 (Int.toNat n10*3+0) cs11.toList)]))))))))) ((decide ((0:Int)≤(wrap .i64 (1+n3))))=true∧
 ((decide (((wrap .i64 (1+n3)):Int)≤(ByteArray.size s1:Nat)))=true∧
 (Cl k3 102 #[Value.string (ByteArray.extract s1 (Int.toNat 0) (Int.toNat (wrap .i64 (1+n3)))),Value.string ⟨#[43]⟩] fun k52 r51=>∃s4,some (Value.string s4)=some r51∧
 (decide ((0:Int)≤(wrap .i64 (1+n3))))=true∧
 ((decide (((wrap .i64 (1+n3)):Int)≤(ByteArray.size s1:Nat)))=true∧
 ((decide (((ByteArray.size s1:Nat):Int)≤(ByteArray.size s1:Nat)))=true∧
 (Cl k52 103 #[] fun k54 r53=>∃s5,∃s6,∃s7,∃s8,some (agg #[Value.string s5,Value.string s6,Value.string s7,Value.string s8])=some r53∧
 ∃J55:World→List Value→Prop,(∃M55:World→List Value→Prop,(Br (!(ByteArray.toList s5 == ByteArray.toList ⟨#[]⟩)) (Cl k54 104 #[Value.string s4,Value.string s5] fun k56 r55=>Gb r55 fun b9=>
 ∀k57,Up k56 k57→M55 k57 [bool b9]) (∀k58,Up k54 k58→M55 k58 [bool false]))∧
 ∀k59 vs59,Up k54 k59→M55 k59 vs59→∃b9,some [bool b9]=some vs59∧
 Br b9 (Cl k59 105 #[Value.string s4,Value.string s5] fun k61 r60=>∃s10,some (Value.string s10)=some r60∧
 ∀k62,Up k61 k62→J55 k62 [Value.string s10,int .i64 0]) (∃J63:World→List Value→Prop,(Br (!(ByteArray.toList s6 == ByteArray.toList ⟨#[]⟩)) (Cl k59 104 #[Value.string s4,Value.string s6] fun k64 r63=>Gb r63 fun b10=>
 ∀k65,Up k64 k65→J63 k65 [bool b10]) (∀k66,Up k59 k66→J63 k66 [bool false]))∧
 ∀k67 vs67,Up k59 k67→J63 k67 vs67→∃b10,some [bool b10]=some vs67∧
 Br b10 (Cl k67 105 #[Value.string s4,Value.string s6] fun k69 r68=>∃s11,some (Value.string s11)=some r68∧
 ∀k70,Up k69 k70→J55 k70 [Value.string s11,int .i64 1]) (∃J71:World→List Value→Prop,(Br (!(ByteArray.toList s7 == ByteArray.toList ⟨#[]⟩)) (Cl k67 104 #[Value.string s4,Value.string s7] fun k72 r71=>Gb r71 fun b11=>
 ∀k73,Up k72 k73→J71 k73 [bool b11]) (∀k74,Up k67 k74→J71 k74 [bool false]))∧
 ∀k75 vs75,Up k67 k75→J71 k75 vs75→∃b11,some [bool b11]=some vs75∧
 Br b11 (Cl k75 105 #[Value.string s4,Value.string s7] fun k77 r76=>∃s12,some (Value.string s12)=some r76∧
 ∀k78,Up k77 k78→J55 k78 [Value.string s12,int .i64 2]) (∃J79:World→List Value→Prop,(Br (!(ByteArray.toList s8 == ByteArray.toList ⟨#[]⟩)) (Cl k75 104 #[Value.string s4,Value.string s8] fun k80 r79=>Gb r79 fun b12=>
 ∀k81,Up k80 k81→J79 k81 [bool b12]) (∀k82,Up k75 k82→J79 k82 [bool false]))∧
 ∀k83 vs83,Up k75 k83→J79 k83 vs83→∃b12,some [bool b12]=some vs83∧
 Br b12 (Cl k83 105 #[Value.string s4,Value.string s8] fun k85 r84=>∃s13,some (Value.string s13)=some r84∧
 ∀k86,Up k85 k86→J55 k86 [Value.string s13,int .i64 3]) (∀k87,Up k83 k87→J55 k87 [Value.string s4,int .i64 0])))))∧
 ∀k88 vs88,Up k54 k88→J55 k88 vs88→∃s9,∃n10,some [Value.string s9,int .i64 n10]=some vs88∧
 Cl k88 106 #[Value.string s9] fun k90 r89=>∃cs11,Seg 3 cs11∧∃n12,some (tuple #[agg cs11,int .i64 n12])=some r89∧
 ∃J91:World→List Value→Prop,(Br ((n12:Int) != 0) (∀k91,Up k90 k91→J91 k91 [bool true]) ((decide ((0:Int)≤n10∧(n10:Int)<4))=true∧
 (Cl k90 107 #[agg (Sy.pickL cs2 (Int.toNat n10*3+0) 3).toArray] fun k93 r92=>Gb r92 fun b13=>
 ∀k94,Up k93 k94→J91 k94 [bool (!b13)])))∧
 ∀k95 vs95,Up k90 k95→J91 k95 vs95→∃b13,some [bool b13]=some vs95∧
 Br b13 (Rt R k95 (tuple #[agg #[bool false,slice none 0 0,bool false,slice none 0 0,bool false,slice none 0 0,bool false,slice none 0 0,slice none 0 0],int .i64 2])) ((decide ((0:Int)≤n10∧(n10:Int)<4))=true∧
 (∀k97,Up k95 k97→∃m,m<m1∧I1 m k97 [Value.string (ByteArray.extract s1 (Int.toNat (wrap .i64 (1+n3))) (Int.toNat (ByteArray.size s1:Nat))),agg (Sy.over cs2 (Int.toNat n10*3+0) cs11.toList)]))))))))))) (Cl k1 88 #[agg cs2] fun k99 r98=>Gt 9 r98 fun cs3=>
 Cl k99 40 #[agg cs3] fun k101 r100=>∃s4,some (Value.string s4)=some r100∧
 Br (ByteArray.toList s4 == ByteArray.toList s0) (Rt R k101 (tuple #[agg cs3,int .i64 0])) (Rt R k101 (tuple #[agg #[bool false,slice none 0 0,bool false,slice none 0 0,bool false,slice none 0 0,bool false,slice none 0 0,slice none 0 0],int .i64 2])))))) :
  CallsG Tryz.prog 38 #[Value.string s0] k R:=
  qX { opq:=[128,36],loops:=[(0,[.tmp 5 false [.str],.blk 1 [.seg 12]])],joins:=[(15,[.tmp 47 false [.bool]]),(19,[.tmp 66 false [.bool]])],meets:=[(2,[.tmp 7 false [.str],.tmp 8 false [.int .i64]])] } [.one (.var 0)] [Value.string s0] [.str] ⟨⟨_,rfl⟩,trivial⟩ h
theorem aGg 
 (h:Cl k 37 #[] fun k1 r0=>Gb r0 fun b9=>
 Br (!b9) (Cl k1 37 #[] fun k3 r2=>Gb r2 fun b10=>
 Rt R k3 (bool b10)) (Tt∧(Br (decide (((ByteArray.size s0:Nat):Int) > 5000)) (Cl k1 37 #[] fun k6 r5=>Gb r5 fun b10=>
 Rt R k6 (bool b10)) (Cl k1 38 #[Value.string s0] fun k9 r8=>∃cs10,Seg 9 cs10∧∃n11,some (tuple #[agg cs10,int .i64 n11])=some r8∧
 Cl k9 39 #[Value.string s0] fun k11 r10=>∃cs12,Seg 12 cs12∧∃n13,some (tuple #[agg cs12,int .i64 n13])=some r10∧
 Br ((n11:Int) != n13) (Rt R k11 (bool false)) (Cl k11 20 #[agg cs10,agg cs12] fun k14 r13=>Gb r13 fun b14=>
 Br (!b14) (Rt R k14 (bool false)) (Br ((n11:Int) == 0) (Cl k14 40 #[agg cs10] fun k17 r16=>∃s15,some (Value.string s15)=some r16∧
 Br (!(ByteArray.toList s15 == ByteArray.toList s0)) (Rt R k17 (bool false)) (Cl k17 28 #[agg #[int .i64 n1,int .i64 n2,int .i64 n3,int .i64 n4,int .i64 n5,int .i64 n6,int .i64 n7,int .i64 n8]] fun k20 r19=>Gt 9 r19 fun cs16=>
 Cl k20 40 #[agg cs16] fun k22 r21=>∃s17,some (Value.string s17)=some r21∧
 Cl k22 38 #[Value.string s17] fun k24 r23=>∃cs18,Seg 9 cs18∧∃n19,some (tuple #[agg cs18,int .i64 n19])=some r23∧
 Br ((n19:Int) == 0) (Cl k24 41 #[agg cs18,agg cs16] fun k26 r25=>Gb r25 fun b20=>
 Rt R k26 (bool b20)) (Rt R k24 (bool false)))) (Cl k14 28 #[agg #[int .i64 n1,int .i64 n2,int .i64 n3,int .i64 n4,int .i64 n5,int .i64 n6,int .i64 n7,int .i64 n8]] fun k30 r29=>Gt 9 r29 fun cs15=>
 Cl k30 40 #[agg cs15] fun k32 r31=>∃s16,some (Value.string s16)=some r31∧
 Cl k32 38 #[Value.string s16] fun k34 r33=>∃cs17,Seg 9 cs17∧∃n18,some (tuple #[agg cs17,int .i64 n18])=some r33∧
 Br ((n18:Int) == 0) (Cl k34 41 #[agg cs17,agg cs15] fun k36 r35=>Gb r35 fun b19=>
 Rt R k36 (bool b19)) (Rt R k34 (bool false))))))))) :
  CallsG Tryz.prog 6 #[Value.string s0,agg #[int .i64 n1,int .i64 n2,int .i64 n3,int .i64 n4,int .i64 n5,int .i64 n6,int .i64 n7,int .i64 n8]] k R:=
  qX { opq:=[128,36,49,51] } [.one (.var 0),.agg (qV 1 8)] [Value.string s0,int .i64 n1,int .i64 n2,int .i64 n3,int .i64 n4,int .i64 n5,int .i64 n6,int .i64 n7,int .i64 n8] [.str,.int .i64,.int .i64,.int .i64,.int .i64,.int .i64,.int .i64,.int .i64,.int .i64] ⟨⟨_,rfl⟩,⟨_,rfl⟩,⟨_,rfl⟩,⟨_,rfl⟩,⟨_,rfl⟩,⟨_,rfl⟩,⟨_,rfl⟩,⟨_,rfl⟩,⟨_,rfl⟩,trivial⟩ h
theorem aPv 
 (h:Tt∧(Tt∧(Br (decide (((ByteArray.size s0:Nat):Int) ≥ (ByteArray.size s1:Nat))) (Tt∧((decide ((0:Int)≤(ByteArray.size s1:Nat)))=true∧
 ((decide (((ByteArray.size s1:Nat):Int)≤(ByteArray.size s0:Nat)))=true∧
 (Rt R k (bool (ByteArray.toList (ByteArray.extract s0 (Int.toNat 0) (Int.toNat (ByteArray.size s1:Nat))) == ByteArray.toList s1)))))) (Rt R k (bool false))))) :
   CallsG Tryz.prog 321 #[Value.string s0,Value.string s1] k R:=
  qX { opq:=[] } [.one (.var 0),.one (.var 1)] [Value.string s0,Value.string s1] [.str,.str] ⟨⟨_,rfl⟩,⟨_,rfl⟩,trivial⟩ h
theorem aPw 
 (h:Tt∧(Tt∧(Br (decide (((ByteArray.size s0:Nat):Int) ≥ (ByteArray.size s1:Nat))) (Tt∧(Tt∧((decide ((0:Int)≤(wrap .i64 ((ByteArray.size s0:Nat)-(ByteArray.size s1:Nat)))))=true∧
 ((decide (((wrap .i64 ((ByteArray.size s0:Nat)-(ByteArray.size s1:Nat))):Int)≤(ByteArray.size s0:Nat)))=true∧
 ((decide (((ByteArray.size s0:Nat):Int)≤(ByteArray.size s0:Nat)))=true∧
 (Rt R k (bool (ByteArray.toList (ByteArray.extract s0 (Int.toNat (wrap .i64 ((ByteArray.size s0:Nat)-(ByteArray.size s1:Nat)))) (Int.toNat (ByteArray.size s0:Nat))) == ByteArray.toList s1)))))))) (Rt R k (bool false))))) :
   CallsG Tryz.prog 210 #[Value.string s0,Value.string s1] k R:=
  qX { opq:=[] } [.one (.var 0),.one (.var 1)] [Value.string s0,Value.string s1] [.str,.str] ⟨⟨_,rfl⟩,⟨_,rfl⟩,trivial⟩ h
theorem aPx 
 (h:Cl k 321 #[Value.string s0,Value.string s1] fun k1 r0=>Gb r0 fun b2=>
 Br b2 (Tt∧((decide ((0:Int)≤(ByteArray.size s1:Nat)))=true∧
 ((decide (((ByteArray.size s1:Nat):Int)≤(ByteArray.size s0:Nat)))=true∧
 ((decide (((ByteArray.size s0:Nat):Int)≤(ByteArray.size s0:Nat)))=true∧
 (Rt R k1 (Value.string (ByteArray.extract s0 (Int.toNat (ByteArray.size s1:Nat)) (Int.toNat (ByteArray.size s0:Nat))))))))) (Rt R k1 (Value.string s0))) :
   CallsG Tryz.prog 209 #[Value.string s0,Value.string s1] k R:=
  qX { opq:=[] } [.one (.var 0),.one (.var 1)] [Value.string s0,Value.string s1] [.str,.str] ⟨⟨_,rfl⟩,⟨_,rfl⟩,trivial⟩ h
theorem aPy 
 (h:Cl k 210 #[Value.string s0,Value.string s1] fun k1 r0=>Gb r0 fun b2=>
 Br b2 (Tt∧(Tt∧((decide ((0:Int)≤(wrap .i64 ((ByteArray.size s0:Nat)-(ByteArray.size s1:Nat)))))=true∧
 ((decide (((wrap .i64 ((ByteArray.size s0:Nat)-(ByteArray.size s1:Nat))):Int)≤(ByteArray.size s0:Nat)))=true∧
 (Rt R k1 (Value.string (ByteArray.extract s0 (Int.toNat 0) (Int.toNat (wrap .i64 ((ByteArray.size s0:Nat)-(ByteArray.size s1:Nat))))))))))) (Rt R k1 (Value.string s0))) :
   CallsG Tryz.prog 211 #[Value.string s0,Value.string s1] k R:=
  qX { opq:=[] } [.one (.var 0),.one (.var 1)] [Value.string s0,Value.string s1] [.str,.str] ⟨⟨_,rfl⟩,⟨_,rfl⟩,trivial⟩ h
end Go.Proofs.YtmifbgccpdmjpaaGreat

namespace Go.Proofs.YtmifbgccpdmjpaaGreat
open IntKind (wrap)
open Go.RowKit Num Plain
open Sy (Up Sees CallsG Seg)
theorem wsub {a b:Nat}(h:b≤a) (ha:a<1000000):wrap .i64 ((a:Int)-(b:Int))=((a-b:Nat):Int):=by rw [kz];omega
theorem jX (a b:List UInt8):(ByteArray.toList (str a) == ByteArray.toList (str b))=decide (a=b):=by
 by_cases h:a=b
 ·rw [h,decide_eq_true rfl];exact beq_self_eq_true _
 ·rw [decide_eq_false h];exact yu.2 fun e=>h (fL (toList_inj.1 e))
section
variable {k k':World}{R:World→Value→Prop}{p m t:List UInt8}
theorem aMf (hp:p.length<1000000) (C:∀k',Up k k'→R k' (.bool (decide (dU p m)))):Cl k 210 #[.string (str p),.string (str m)] R:=by
 intro k0 u0;refine aPw ⟨rfl,rfl,fun h=>?_,fun h k2 u2=>?_⟩
 ·rw [aA,aA]at h;have h:=ow h;have hm:m.length≤p.length:=oq
  simp only [aA,wsub hm hp];refine⟨trivial,trivial,decide_eq_true oq,decide_eq_true oq,decide_eq_true (vf _),fun k2 u2=>?_⟩;have:=C k2 (u0.trans u2);rw [ot,ot,cO,jx (by rw [jr];exact oy _),jX]
  rwa [show decide (dU p m)=decide (p.drop (p.length-m.length)=m) from decide_eq_decide.2 ⟨fun h=>h.2,fun h=>⟨hm,h⟩⟩]at this
 ·rw [aA,aA]at h;have h:=ov h;have:=C k2 (u0.trans u2)
  rwa [decide_eq_false fun g:dU p m=>h (by have:=g.1;omega)]at this
theorem sS (hp:p.length<1000000) (C:∀k',Up k k'→R k' (.bool (decide (dU p m)))):Cl k 104 #[.string (str p),.string (str m)] R:=
 fun _ u0=>aOi (aMf hp fun _ u1=>⟨_,rfl,fun k2 u2=>C k2 (u0.trans (u1.trans u2))⟩)
theorem pS (hp:p.length<1000000) (C:∀k',Up k k'→R k' (.string (str (if dU p m then p.take (p.length-m.length) else p)))):Cl k 105 #[.string (str p),.string (str m)] R:=by
 intro k0 u0;refine aQj fun k1 u1=>aPy (aMf hp fun k2 u2=>⟨_,rfl,fun h=>?_,fun h k3 u3=>⟨_,rfl,fun k4 u4=>?_⟩⟩)
 ·have h:=ow h;simp only [aA,wsub h.1 hp];refine⟨trivial,trivial,decide_eq_true oq,decide_eq_true oq,fun k3 u3=>⟨_,rfl,fun k4 u4=>?_⟩⟩;have:=C k4 (u0.trans (u1.trans (u2.trans (u3.trans u4))));rw [ot,show Int.toNat 0=0 from rfl,cO,kj,yb]
  rwa [om h]at this
 ·have h:=ov h;have:=C k4 (u0.trans (u1.trans (u2.trans (u3.trans u4))))
  rwa [og h]at this
theorem wI (hp:p.length<1000000) (C:∀k',Up k k'→R k' (.string (str (dJ p)))):Cl k 102 #[.string (str p),.string (str [43])] R:=by
 intro k0 u0;refine aQi fun k1 u1=>aPx fun k2 u2=>aPv ⟨rfl,rfl,fun h=>?_,fun h k3 u3=>⟨_,rfl,fun h=>(nomatch h),fun _ k4 u4=>⟨_,rfl,fun k5 u5=>?_⟩⟩⟩
 ·rw [aA,aA]at h;have h:=ow h;have h1:1≤p.length:=by simp only [od,ob]at h;omega
  obtain⟨c,l,rfl⟩:∃c l,p=c :: l:=by
   cases p with
   | nil=>exact absurd h1 oz
   | cons c l=>exact⟨c,l,rfl⟩
  have ex:ByteArray.extract (str (c :: l)) (Int.toNat 0) (Int.toNat ((str [43]).size:Nat))=str [c]:=by
   rw [ot,show Int.toNat 0=0 from rfl,cO,aA];rfl
  have ey:ByteArray.extract (str (c :: l)) (Int.toNat ((str [43]).size:Nat)) (Int.toNat ((str (c :: l)).size:Nat))=str l:=by
   rw [ot,ot,cO,aA,aA,jx (by rw [jr];exact oy _)];rfl
  have q1:decide (((str [43]).size:Int)≤((str (c :: l)).size:Nat))=true:=decide_eq_true (by rw [aA,aA];simp only [od,ob];omega);rw [ex,ey,jX];refine⟨rfl,decide_eq_true oq,q1,fun k3 u3=>⟨_,rfl,fun hb=>⟨rfl,decide_eq_true oq,q1,decide_eq_true (vf _),fun k4 u4=>⟨_,rfl,fun k5 u5=>?_⟩⟩,fun hb k4 u4=>⟨_,rfl,fun k5 u5=>?_⟩⟩⟩
  all_goals have:=C k5 (u0.trans (u1.trans (u2.trans (u3.trans (u4.trans u5)))))
  ·have hb:=ow hb;injection hb with hb;subst hb;exact this
  ·have hb:=ov hb
   rwa [show dJ (c :: l)=c :: l from og fun h=>hb (by rw [xh h])]at this
 ·rw [aA,aA]at h;have h:=ov h;have h1:p=[]:=xz.1 (by simp only [od,ob]at h;omega);subst h1;exact C k5 (u0.trans (u1.trans (u2.trans (u3.trans (u4.trans u5)))))
def ixS (t:List UInt8):Int:=if gI t=[] then -1 else (cP t).length
def aQz:Prop:=∀ {k:World}{R:World→Value→Prop}{t:List UInt8},t.length≤5000→(∀k',Up k k'→R k' (.int .i64 (ixS t)))→Cl k 101 #[.string (str t),.string (str [43,45])] R
def PartsV (k:World) (cs:Array Value) (x:Q4) (K:Nat):Prop:=∃c0 c1 c2 c3:Array Value,cs=(c0.toList++(c1.toList++(c2.toList++(c3.toList++([]))))).toArray∧RatV k c0 x.a K∧RatV k c1 x.b K∧RatV k c2 x.c K∧RatV k c3 x.d K
theorem PartsV.up {cs:Array Value}{x:Q4}{K:Nat}(h:PartsV k cs x K) (u:Up k k'):PartsV k' cs x K:=by
 obtain⟨c0,c1,c2,c3,e,h0,h1,h2,h3⟩:=h;exact⟨c0,c1,c2,c3,e,h0.up u,h1.up u,h2.up u,h3.up u⟩
theorem bT {c:Array Value}{q:Rat}{K:Nat}(h:RatV k c q K):∃a b d,c=#[a,b,d]:=by
 obtain⟨g,A,n,c',D,d,e,rfl,_⟩:=h;exact⟨_,_,_,rfl⟩
theorem PartsV.seg {cs:Array Value}{x:Q4}{K:Nat}(h:PartsV k cs x K):Seg 12 cs:=by
 obtain⟨c0,c1,c2,c3,rfl,h0,h1,h2,h3⟩:=h;have s0:=h0.seg;have s1:=h1.seg;have s2:=h2.seg;have s3:=h3.seg;obtain⟨a0,b0,d0,rfl⟩:=bT h0;obtain⟨a1,b1,d1,rfl⟩:=bT h1;obtain⟨a2,b2,d2,rfl⟩:=bT h2;obtain⟨a3,b3,d3,rfl⟩:=bT h3;refine⟨rfl,fun u hu=>?_⟩;simp only [qs,qo]at hu;rcases hu with hu|hu|hu|hu
 ·exact s0.2 u hu
 ·exact s1.2 u hu
 ·exact s2.2 u hu
 ·exact s3.2 u hu
theorem PartsV.get {cs:Array Value}{x:Q4}{K i:Nat}(h:PartsV k cs x K) (hi:i<4):RatV k (Sy.pickL cs (Int.toNat (i:Int)*3+0) 3).toArray (lU x i) K:=by
 obtain⟨c0,c1,c2,c3,rfl,h0,h1,h2,h3⟩:=h;have g0:=bT h0;have g1:=bT h1;have g2:=bT h2;have g3:=bT h3;obtain⟨a0,b0,d0,rfl⟩:=g0;obtain⟨a1,b1,d1,rfl⟩:=g1;obtain⟨a2,b2,d2,rfl⟩:=g2;obtain⟨a3,b3,d3,rfl⟩:=g3;rcases (show i=0∨i=1∨i=2∨i=3 by omega) with rfl|rfl|rfl|rfl
 ·exact h0
 ·exact h1
 ·exact h2
 ·exact h3
theorem PartsV.set {cs ds:Array Value}{x:Q4}{q:Rat}{K i:Nat}(h:PartsV k cs x K) (hi:i<4) (hq:RatV k ds q K):PartsV k (Sy.over cs (Int.toNat (i:Int)*3+0) ds.toList) (kH x i q) K:=by
 obtain⟨c0,c1,c2,c3,rfl,h0,h1,h2,h3⟩:=h;have g0:=bT h0;have g1:=bT h1;have g2:=bT h2;have g3:=bT h3;have g4:=bT hq;obtain⟨a0,b0,d0,rfl⟩:=g0;obtain⟨a1,b1,d1,rfl⟩:=g1;obtain⟨a2,b2,d2,rfl⟩:=g2;obtain⟨a3,b3,d3,rfl⟩:=g3;obtain⟨a4,b4,d4,rfl⟩:=g4;rcases (show i=0∨i=1∨i=2∨i=3 by omega) with rfl|rfl|rfl|rfl
 ·exact⟨_,_,_,_,rfl,hq,h1,h2,h3⟩
 ·exact⟨_,_,_,_,rfl,h0,hq,h2,h3⟩
 ·exact⟨_,_,_,_,rfl,h0,h1,hq,h3⟩
 ·exact⟨_,_,_,_,rfl,h0,h1,h2,hq⟩
end
theorem aMm {p:UInt8→Bool}:∀ {l:List UInt8}{j:Nat},j≤(l.takeWhile p).length→j<l.length→p (l.getD j 0)=decide (j<(l.takeWhile p).length):=by
 intro l
 induction l with
 | nil=>intro j _ h;exact absurd h (Nat.not_lt_zero _)
 | cons c l ih=>
  intro j hj hl;rw [List.takeWhile_cons]at hj ⊢;cases e:p c with
  | true=>
   simp only [e,if_true,od]at hj ⊢;cases j with
   | zero=>rw [List.getD_cons_zero,e,decide_eq_true oq]
   | succ j=>
    rw [List.getD_cons_succ,ih oq (by rw [od]at hl;omega)];exact decide_eq_decide.2 ⟨fun h=>oq,fun h=>oq⟩
  | false=>
   have hj:j=0:=by simpa [e] using hj
   subst hj;rw [List.getD_cons_zero,e];simp
theorem zD (t:List UInt8):(cP t).length≤t.length:=by
 have:=congrArg List.length (eC t);rw [oh]at this;omega
namespace W32
section
variable {k k':World}{R:World→Value→Prop}
theorem cV {c:Array Value}{q:Rat}{K:Nat}(h:QV k c q K):∃a b d,c=#[a,b,d]:=by
 obtain⟨_,_,_,_,_,_,_,rfl,_⟩:=h;exact⟨_,_,_,rfl⟩
theorem SQ.get {cs:Array Value}{x:Q4}{K i:Nat}(h:SQ k cs x K) (hi:i<4):QV k (Sy.pickL cs (Int.toNat (i:Int)*3+0) 3).toArray (lU x i) K:=by
 obtain⟨c0,c1,c2,c3,rfl,h0,h1,h2,h3⟩:=h;have g0:=cV h0;have g1:=cV h1;have g2:=cV h2;have g3:=cV h3;obtain⟨a0,b0,d0,rfl⟩:=g0;obtain⟨a1,b1,d1,rfl⟩:=g1;obtain⟨a2,b2,d2,rfl⟩:=g2;obtain⟨a3,b3,d3,rfl⟩:=g3;rcases (show i=0∨i=1∨i=2∨i=3 by omega) with rfl|rfl|rfl|rfl
 ·exact h0
 ·exact h1
 ·exact h2
 ·exact h3
theorem SQ.set {cs ds:Array Value}{x:Q4}{q:Rat}{K i:Nat}(h:SQ k cs x K) (hi:i<4) (hq:QV k ds q K):SQ k (Sy.over cs (Int.toNat (i:Int)*3+0) ds.toList) (kH x i q) K:=by
 obtain⟨c0,c1,c2,c3,rfl,h0,h1,h2,h3⟩:=h;have g0:=cV h0;have g1:=cV h1;have g2:=cV h2;have g3:=cV h3;have g4:=cV hq;obtain⟨a0,b0,d0,rfl⟩:=g0;obtain⟨a1,b1,d1,rfl⟩:=g1;obtain⟨a2,b2,d2,rfl⟩:=g2;obtain⟨a3,b3,d3,rfl⟩:=g3;obtain⟨a4,b4,d4,rfl⟩:=g4;rcases (show i=0∨i=1∨i=2∨i=3 by omega) with rfl|rfl|rfl|rfl
 ·exact⟨_,_,_,_,rfl,hq,h1,h2,h3⟩
 ·exact⟨_,_,_,_,rfl,h0,hq,h2,h3⟩
 ·exact⟨_,_,_,_,rfl,h0,h1,hq,h3⟩
 ·exact⟨_,_,_,_,rfl,h0,h1,h2,hq⟩
theorem SQ.set0 {cs ds:Array Value}{x:Q4}{q:Rat}{K:Nat}(h:SQ k cs x K) (hq:QV k ds q K):SQ k (ds.toList++((Sy.pickL cs (Int.toNat 0*0+3) 9)++([]))).toArray (kH x 0 q) K:=by
 obtain⟨c0,c1,c2,c3,rfl,h0,h1,h2,h3⟩:=h;have g0:=cV h0;have g1:=cV h1;have g2:=cV h2;have g3:=cV h3;have g4:=cV hq;obtain⟨a0,b0,d0,rfl⟩:=g0;obtain⟨a1,b1,d1,rfl⟩:=g1;obtain⟨a2,b2,d2,rfl⟩:=g2;obtain⟨a3,b3,d3,rfl⟩:=g3;obtain⟨a4,b4,d4,rfl⟩:=g4;exact⟨_,_,_,_,rfl,hq,h1,h2,h3⟩
end
end W32
theorem wadd {a:Nat}(h:a<1000000):wrap .i64 (1+(a:Int))=((a+1:Nat):Int):=by rw [kz];omega
theorem aKs {P:Prop}[Decidable P] (h:(!decide P)=true):¬ P:=fun hp=>by rw [decide_eq_true hp]at h;cases h
theorem aDm {P:Prop}[Decidable P] (h:(!decide P)=false):P:=zm fun hp=>by rw [decide_eq_false hp]at h;cases h
section
variable {k k':World}{R:World→Value→Prop}
theorem aQb {p:List UInt8}:∃i,(cY p).1=i∧i<4∧(cY p).2.length≤p.length:=by
 unfold cY;split
 ·exact⟨1,rfl,oz,by rw [ja];omega⟩
 ·split
  ·exact⟨2,rfl,oz,by rw [ja];omega⟩
  ·split
   ·exact⟨3,rfl,oz,by rw [ja];omega⟩
   ·exact⟨0,rfl,oz,oy _⟩
theorem aEq (ix:aQz) {l:List UInt8}(C:∀k' ds,Up k k'→SurdV k' ds (iR l).2 25001→R k' (.tuple #[.agg ds,.int .i64 (iR l).1])) :
 Cl k 38 #[.string (str l)] R:=by
 intro k0 u0;replace C:=fun k' ds u=>C k' ds (u0.trans u);have hZ:∀k,SurdV k #[.bool false,.slice none 0 0,.bool false,.slice none 0 0,.bool false,.slice none 0 0,.bool false,.slice none 0 0,.slice none 0 0] Q4.zero 25001:=fun k=>SurdV.nil (jg _);refine aDl ⟨rfl,fun h=>?_,fun h=>?_⟩
 ·intro k1 u1;rw [aA]at h;have h:=ow h;have:=C k1 #[.bool false,.slice none 0 0,.bool false,.slice none 0 0,.bool false,.slice none 0 0,.bool false,.slice none 0 0,.slice none 0 0] u1;unfold iR at this;rw [om oq]at this;exact this (hZ _)
 rw [aA]at h;have h:=ov h;have hS:iR l=pK l (gD kG (chunks l) Q4.zero):=by unfold iR;rw [og oq]
 rw [hS]at C;clear hS;have hZP:∀k,PartsV k #[.bool false,.slice none 0 0,.slice none 0 0,.bool false,.slice none 0 0,.slice none 0 0,.bool false,.slice none 0 0,.slice none 0 0,.bool false,.slice none 0 0,.slice none 0 0] Q4.zero 5000:=fun k=>by
  have z:RatV k #[.bool false,.slice none 0 0,.slice none 0 0] 0 5000:=⟨_,_,_,_,_,_,_,rfl,⟨⟨rfl,LimR.nil⟩,LimR.nil⟩,jg _,jg _⟩;exact⟨_,_,_,_,rfl,z,z,z,z⟩
 refine⟨fun m k' vs=>∃r cs x,r.length=m∧m≤4096∧vs=[.string (str r),.agg cs]∧PartsV k' cs x 5000∧gD kG (chunks r) x=gD kG (chunks l) Q4.zero,⟨l.length,fun k1 _=>⟨l,_,_,rfl,oq,rfl,hZP k1,rfl⟩⟩,?_⟩;rintro m k1 vs u1 ⟨r,cs,x,hm,hm2,rfl,hx,hrun⟩;generalize gD kG (chunks l) Q4.zero=o at *
 refine⟨_,_,hx.seg,rfl,fun hne=>?_,fun hnil=>?_⟩
 ·have hr:r≠[]:=fun e=>by
   subst e;rw [show (ByteArray.toList (str []) == ByteArray.toList ⟨#[]⟩)=true from gC]at hne;cases hne
  obtain⟨c,t,rfl⟩:∃c t,r=c :: t:=by
   cases r with
   | nil=>exact absurd rfl hr
   | cons c t=>exact⟨c,t,rfl⟩
  have e1:ByteArray.extract (str (c :: t)) (Int.toNat 1) (Int.toNat ((str (c :: t)).size:Nat))=str t:=by
   rw [ot,show Int.toNat 1=1 from rfl,cO,aA,jx (by rw [jr];exact oy _)];rfl
  rw [e1];rw [od]at hm;refine⟨decide_eq_true (by rw [aA,od];omega),decide_eq_true (vf _),?_⟩;refine ix oq fun k2 u2=>⟨_,rfl,?_⟩;have hhl:=congrArg List.length (eC t);rw [oh]at hhl;rw [iJ]at hrun;obtain⟨n,hn⟩:∃n,n=(cP t).length+1:=⟨_,rfl⟩;have tk:(c :: t).take n=c :: cP t:=by
   rw [hn,List.take_succ_cons]
   congr 1
   have:=congrArg (List.take (cP t).length) (eC t);rw [List.take_left]at this;exact this.symm
  have dr:(c :: t).drop n=gI t:=by
   rw [hn,List.drop_succ_cons];have:=congrArg (List.drop (cP t).length) (eC t);rw [List.drop_left]at this;exact this.symm
  have x1:ByteArray.extract (str (c :: t)) (Int.toNat 0) (Int.toNat ((n:Nat):Int))=str (c :: cP t):=by
   rw [ot,show Int.toNat 0=0 from rfl,cO,kj,yb,tk]
  have x2:ByteArray.extract (str (c :: t)) (Int.toNat ((n:Nat):Int)) (Int.toNat ((str (c :: t)).size:Nat))=str (gI t):=by
   rw [ot,ot,cO,aA,jx (by rw [jr];exact oy _),dr]
  have hns:n≤(c :: t).length:=by rw [od];omega
  have hsz:(str (c :: t)).size=(c :: t).length:=aA _;obtain⟨p,hp⟩:∃p,p=dJ (c :: cP t):=⟨_,rfl⟩;have hpl:p.length≤4096:=by
   have:p.length≤(c :: cP t).length:=by
    rw [hp];unfold dJ;split
    ·rw [List.length_tail];omega
    ·exact oy _
   rw [od]at this;omega
  have e0:(ByteArray.toList (str []) == ByteArray.toList ⟨#[]⟩)=true:=gC;have en:∀d:UInt8,(!(ByteArray.toList (str [114,d]) == ByteArray.toList ⟨#[]⟩))=true:=fun d=>by
   rw [show (⟨#[]⟩:ByteArray)=str [] from rfl,jX,decide_eq_false (List.cons_ne_nil _ _)];rfl
  have ixn:ixS t=if gI t=[] then -1 else ((cP t).length:Int):=rfl;refine⟨fun hb=>?_,fun hb=>?_⟩;have hw:gI t=[]:=zm fun hc=>by
   rw [ixn,og hc,wadd oq]at hb;have:=eq_of_beq hb;omega
  have hsn:(str (c :: t)).size=n:=by
   rw [hw,ob]at hhl;rw [hsz,od];omega
  rw [hsn]at x2;rw [hsn,x1,x2];refine⟨rfl,decide_eq_true oq,decide_eq_true (vf _),wI (by rw [od];omega) fun k3 u3=>⟨_,rfl,decide_eq_true oq,decide_eq_true (vf _),decide_eq_true (vf _),?_⟩⟩;clear hsn hw hb
  rotate_left 1
  have hw:gI t≠[]:=fun hc=>by
   rw [ixn,om hc]at hb;exact absurd hb oz
  have hwn:wrap .i64 (1+ixS t)=((n:Nat):Int):=by rw [ixn,og hw,wadd oq,hn]
  have hnl:((n:Nat):Int)≤((str (c :: t)).size:Nat):=by rw [hsz];omega
  rw [hwn,x1,x2];refine⟨decide_eq_true oq,decide_eq_true hnl,wI (by rw [od];omega) fun k3 u3=>⟨_,rfl,decide_eq_true oq,decide_eq_true hnl,decide_eq_true (vf _),?_⟩⟩;clear hwn hnl hw hb
  rotate_left 1
  all_goals
   rw [←hp];have u13:=u1.trans (u2.trans u3);replace hx:=hx.up (u2.trans u3);replace C:=fun k' ds u=>C k' ds (u13.trans u);clear u1 u2 u3 u13 x1 x2 e1 tk dr hhl;refine eD fun k5 u5=>⟨_,_,_,_,rfl,fun _ vs=>vs=[.string (str (cY p).2),.int .i64 ((cY p).1:Int)],?_,?_⟩
   ·refine⟨fun _ vs=>vs=[.bool false],⟨fun h=>?_,fun _ k6 u6=>rfl⟩,?_⟩
    ·rw [e0]at h;cases h
    rintro k6 vs u6 rfl;refine⟨_,rfl,fun h=>(nomatch h),fun _=>?_⟩
    refine⟨fun _ vs=>vs=[.bool (decide (dU p (mkN 1)))],⟨fun _=>sS oq fun k7 u7=>⟨_,rfl,fun k8 u8=>rfl⟩,fun h=>?_⟩,?_⟩
    ·rw [en]at h;cases h
    rintro k7 vs u7 rfl;refine⟨_,rfl,fun hb=>?_,fun hb=>?_⟩
    ·have hb:=ow hb;refine pS oq fun k8 u8=>⟨_,rfl,fun k9 u9=>?_⟩;have e:cY p=(1,p.take (p.length-2)):=om hb;rw [e];exact congrArg (fun z=>[Value.string (str z),Value.int .i64 1]) (om hb)
    have n1:=ov hb;refine⟨fun _ vs=>vs=[.bool (decide (dU p (mkN 2)))],⟨fun _=>sS oq fun k8 u8=>⟨_,rfl,fun k9 u9=>rfl⟩,fun h=>?_⟩,?_⟩
    ·rw [en]at h;cases h
    rintro k8 vs u8 rfl;refine⟨_,rfl,fun hb=>?_,fun hb=>?_⟩
    ·have hb:=ow hb;refine pS oq fun k9 u9=>⟨_,rfl,fun k10 u10=>?_⟩;have e:cY p=(2,p.take (p.length-2)):=by unfold cY;rw [og n1,om hb]
     rw [e];exact congrArg (fun z=>[Value.string (str z),Value.int .i64 2]) (om hb)
    have n2:=ov hb;refine⟨fun _ vs=>vs=[.bool (decide (dU p (mkN 3)))],⟨fun _=>sS oq fun k9 u9=>⟨_,rfl,fun k10 u10=>rfl⟩,fun h=>?_⟩,?_⟩
    ·rw [en]at h;cases h
    rintro k9 vs u9 rfl;refine⟨_,rfl,fun hb=>?_,fun hb k10 u10=>?_⟩
    ·have hb:=ow hb;refine pS oq fun k10 u10=>⟨_,rfl,fun k11 u11=>?_⟩;have e:cY p=(3,p.take (p.length-2)):=by unfold cY;rw [og n1,og n2,om hb]
     rw [e];exact congrArg (fun z=>[Value.string (str z),Value.int .i64 3]) (om hb)
    have n3:=ov hb;have e:cY p=(0,p):=by unfold cY;rw [og n1,og n2,og n3]
    rw [e];rfl
   rintro k6 vs u6 rfl;refine⟨_,_,rfl,?_⟩;obtain⟨i,ei,hi,hpl2⟩:=aQb (p:=p);have hst:kG x (c :: cP t)=if (cC (cY p).2).1=0∧lU x i=0 then some (kH x i (cC (cY p).2).2) else none:=by
    unfold kG;rw [←hp,ei]
   rw [ei];generalize (cY p).2=p' at *
   refine aPg fun k7 d7 u7 h7=>⟨_,h7.seg,_,rfl,?_⟩;have hx7:=hx.up (u5.trans (u6.trans u7));have d4:decide ((0:Int)≤(i:Int)∧((i:Int):Int)<4)=true:=decide_eq_true ⟨oq,oq⟩;refine⟨fun _ vs=>vs=[.bool (!decide ((cC p').1=0∧lU x i=0))],⟨fun he k8 u8=>?_,fun he=>⟨d4,nC (hx7.get hi) oz fun k8 u8=>⟨_,rfl,fun k9 u9=>?_⟩⟩⟩,?_⟩
   ·have he:(cC p').1≠0:=bne_iff_ne.1 he;rw [decide_eq_false fun g=>he g.1];rfl
   ·have he:(cC p').1=0:=by simpa using he
    congr 2
    rw [decide_eq_decide.2 (show lU x i=0↔(cC p').1=0∧lU x i=0 from⟨fun h=>⟨he,h⟩,fun h=>h.2⟩)]
   rintro k8 vs u8 rfl;refine⟨_,rfl,fun hb k9 u9=>?_,fun hb=>⟨d4,fun k9 u9=>?_⟩⟩
   ·have hb:=aKs hb;rw [og hb]at hst;have:=C k9 #[.bool false,.slice none 0 0,.bool false,.slice none 0 0,.bool false,.slice none 0 0,.bool false,.slice none 0 0,.slice none 0 0] (u5.trans (u6.trans (u7.trans (u8.trans u9))));unfold gD at hrun;rw [hst]at hrun;rw [←hrun]at this;exact this (hZ _)
   ·have hb:=aDm hb;rw [om hb]at hst;unfold gD at hrun;rw [hst]at hrun;have hrl:=vY t;exact⟨(gI t).length,oq,gI t,_,_,rfl,oq,rfl,(hx7.up (u8.trans u9)).set hi (h7.up (u8.trans u9)),hrun⟩
 ·have hr:r=[]:=zm fun e=>by
   rw [show (⟨#[]⟩:ByteArray)=str [] from rfl,jX,decide_eq_false e]at hnil;cases hnil
  subst hr;rw [gY]at hrun;unfold gD at hrun;rw [←hrun]at C;obtain⟨c0,c1,c2,c3,rfl,h0,h1,h2,h3⟩:=hx;refine aAx h0 h1 h2 h3 oz oz fun k2 d2 u2 hv=>⟨_,hv.seg,rfl,?_⟩;refine nD hv oz oz fun k3 u3=>⟨_,rfl,fun hb k4 u4=>?_,fun hb k4 u4=>?_⟩
  ·rw [jX]at hb;have hb:aL x=l:=ow hb;have:=C k4 d2 (u1.trans (u2.trans (u3.trans u4)));rw [show pK l (some x)=(0,x) from om hb]at this;exact this (hv.up (u3.trans u4))
  ·rw [jX]at hb;have hb:¬ aL x=l:=ov hb;have:=C k4 #[.bool false,.slice none 0 0,.bool false,.slice none 0 0,.bool false,.slice none 0 0,.bool false,.slice none 0 0,.slice none 0 0] (u1.trans (u2.trans (u3.trans u4)));rw [show pK l (some x)=(2,Q4.zero) from og hb]at this;exact this (hZ _)
end
theorem aQs {c:UInt8}:((c.toNat:Int) == 43)=decide (c=43):=eH (n:=43) oz
theorem aUp {c:UInt8}:((c.toNat:Int) == 50)=decide (c=50):=eH (n:=50) oz
theorem aUq {c:UInt8}:((c.toNat:Int) == 51)=decide (c=51):=eH (n:=51) oz
theorem aUr {c:UInt8}:((c.toNat:Int) == 54)=decide (c=54):=eH (n:=54) oz
theorem aSk {c:UInt8}:((c.toNat:Int) == 114)=decide (c=114):=eH (n:=114) oz
theorem xN (c:UInt8):gH c=decide (c=43∨c=45):=by
 unfold gH
 by_cases h:c=43 <;> by_cases h':c=45 <;> simp [h,h']
theorem aOb (l:List UInt8) {a:Nat}(h:a<l.length):l.drop a=l.getD a 0 :: l.drop (a+1):=by
 rw [xd h,qh,oo h];rfl
theorem aFz (l:List UInt8) (a j:Nat):(l.drop a).getD j 0=l.getD (a+j) 0:=by
 rw [qh,vg,qh]
theorem aKd (c:UInt8):jB c<4:=by
 unfold jB
 repeat' split
 all_goals decide
theorem wsub2 {a:Nat}(h:2≤a) (ha:a<1000000):wrap .i64 ((a:Int)-2)=((a-2:Nat):Int):=by rw [kz];omega
theorem wsub1 {a:Nat}(h:1≤a) (ha:a<1000000):wrap .i64 ((a:Int)-1)=((a-1:Nat):Int):=by rw [kz];omega
section
variable {k k':World}{R:World→Value→Prop}
open W32 in
theorem aPm {l:List UInt8}(C:∀k' ds,Up k k'→SQ k' ds (mG l).2 41000000→R k' (.tuple #[.agg ds,.int .i64 (mG l).1])) :
 Cl k 39 #[.string (str l)] R:=by
 intro k0 u0;replace C:=fun k' ds u=>C k' ds (u0.trans u);refine aCp (oU oz oz fun k1 d1 u1 h1=>⟨d1,h1.seg,rfl,aSx h1 oz fun k3 d3 u3 h3=>?_⟩);have u13:=u1.trans u3;replace h3:SQ k3 d3 Q4.zero 2:=h3;have h3':=h3;obtain⟨c0,c1,c2,c3,rfl,q0,q1,q2,q3⟩:=h3';refine⟨c0,q0.seg,c1,q1.seg,c2,q2.seg,c3,q3.seg,rfl,?_⟩;clear q0 q1 q2 q3;refine⟨rfl,fun h k4 u4=>?_,fun h=>?_⟩
 ·rw [aA]at h;have h:=ow h;have:=C k4 ((c0.toList++(c1.toList++(c2.toList++(c3.toList++([]))))).toArray) (u13.trans u4);unfold mG at this;rw [om oq]at this;exact this ((h3.up u4).mono oz)
 rw [aA]at h;have hl:l.length≤4096:=by have:=ov h;omega
 have hS:mG l=pK l (gD iQ (chunks l) Q4.zero):=by unfold mG;rw [og oq]
 rw [hS]at C;clear hS h;have start:gD iQ (chunks (l.drop 0)) Q4.zero=gD iQ (chunks l) Q4.zero:=rfl;generalize gD iQ (chunks l) Q4.zero=o at *
 refine⟨fun m k' vs=>∃(a i:Nat) (x:Q4) (cs:Array Value),vs=[.int .i64 (a:Int),.int .i64 (i:Int),.agg cs]∧i+m=l.length+1∧a<i∧a≤l.length∧(i≤l.length→i-a-1≤(cP (l.drop (a+1))).length)∧(l.length<i→a=l.length)∧gD iQ (chunks (l.drop a)) x=o∧SQ k' cs x (2+a*10002),
  ⟨l.length,fun k5 u5=>⟨0,1,_,_,rfl,oq,oz,jg _,fun _=>jg _,fun h=>oq,start,h3.up u5⟩⟩,?_⟩
 rintro m k5 vs u5 ⟨a,i,x,cs,rfl,hm,hai,hal,hhd,hend,hrun,hx⟩;refine⟨_,_,_,hx.seg,rfl,rfl,fun hle=>?_,fun hgt=>?_⟩
 ·rw [aA]at hle;have hle:i≤l.length:=by have:=ow hle;omega
  have hhd:=hhd hle;have hd:=aOb l (show a<l.length by omega);have htl:(l.drop (a+1)).length=l.length-(a+1):=jr;have hhl:=zD (l.drop (a+1));have tw:i<l.length→(!gH (l.getD i 0))=decide (i-a-1<(cP (l.drop (a+1))).length):=fun hi=>by
   have:=aMm (p:=fun c=>!gH c) (l:=l.drop (a+1)) (j:=i-a-1) hhd oq;rw [aFz,show a+1+(i-a-1)=i by omega]at this;exact this
  refine⟨fun _ vs=>vs=[.bool (decide (i<l.length∧gH (l.getD i 0)=false))],⟨rfl,fun h1=>?_,fun h1 k6 u6=>?_⟩,?_⟩
  ·rw [aA]at h1;have h1:i<l.length:=by have:=ow h1;omega
   have ix:decide ((0:Int)≤(i:Int)∧((i:Int):Int)<((str l).size:Nat))=true:=decide_eq_true ⟨oq,by rw [aA];omega⟩;rw [ot,gE];generalize l.getD i 0=g at *
   refine⟨ix,fun h2=>⟨ix,fun k6 u6=>?_⟩,fun h2 k6 u6=>?_⟩
   ·have h2:g≠43:=fun e=>by rw [e]at h2;exact absurd h2 oz
    show [Value.bool (!_)]=_;rw [aKa,xN]
    by_cases h:g=45 <;> simp [h,h1,h2]
   ·have h2:g=43:=by
     have h2:(!((g.toNat:Int) == 43))=false:=h2;rw [aQs]at h2;exact aDm h2
    rw [xN];simp [h2]
  ·rw [aA]at h1;have h1:=ov h1;rw [decide_eq_false fun g=>h1 oq]
  rintro k6 vs u6 rfl;refine⟨_,rfl,fun hb k7 u7=>?_,fun hb=>?_⟩
  ·obtain⟨hb1,hb2⟩:=ow hb;have:=tw hb1;rw [hb2]at this;have:=ow this.symm;exact⟨m-1,oq,a,i+1,x,cs,by rw [aDk oq],oq,oq,hal,fun _=>oq,fun _=>oq,hrun,hx.up (u6.trans u7)⟩
  have hb:=ov hb;have hlen:(cP (l.drop (a+1))).length=i-a-1:=by
   by_cases hi:i<l.length
   ·have hs:gH (l.getD i 0)=true:=by
     cases hq:gH (l.getD i 0) with
     | true=>rfl
     | false=>exact absurd ⟨hi,hq⟩ hb
    have:=tw hi;rw [hs]at this;have:=ov this.symm;omega
   ·omega
  rw [hd,iJ]at hrun;obtain⟨c,hc⟩:∃c,c=l.getD a 0:=⟨_,rfl⟩;rw [←hc]at hrun hd;have hrest:gI (l.drop (a+1))=l.drop i:=by
   have:=congrArg (List.drop (cP (l.drop (a+1))).length) (eC (l.drop (a+1)));rw [List.drop_left,List.drop_drop,hlen,show a+1+(i-a-1)=i by omega]at this;exact this
  have hpart:(l.drop a).take (i-a)=c :: cP (l.drop (a+1)):=by
   rw [hd,show i-a=(i-a-1)+1 by omega,List.take_succ_cons]
   congr 1
   have:=congrArg (List.take (cP (l.drop (a+1))).length) (eC (l.drop (a+1)));rw [List.take_left,hlen]at this;exact this.symm
  rw [hrest]at hrun;generalize cP (l.drop (a+1))=hh at *
  clear tw hd hc hrest htl hhd hhl hb;refine⟨fun _ vs=>vs=[.string (str (c :: hh))],⟨decide_eq_true oq,decide_eq_true oq,decide_eq_true (by rw [aA];omega),fun k7 u7=>?_⟩,?_⟩
  ·rw [ot,ot,cO,hpart]
  rintro k7 vs u7 rfl;have hch:hh.length+1≤4096:=oq
  refine⟨_,rfl,decide_eq_true ⟨oz,by rw [aA,od];omega⟩,?_⟩;have h00:(((str (c :: hh):ByteArray)[Int.toNat 0]?).getD 0)=c:=gE (c :: hh) 0;rw [h00,aQs];obtain⟨p,hp⟩:∃p,p=dJ (c :: hh):=⟨_,rfl⟩;have hst:iQ x (c :: hh)=if (cC (fM p).2).1=0 then some (kH x (fM p).1 (lU x (fM p).1+(cC (fM p).2).2)) else none:=by
   unfold iQ;rw [←hp]
  have hrun:(match iQ x (c :: hh) with|some y=>gD iQ (chunks (l.drop i)) y|none=>none)=o:=hrun
  rw [hst]at hrun;have u57:=u5.trans (u6.trans u7);replace hx:=hx.up (u6.trans u7);have v3:=u13.trans u57;replace h3:=h3.up u57;replace C:=fun k' ds u=>C k' ds (v3.trans u);clear u1 u3 u5 u6 u7 u57 v3 u13 h00 hst hpart start h1;refine⟨fun he=>?_,fun he=>?_⟩;refine⟨fun _ vs=>vs=[.string (str p)],⟨decide_eq_true (by rw [aA,od];omega),decide_eq_true (vf _),fun k8 u8=>?_⟩,?_⟩
  ·have he:c=43:=ow he;rw [ot,cO,aA,show Int.toNat 1=1 from rfl,jx (by rw [jr];exact oy _),hp,he];rfl
  rintro k8 vs u8 rfl;replace hx:=hx.up u8;replace h3:=h3.up u8;replace C:=fun k' ds u=>C k' ds (u8.trans u);refine⟨_,rfl,?_⟩;have hpl:p.length≤hh.length+1:=by
   rw [hp];unfold dJ;split
   ·rw [List.length_tail,od];omega
   ·exact oy _
  clear he hp u8
  rotate_left 1
  have ep:p=c :: hh:=by rw [hp];exact og fun h=>ov he (xh h)
  rw [←ep];have hpl:p.length≤hh.length+1:=by rw [ep,od];exact oy _
  clear he hp ep
  rotate_left 1
  all_goals
   refine⟨rfl,fun _ vs=>vs=[.bool (decide (2<p.length∧p.getD (p.length-2) 0=114))],⟨fun h1=>?_,fun h1 k6 u6=>?_⟩,?_⟩
   ·rw [aA]at h1;have h1:2<p.length:=by have:=ow h1;omega
    have e2:wrap .i64 (((str p).size:Nat)-2)=((p.length-2:Nat):Int):=by rw [aA];exact wsub2 oq oq
    rw [e2];refine⟨decide_eq_true ⟨oq,by rw [aA];omega⟩,fun k6 u6=>?_⟩;rw [ot,gE,aSk]
    congr 2
    exact decide_eq_decide.2 ⟨fun h=>⟨h1,h⟩,fun h=>h.2⟩
   ·rw [aA]at h1;have h1:=ov h1;rw [decide_eq_false fun g=>h1 oq]
   rintro k6 vs u6 rfl;refine⟨_,rfl,fun hb=>?_,fun hb=>?_⟩
   ·obtain⟨hb1,hb2⟩:=ow hb;have e:fM p=(jB (p.getD (p.length-1) 0),p.take (p.length-2)):=om ⟨hb1,hb2⟩;have e1:wrap .i64 (((str p).size:Nat)-1)=((p.length-1:Nat):Int):=by rw [aA];exact wsub1 oq oq
    have e2:wrap .i64 (((str p).size:Nat)-2)=((p.length-2:Nat):Int):=by rw [aA];exact wsub2 oq oq
    rw [e1,e2,ot,ot,gE,aUp,aUq,aUr];rw [e]at hrun;obtain⟨g,hg⟩:∃g,g=p.getD (p.length-1) 0:=⟨_,rfl⟩;rw [←hg]at hrun ⊢;clear hg e hb hb2;refine⟨decide_eq_true ⟨oq,by rw [aA];omega⟩,fun _ vs=>vs=[.int .i64 (jB g:Int)],⟨fun h k7 u7=>?_,fun h=>⟨fun h' k7 u7=>?_,fun h'=>⟨fun h2 k7 u7=>?_,fun h2 k7 u7=>?_⟩⟩⟩,?_⟩
    ·rw [show jB g=1 from om (ow h)];rfl
    ·rw [show jB g=2 from (og (ov h)).trans (om (ow h'))];rfl
    ·rw [show jB g=3 from (og (ov h)).trans ((og (ov h')).trans (om (ow h2)))];rfl
    ·rw [show jB g=0 from (og (ov h)).trans ((og (ov h')).trans (og (ov h2)))];rfl
    rintro k7 vs u7 rfl;refine⟨_,rfl,fun _ vs=>vs=[.string (str (p.take (p.length-2)))],⟨decide_eq_true oq,decide_eq_true (by rw [aA];omega),fun k8 u8=>?_⟩,?_⟩
    ·rw [show Int.toNat 0=0 from rfl,cO,kj,yb]
    rintro k8 vs u8 rfl;refine⟨_,rfl,?_⟩;have hlt:=aKd g;have d4:decide ((0:Int)≤(jB g:Int)∧((jB g:Int):Int)<4)=true:=decide_eq_true ⟨oq,oq⟩;generalize jB g=j at *
    refine aAf (by rw [ja];omega) fun k9 d9 u9 h9=>⟨_,h9.seg,_,rfl,fun he k10 u10=>?_,fun he=>?_⟩
    ·rw [og (bne_iff_ne.1 he)]at hrun;have hrun:none=o:=hrun;have:=C k10 ((c0.toList++(c1.toList++(c2.toList++(c3.toList++([]))))).toArray) (u6.trans (u7.trans (u8.trans (u9.trans u10))));rw [←hrun]at this;exact this ((h3.up (u6.trans (u7.trans (u8.trans (u9.trans u10))))).mono oz)
    ·rw [om (by simpa using he)]at hrun;have hx9:=hx.up (u6.trans (u7.trans (u8.trans u9)));refine⟨d4,aQo (hx9.get hlt) h9 oq fun k10 d10 u10 h10=>⟨_,h10.seg,rfl,d4,fun k11 u11=>?_⟩⟩;exact⟨m-1,oq,i,i+1,_,_,by rw [aDk oq],oq,oq,hle,fun _=>oq,fun _=>oq,hrun,((hx9.up (u10.trans u11)).mono oq).set hlt ((h10.up u11).mono oq)⟩
   ·have e:fM p=(0,p):=og (ov hb);rw [e]at hrun;refine aAf oq fun k9 d9 u9 h9=>⟨_,h9.seg,_,rfl,fun he k10 u10=>?_,fun he=>?_⟩
    ·rw [og (bne_iff_ne.1 he)]at hrun;have hrun:none=o:=hrun;have:=C k10 ((c0.toList++(c1.toList++(c2.toList++(c3.toList++([]))))).toArray) (u6.trans (u9.trans u10));rw [←hrun]at this;exact this ((h3.up (u6.trans (u9.trans u10))).mono oz)
    ·rw [om (by simpa using he)]at hrun;have hx9:=hx.up (u6.trans u9);refine aQo (x:=lU x 0) (K:=2+a*10002) (hx9.get (i:=0) oz) h9 oq fun k10 d10 u10 h10=>⟨_,h10.seg,rfl,fun k11 u11=>?_⟩;exact⟨m-1,oq,i,i+1,_,_,by rw [aDk oq],oq,oq,hle,fun _=>oq,fun _=>oq,hrun,((hx9.up (u10.trans u11)).mono oq).set0 ((h10.up u11).mono oq)⟩
 ·rw [aA]at hgt;have hgt:=ov hgt;have ha:=hend oq;rw [ha,List.drop_length,gY]at hrun;have hrun:some x=o:=hrun;rw [←hrun]at C;refine aFb hx oq fun k6 u6=>⟨_,rfl,fun hb k7 u7=>?_,fun hb k7 u7=>?_⟩
  ·rw [jX]at hb;have hb:=aKs hb;have:=C k7 ((c0.toList++(c1.toList++(c2.toList++(c3.toList++([]))))).toArray) (u13.trans (u5.trans (u6.trans u7)));rw [show pK l (some x)=(2,Q4.zero) from og hb]at this;exact this ((h3.up (u5.trans (u6.trans u7))).mono oz)
  ·rw [jX]at hb;have hb:=aDm hb;have:=C k7 cs (u13.trans (u5.trans (u6.trans u7)));rw [show pK l (some x)=(0,x) from om hb]at this;exact this ((hx.up (u6.trans u7)).mono oq)
end
open Go.RowKit Num Plain W32
theorem aPa {n d:Int}(hn:In64 n) (hd:In64 d):(ofQ n d).num.natAbs≤2^63∧(ofQ n d).den≤2^63:=by
 unfold In64 at hn hd;unfold ofQ
 by_cases h:d=0
 ·rw [om h,Rat.num_intCast,Rat.den_intCast];omega
 ·rw [og h,←qM n d h,lK _ oq,oB _ oq,rX];have h1:=zi n.natAbs (Nat.gcd n.natAbs d.natAbs);have h2:=zi d.natAbs (Nat.gcd n.natAbs d.natAbs);omega
theorem uZ {n:Nat}(h:n≤2^63):(dec n).length≤65:=by
 have h1:=lH n;have:nw n≤1:=aQ (by rw [we,kI];exact ji h oz);omega
theorem jV {n d:Int}(hn:In64 n) (hd:In64 d):(aC (ofQ n d)).length≤132:=by
 obtain⟨h1,h2⟩:=aPa hn hd;have e1:=uZ h1;have e2:=uZ h2;unfold aC;rw [oh,oh];have h3:(if (ofQ n d).num<0 then [45] else ([]:List UInt8)).length≤1:=by split <;> simp
 by_cases h4:(ofQ n d).den=1
 ·rw [om h4];simp only [ob];omega
 ·rw [og h4];simp only [od];omega
theorem aDc {v:Q4}(h0:(aC v.a).length≤132) (h1:(aC v.b).length≤132) (h2:(aC v.c).length≤132) (h3:(aC v.d).length≤132):(aL v).length≤4096:=by
 have f1:=bO [] v.a [];have f2:=bO (aF [] v.a []) v.b [114,50];have f3:=bO (aF (aF [] v.a []) v.b [114,50]) v.c [114,51];have f4:=bO (aF (aF (aF [] v.a []) v.b [114,50]) v.c [114,51]) v.d [114,54];simp only [od,ob]at f1 f2 f3 f4;unfold aL;split
 ·decide
 ·simp only [body];omega
section
variable {k k':World}{R:World→Value→Prop}
theorem aKe (ix:aQz) {l:List UInt8}{n0 n1 n2 n3 n4 n5 n6 n7:Int}(h0:In64 n0) (h1:In64 n1) (h2:In64 n2) (h3:In64 n3) (h4:In64 n4) (h5:In64 n5) (h6:In64 n6) (h7:In64 n7) (C:∀k',Up k k'→R k' (.bool true)) :
 Cl k 6 #[.string (str l),.agg #[.int .i64 n0,.int .i64 n1,.int .i64 n2,.int .i64 n3,.int .i64 n4,.int .i64 n5,.int .i64 n6,.int .i64 n7]] R:=by
 intro k0 u0;replace C:=fun k' u=>C k' (u0.trans u);have back:∀k1,Up k0 k1→Cl k1 28 #[Value.agg #[Value.int .i64 n0,Value.int .i64 n1,Value.int .i64 n2,Value.int .i64 n3,Value.int .i64 n4,Value.int .i64 n5,Value.int .i64 n6,Value.int .i64 n7]] fun k30 r29=>Gt 9 r29 fun cs15=>
  Cl k30 40 #[Value.agg cs15] fun k32 r31=>∃s16,some (Value.string s16)=some r31∧
  Cl k32 38 #[Value.string s16] fun k34 r33=>∃cs17,Seg 9 cs17∧∃n18,some (Value.tuple #[Value.agg cs17,Value.int .i64 n18])=some r33∧
  (((n18:Int) == 0)=true→
  (Cl k34 41 #[Value.agg cs17,Value.agg cs15] fun k36 r35=>∃b19,some (Value.bool b19)=some r35∧
  ∀k37,Up k36 k37→R k37 (Value.bool b19)))∧
  (((n18:Int) == 0)=false→
  (∀k38,Up k34 k38→R k38 (Value.bool false))):=by
  intro k1 u1 k2 u2;refine aIo h0 h1 h2 h3 h4 h5 h6 h7 (fun k3 d3 u3 hz=>⟨_,hz.seg,rfl,?_⟩) k2 u2;have hb:=mY ⟨ofQ n0 n1,ofQ n2 n3,ofQ n4 n5,ofQ n6 n7⟩ (aDc (jV h0 h1) (jV h2 h3) (jV h4 h5) (jV h6 h7));refine nD hz oz oz fun k4 u4=>⟨_,rfl,?_⟩;refine aEq ix fun k5 d5 u5 hv=>⟨_,hv.seg,_,rfl,?_⟩;rw [hb]at hv ⊢;refine⟨fun _=>?_,fun h=>(nomatch h)⟩
  refine aNb (hv.mono (by decide:25001≤100000)) ((hz.up (u4.trans u5)).mono oz) oz oz fun k6 u6 b hbb=>⟨_,rfl,fun k7 u7=>?_⟩;rw [hbb.2 (Q4.sub_zero_iff.2 rfl)];exact C k7 (u1.trans (u3.trans (u4.trans (u5.trans (u6.trans u7)))))
 refine aGg (aDq fun k1 u1=>⟨_,rfl,fun h=>(nomatch h),fun _=>⟨rfl,fun h2=>?_,fun h2=>?_⟩⟩)
 ·exact aDq fun k2 u2=>⟨_,rfl,fun k3 u3=>C k3 (u1.trans (u2.trans u3))⟩
 refine aEq ix fun k2 d2 u2 hx=>⟨_,hx.seg,_,rfl,?_⟩;refine aPm fun k3 d3 u3 hy=>⟨_,hy.seg,_,rfl,?_⟩;rw [←aIb]at hy ⊢;refine⟨fun h=>?_,fun _=>?_⟩
 ·rw [bne_self_eq_false]at h;cases h
 refine aJz (hx.up u3) oz oz hy oz fun k4 u4=>⟨_,rfl,fun h=>(nomatch h),fun _=>⟨fun he=>?_,fun he=>?_⟩⟩
 ·have he:(iR l).1=0:=eq_of_beq he;refine nD ((hx.up u3).up u4) oz oz fun k5 u5=>⟨_,rfl,fun h=>?_,fun _=>?_⟩
  ·rw [aDa he,jX,decide_eq_true rfl]at h;cases h
  ·exact back k5 (u1.trans (u2.trans (u3.trans (u4.trans u5))))
 ·exact back k4 (u1.trans (u2.trans (u3.trans u4)))
end
