/- Several texts in one. (Printed by prep.py.) -/
import Derived.Test.YtpeakfmjibfkpaaGreatCyVS
namespace Go.Proofs.YtpeakfmjibfkpaaGreat
open IntKind (wrap)
open Go.RowKit
open Value (agg slice int bool tuple)
open Sy (Up Sees CallsG Seg execFn_use)
set_option maxRecDepth 100000
variable {k:World}{R:World→Value→Prop}{A0 A1 A2:Option Addr}{c0 c1 c2 l0 l1 l2:Nat}{n3 n4 n5 n6 n7 n8 n9 n10 n11 n12 n13 n14:Int}{cs15:Array Value}
theorem aVw (hcs15:Seg 24 cs15)
 (h:Cl k 39 #[S3 A0 l0 c0 A1 l1 c1 A2 l2 c2,agg #[int .i64 n3,int .i64 n4],agg #[int .i64 n5,int .i64 n6],agg #[int .i64 n7,int .i64 n8,int .i64 n9,int .i64 n10,int .i64 n11,int .i64 n12,int .i64 n13,int .i64 n14],int .i64 4] fun k1 r0=>∃A16 l16 c16,∃A17 l17 c17,∃A18 l18 c18,∃A19 l19 c19,∃A20 l20 c20,∃A21 l21 c21,∃A22 l22 c22,∃A23 l23 c23,∃A24 l24 c24,∃cs25,Seg 3 cs25∧∃cs26,Seg 3 cs26∧∃cs27,Seg 3 cs27∧∃cs28,Seg 3 cs28∧∃b29,some (tuple #[S3 A16 l16 c16 A17 l17 c17 A18 l18 c18,S6 A19 l19 c19 A20 l20 c20 A21 l21 c21 A22 l22 c22 A23 l23 c23 A24 l24 c24,Rg cs25 cs26 cs27 cs28,bool b29])=some r0∧
 Br (!b29) (Cl k1 13 #[] fun k3 r2=>Gb r2 fun b30=>
 Rt R k3 (bool b30)) (Cl k1 30 #[S3 A16 l16 c16 A17 l17 c17 A18 l18 c18,S6 A19 l19 c19 A20 l20 c20 A21 l21 c21 A22 l22 c22 A23 l23 c23 A24 l24 c24,Rg cs25 cs26 cs27 cs28,int .i64 12] fun k6 r5=>∃n30,∃n31,∃n32,∃A33 l33 c33,∃A34 l34 c34,∃A35 l35 c35,∃A36 l36 c36,∃A37 l37 c37,∃A38 l38 c38,∃n39,some (tuple #[agg #[int .i64 n30,int .i64 n31,int .i64 n32,slice A33 l33 c33,slice A34 l34 c34,slice A35 l35 c35,slice A36 l36 c36,slice A37 l37 c37,slice A38 l38 c38],int .i64 n39])=some r5∧
 Br ((n39:Int) == 5) (∀p40 k7,Up k6 k7→Sy.Blk k7 p40 141 ((int .i64 12) :: (cs25.toList++(cs26.toList++(cs27.toList++(cs28.toList++([])))))).toArray→
 Cl k7 37 #[S3 A16 l16 c16 A17 l17 c17 A18 l18 c18,S6 A19 l19 c19 A20 l20 c20 A21 l21 c21 A22 l22 c22 A23 l23 c23 A24 l24 c24,slice (some ⟨p40,0,none⟩) 1 1] fun k9 r8=>∃A41 l41 c41,∃A42 l42 c42,∃A43 l43 c43,∃A44 l44 c44,∃A45 l45 c45,∃A46 l46 c46,∃n47,some (tuple #[S6 A41 l41 c41 A42 l42 c42 A43 l43 c43 A44 l44 c44 A45 l45 c45 A46 l46 c46,int .i64 n47])=some r8∧
 Br ((n47:Int) == 0) (Cl k9 43 #[S3 A16 l16 c16 A17 l17 c17 A18 l18 c18,S6 A41 l41 c41 A42 l42 c42 A43 l43 c43 A44 l44 c44 A45 l45 c45 A46 l46 c46] fun k11 r10=>Gb r10 fun b48=>
 Br b48 (Cl k11 48 #[S3 A16 l16 c16 A17 l17 c17 A18 l18 c18,S3 A41 l41 c41 A42 l42 c42 A43 l43 c43] fun k13 r12=>Gb r12 fun b49=>
 Br (!b49) (Cl k13 13 #[] fun k15 r14=>Gb r14 fun b50=>
 Rt R k15 (bool b50)) (Rt R k13 (bool false))) (Rt R k11 (bool false))) (Rt R k9 (bool false))) (∃J20:World→List Value→Prop,(Br ((n39:Int) != 0) (Br ((n39:Int) != 61) (∀k20,Up k6 k20→J20 k20 [bool true]) (Br (decide ((n30:Int)<0)) (∀k21,Up k6 k21→J20 k21 [bool true]) (Br (decide ((n30:Int) > 12)) (∀k22,Up k6 k22→J20 k22 [bool true]) (Cl k6 43 #[S3 A16 l16 c16 A17 l17 c17 A18 l18 c18,S6 A33 l33 c33 A34 l34 c34 A35 l35 c35 A36 l36 c36 A37 l37 c37 A38 l38 c38] fun k24 r23=>Gb r23 fun b40=>
 Br (!b40) (∀k25,Up k24 k25→J20 k25 [bool true]) (Cl k24 43 #[S3 A16 l16 c16 A17 l17 c17 A18 l18 c18,S6 A19 l19 c19 A20 l20 c20 A21 l21 c21 A22 l22 c22 A23 l23 c23 A24 l24 c24] fun k27 r26=>Gb r26 fun b41=>
 ∀k28,Up k27 k28→J20 k28 [bool (!b41)]))))) (Br (decide ((n30:Int)<0)) (∀k29,Up k6 k29→J20 k29 [bool true]) (Br (decide ((n30:Int) > 12)) (∀k30,Up k6 k30→J20 k30 [bool true]) (Cl k6 43 #[S3 A16 l16 c16 A17 l17 c17 A18 l18 c18,S6 A33 l33 c33 A34 l34 c34 A35 l35 c35 A36 l36 c36 A37 l37 c37 A38 l38 c38] fun k32 r31=>Gb r31 fun b40=>
 Br (!b40) (∀k33,Up k32 k33→J20 k33 [bool true]) (Cl k32 43 #[S3 A16 l16 c16 A17 l17 c17 A18 l18 c18,S6 A19 l19 c19 A20 l20 c20 A21 l21 c21 A22 l22 c22 A23 l23 c23 A24 l24 c24] fun k35 r34=>Gb r34 fun b41=>
 ∀k36,Up k35 k36→J20 k36 [bool (!b41)])))))∧
 ∀k37 vs37,Up k6 k37→J20 k37 vs37→∃b40,some [bool b40]=some vs37∧
 Br b40 (Rt R k37 (bool false)) ((decide ((0:Int)≤(if (decide ((6:Int)<n30))=true then 6 else n30)))=true∧
 ((decide (((if (decide ((6:Int)<n30))=true then 6 else n30):Int)≤12))=true∧
 ((decide ((0:Int)≤(if (decide ((6:Int)<n30))=true then 6 else n30)))=true∧
 (∃I39:Nat→World→List Value→Prop,(∃m39,∀k39,Up k37 k39→I39 m39 k39 [int .i64 0,S3 A22 l22 c22 A23 l23 c23 A24 l24 c24])∧
 ∀m39 k39 vs39,Up k37 k39→I39 m39 k39 vs39→∃n41,∃A42 l42 c42,∃A43 l43 c43,∃A44 l44 c44,some [int .i64 n41,S3 A42 l42 c42 A43 l43 c43 A44 l44 c44]=some vs39∧
 Br (decide ((n41:Int)<(if (decide ((6:Int)<n30))=true then 6 else n30))) ((decide ((0:Int)≤n41∧(n41:Int)<(if (decide ((6:Int)<n30))=true then 6 else n30)))=true∧
 ((decide (((if (decide ((6:Int)<n30))=true then 6 else n30):Int)≤12))=true∧
 (∃n45,∃n46,some (agg (Sy.pickL cs15 (Int.toNat n41*2+0) 2).toArray)=some (agg #[int .u8 n45,int .u8 n46])∧
 Cl k39 44 #[agg (cs25.toList++(cs26.toList++([]))).toArray,int .u8 n45] fun k41 r40=>Gt 3 r40 fun cs47=>
 Cl k41 44 #[agg (cs27.toList++(cs28.toList++([]))).toArray,int .u8 n46] fun k43 r42=>Gt 3 r42 fun cs48=>
 Cl k43 45 #[S3 A16 l16 c16 A17 l17 c17 A18 l18 c18,S3 A42 l42 c42 A43 l43 c43 A44 l44 c44,agg cs47,agg cs48] fun k45 r44=>∃A49 l49 c49,∃A50 l50 c50,∃A51 l51 c51,∃n52,some (tuple #[S3 A49 l49 c49 A50 l50 c50 A51 l51 c51,int .i64 n52])=some r44∧
 Br ((n52:Int) != 0) (Rt R k45 (bool false)) (Cl k45 42 #[S3 A16 l16 c16 A17 l17 c17 A18 l18 c18,S3 A49 l49 c49 A50 l50 c50 A51 l51 c51] fun k48 r47=>Gb r47 fun b53=>
 Br (!b53) (Rt R k48 (bool false)) (∀k50,Up k48 k50→∃m,m<m39∧I39 m k50 [int .i64 (wrap .i64 (n41+1)),S3 A49 l49 c49 A50 l50 c50 A51 l51 c51]))))) (∃J51:World→List Value→Prop,(Br (decide ((n30:Int)≤6)) (Cl k39 48 #[S3 A16 l16 c16 A17 l17 c17 A18 l18 c18,S3 A42 l42 c42 A43 l43 c43 A44 l44 c44] fun k52 r51=>Gb r51 fun b45=>
 Br (!b45) (∀k53,Up k52 k53→J51 k53 [bool true]) (Cl k52 48 #[S3 A16 l16 c16 A17 l17 c17 A18 l18 c18,S3 A33 l33 c33 A34 l34 c34 A35 l35 c35] fun k55 r54=>Gb r54 fun b46=>
 Br (!b46) (∀k56,Up k55 k56→J51 k56 [bool true]) (Cl k55 49 #[S3 A16 l16 c16 A17 l17 c17 A18 l18 c18,S3 A36 l36 c36 A37 l37 c37 A38 l38 c38] fun k58 r57=>Gb r57 fun b47=>
 ∀k59,Up k58 k59→J51 k59 [bool (!(b47 == ((n39:Int) == 61)))]))) (Cl k39 48 #[S3 A16 l16 c16 A17 l17 c17 A18 l18 c18,S3 A33 l33 c33 A34 l34 c34 A35 l35 c35] fun k61 r60=>Gb r60 fun b45=>
 Br (!b45) (∀k62,Up k61 k62→J51 k62 [bool true]) (Cl k61 49 #[S3 A16 l16 c16 A17 l17 c17 A18 l18 c18,S3 A36 l36 c36 A37 l37 c37 A38 l38 c38] fun k64 r63=>Gb r63 fun b46=>
 ∀k65,Up k64 k65→J51 k65 [bool (!(b46 == ((n39:Int) == 61)))])))∧
 ∀k66 vs66,Up k39 k66→J51 k66 vs66→∃b45,some [bool b45]=some vs66∧
 Br b45 (Rt R k66 (bool false)) (Cl k66 32 #[S3 A16 l16 c16 A17 l17 c17 A18 l18 c18,S6 A19 l19 c19 A20 l20 c20 A21 l21 c21 A22 l22 c22 A23 l23 c23 A24 l24 c24,Rg cs25 cs26 cs27 cs28,int .i64 12] fun k69 r68=>∃n46,∃n47,some (tuple #[int .i64 n46,int .i64 n47])=some r68∧
 ∃J70:World→List Value→Prop,(Br ((n47:Int) == 0) (∀k70,Up k69 k70→J70 k70 [bool (!((decide ((n46:Int) ≥ n30)) == ((n39:Int) == 0)))]) (∀k71,Up k69 k71→J70 k71 [bool (!(false == ((n39:Int) == 0)))]))∧
 ∀k72 vs72,Up k69 k72→J70 k72 vs72→∃b48,some [bool b48]=some vs72∧
 Br b48 (Rt R k72 (bool false)) (Br ((n30:Int) == 0) (Br ((n31:Int) == (-1)) (Cl k72 13 #[] fun k75 r74=>Gb r74 fun b49=>
 Rt R k75 (bool b49)) (Rt R k72 (bool false))) (∀p49 k78,Up k72 k78→Sy.Blk k78 p49 141 ((int .i64 (wrap .i64 (n30-1))) :: (cs25.toList++(cs26.toList++(cs27.toList++(cs28.toList++([])))))).toArray→
 Cl k78 37 #[S3 A16 l16 c16 A17 l17 c17 A18 l18 c18,S6 A19 l19 c19 A20 l20 c20 A21 l21 c21 A22 l22 c22 A23 l23 c23 A24 l24 c24,slice (some ⟨p49,0,none⟩) 1 1] fun k80 r79=>∃A50 l50 c50,∃A51 l51 c51,∃A52 l52 c52,∃A53 l53 c53,∃A54 l54 c54,∃A55 l55 c55,∃n56,some (tuple #[S6 A50 l50 c50 A51 l51 c51 A52 l52 c52 A53 l53 c53 A54 l54 c54 A55 l55 c55,int .i64 n56])=some r79∧
 Br ((n56:Int) == 0) (Cl k80 43 #[S3 A16 l16 c16 A17 l17 c17 A18 l18 c18,S6 A50 l50 c50 A51 l51 c51 A52 l52 c52 A53 l53 c53 A54 l54 c54 A55 l55 c55] fun k82 r81=>Gb r81 fun b57=>
 Br b57 (Br (decide ((n31:Int) ≥ 0)) (Tt∧(Br (decide ((n31:Int)<(l17:Nat))) (El k82 A51 n31 l51 3 fun cs58=>
 Ad A17∧Ix n31 l17∧
 Ad A17∧Ix n31 l17∧
 ∃n59,Sy.ReadAt k82.cell? A17 (Int.toNat n31*10+0) 1 (int .i64 n59)∧
 Ad A16∧Ix n59 l16∧
 Ad A16∧Ix n59 l16∧
 ∃cs60,Seg 3 cs60∧Sy.ReadAt k82.cell? A16 (Int.toNat n59*8+2) 3 (agg cs60)∧
 Cl k82 50 #[agg cs58,agg cs60] fun k84 r83=>Gi r83 fun n61=>
 Br (decide ((n61:Int)<0)) (Cl k84 13 #[] fun k86 r85=>Gb r85 fun b62=>
 Rt R k86 (bool b62)) (Rt R k84 (bool false))) (Rt R k82 (bool false)))) (Rt R k82 (bool false))) (Rt R k82 (bool false))) (Rt R k80 (bool false))))))))))))) :
  CallsG Tryz.prog 9 #[S3 A0 l0 c0 A1 l1 c1 A2 l2 c2,agg #[int .i64 n3,int .i64 n4],agg #[int .i64 n5,int .i64 n6],agg #[int .i64 n7,int .i64 n8,int .i64 n9,int .i64 n10,int .i64 n11,int .i64 n12,int .i64 n13,int .i64 n14],agg cs15] k R:=
  qX { opq:=[75,81,145],loops:=[(0,[.tmp 110 false [.int .i64],.blk 9 [.slice,.slice,.slice]])],joins:=[(8,[.tmp 102 false [.bool]]),(19,[.tmp 165 false [.bool]]),(22,[.tmp 183 false [.bool]])] } [.agg (qV 0 3),.agg (qV 3 2),.agg (qV 5 2),.agg (qV 7 8),.agg [.seg 15 24]] [slice A0 l0 c0,slice A1 l1 c1,slice A2 l2 c2,int .i64 n3,int .i64 n4,int .i64 n5,int .i64 n6,int .i64 n7,int .i64 n8,int .i64 n9,int .i64 n10,int .i64 n11,int .i64 n12,int .i64 n13,int .i64 n14,agg cs15] [.slice,.slice,.slice,.int .i64,.int .i64,.int .i64,.int .i64,.int .i64,.int .i64,.int .i64,.int .i64,.int .i64,.int .i64,.int .i64,.int .i64,.seg 24] ⟨qS,qS,qS,⟨_,rfl⟩,⟨_,rfl⟩,⟨_,rfl⟩,⟨_,rfl⟩,⟨_,rfl⟩,⟨_,rfl⟩,⟨_,rfl⟩,⟨_,rfl⟩,⟨_,rfl⟩,⟨_,rfl⟩,⟨_,rfl⟩,⟨_,rfl⟩,⟨cs15,rfl,hcs15⟩,trivial⟩ h
