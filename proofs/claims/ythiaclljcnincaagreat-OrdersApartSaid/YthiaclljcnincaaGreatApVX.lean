/- What is to be shown of the calls of some functions. (Printed by gen/vc.py.) -/
import Derived.Test.YthiaclljcnincaaGreatApVS
namespace Go.Proofs.YthiaclljcnincaaGreat
open Go.RowKit
open Value (agg slice int bool tuple)
open Sy (Up Sees CallsG Seg execFn_use)
set_option maxRecDepth 100000
variable {k:World}{R:World→Value→Prop}{cs0:Array Value}
theorem aLh (hcs0:Seg 9 cs0)
 (h:Cl k 30 #[agg cs0] fun k1 r0=>∃cs1,Seg 3 cs1∧∃cs2,Seg 3 cs2∧∃cs3,Seg 3 cs3∧∃cs4,Seg 3 cs4∧some (Rg cs1 cs2 cs3 cs4)=some r0∧
 ∃I2:Nat→World→List Value→Prop,(∃m2,∀k2,Up k1 k2→I2 m2 k2 [Value.string ⟨#[]⟩,int .i64 0])∧
 ∀m2 k2 vs2,Up k1 k2→I2 m2 k2 vs2→∃s5,∃n6,some [Value.string s5,int .i64 n6]=some vs2∧
 Br ((n6:Int) == 0) (Cl k2 31 #[agg cs1] fun k4 r3=>Gb r3 fun b7=>
 Br b7 (∀k5,Up k4 k5→∃m,m<m2∧I2 m k5 [Value.string s5,int .i64 1]) (Br (!(ByteArray.toList s5 == ByteArray.toList ⟨#[]⟩)) (Cl k4 32 #[agg cs1] fun k7 r6=>Gi r6 fun n8=>
 Br (decide ((n8:Int) > 0)) ((decide (((ByteArray.size s5+ByteArray.size ⟨#[43]⟩:Nat):Int)≤9223372036854775807))=true∧
 (Cl k7 33 #[agg cs1] fun k9 r8=>∃s9,some (Value.string s9)=some r8∧
 Cl k9 34 #[] fun k11 r10=>∃s10,∃s11,∃s12,∃s13,some (agg #[Value.string s10,Value.string s11,Value.string s12,Value.string s13])=some r10∧
 (decide (((ByteArray.size s9+ByteArray.size s10:Nat):Int)≤9223372036854775807))=true∧
 ((decide (((ByteArray.size (s5++⟨#[43]⟩)+ByteArray.size (s9++s10):Nat):Int)≤9223372036854775807))=true∧
 (∀k12,Up k11 k12→∃m,m<m2∧I2 m k12 [Value.string ((s5++⟨#[43]⟩)++(s9++s10)),int .i64 1])))) (Cl k7 33 #[agg cs1] fun k14 r13=>∃s9,some (Value.string s9)=some r13∧
 Cl k14 34 #[] fun k16 r15=>∃s10,∃s11,∃s12,∃s13,some (agg #[Value.string s10,Value.string s11,Value.string s12,Value.string s13])=some r15∧
 (decide (((ByteArray.size s9+ByteArray.size s10:Nat):Int)≤9223372036854775807))=true∧
 ((decide (((ByteArray.size s5+ByteArray.size (s9++s10):Nat):Int)≤9223372036854775807))=true∧
 (∀k17,Up k16 k17→∃m,m<m2∧I2 m k17 [Value.string (s5++(s9++s10)),int .i64 1])))) (Cl k4 33 #[agg cs1] fun k19 r18=>∃s8,some (Value.string s8)=some r18∧
 Cl k19 34 #[] fun k21 r20=>∃s9,∃s10,∃s11,∃s12,some (agg #[Value.string s9,Value.string s10,Value.string s11,Value.string s12])=some r20∧
 (decide (((ByteArray.size s8+ByteArray.size s9:Nat):Int)≤9223372036854775807))=true∧
 ((decide (((ByteArray.size s5+ByteArray.size (s8++s9):Nat):Int)≤9223372036854775807))=true∧
 (∀k22,Up k21 k22→∃m,m<m2∧I2 m k22 [Value.string (s5++(s8++s9)),int .i64 1]))))) (Br ((n6:Int) == 1) (Cl k2 31 #[agg cs2] fun k24 r23=>Gb r23 fun b7=>
 Br b7 (∀k25,Up k24 k25→∃m,m<m2∧I2 m k25 [Value.string s5,int .i64 2]) (Br (!(ByteArray.toList s5 == ByteArray.toList ⟨#[]⟩)) (Cl k24 32 #[agg cs2] fun k27 r26=>Gi r26 fun n8=>
 Br (decide ((n8:Int) > 0)) ((decide (((ByteArray.size s5+ByteArray.size ⟨#[43]⟩:Nat):Int)≤9223372036854775807))=true∧
 (Cl k27 33 #[agg cs2] fun k29 r28=>∃s9,some (Value.string s9)=some r28∧
 Cl k29 34 #[] fun k31 r30=>∃s10,∃s11,∃s12,∃s13,some (agg #[Value.string s10,Value.string s11,Value.string s12,Value.string s13])=some r30∧
 (decide (((ByteArray.size s9+ByteArray.size s11:Nat):Int)≤9223372036854775807))=true∧
 ((decide (((ByteArray.size (s5++⟨#[43]⟩)+ByteArray.size (s9++s11):Nat):Int)≤9223372036854775807))=true∧
 (∀k32,Up k31 k32→∃m,m<m2∧I2 m k32 [Value.string ((s5++⟨#[43]⟩)++(s9++s11)),int .i64 2])))) (Cl k27 33 #[agg cs2] fun k34 r33=>∃s9,some (Value.string s9)=some r33∧
 Cl k34 34 #[] fun k36 r35=>∃s10,∃s11,∃s12,∃s13,some (agg #[Value.string s10,Value.string s11,Value.string s12,Value.string s13])=some r35∧
 (decide (((ByteArray.size s9+ByteArray.size s11:Nat):Int)≤9223372036854775807))=true∧
 ((decide (((ByteArray.size s5+ByteArray.size (s9++s11):Nat):Int)≤9223372036854775807))=true∧
 (∀k37,Up k36 k37→∃m,m<m2∧I2 m k37 [Value.string (s5++(s9++s11)),int .i64 2])))) (Cl k24 33 #[agg cs2] fun k39 r38=>∃s8,some (Value.string s8)=some r38∧
 Cl k39 34 #[] fun k41 r40=>∃s9,∃s10,∃s11,∃s12,some (agg #[Value.string s9,Value.string s10,Value.string s11,Value.string s12])=some r40∧
 (decide (((ByteArray.size s8+ByteArray.size s10:Nat):Int)≤9223372036854775807))=true∧
 ((decide (((ByteArray.size s5+ByteArray.size (s8++s10):Nat):Int)≤9223372036854775807))=true∧
 (∀k42,Up k41 k42→∃m,m<m2∧I2 m k42 [Value.string (s5++(s8++s10)),int .i64 2]))))) (Br ((n6:Int) == 2) (Cl k2 31 #[agg cs3] fun k44 r43=>Gb r43 fun b7=>
 Br b7 (∀k45,Up k44 k45→∃m,m<m2∧I2 m k45 [Value.string s5,int .i64 3]) (Br (!(ByteArray.toList s5 == ByteArray.toList ⟨#[]⟩)) (Cl k44 32 #[agg cs3] fun k47 r46=>Gi r46 fun n8=>
 Br (decide ((n8:Int) > 0)) ((decide (((ByteArray.size s5+ByteArray.size ⟨#[43]⟩:Nat):Int)≤9223372036854775807))=true∧
 (Cl k47 33 #[agg cs3] fun k49 r48=>∃s9,some (Value.string s9)=some r48∧
 Cl k49 34 #[] fun k51 r50=>∃s10,∃s11,∃s12,∃s13,some (agg #[Value.string s10,Value.string s11,Value.string s12,Value.string s13])=some r50∧
 (decide (((ByteArray.size s9+ByteArray.size s12:Nat):Int)≤9223372036854775807))=true∧
 ((decide (((ByteArray.size (s5++⟨#[43]⟩)+ByteArray.size (s9++s12):Nat):Int)≤9223372036854775807))=true∧
 (∀k52,Up k51 k52→∃m,m<m2∧I2 m k52 [Value.string ((s5++⟨#[43]⟩)++(s9++s12)),int .i64 3])))) (Cl k47 33 #[agg cs3] fun k54 r53=>∃s9,some (Value.string s9)=some r53∧
 Cl k54 34 #[] fun k56 r55=>∃s10,∃s11,∃s12,∃s13,some (agg #[Value.string s10,Value.string s11,Value.string s12,Value.string s13])=some r55∧
 (decide (((ByteArray.size s9+ByteArray.size s12:Nat):Int)≤9223372036854775807))=true∧
 ((decide (((ByteArray.size s5+ByteArray.size (s9++s12):Nat):Int)≤9223372036854775807))=true∧
 (∀k57,Up k56 k57→∃m,m<m2∧I2 m k57 [Value.string (s5++(s9++s12)),int .i64 3])))) (Cl k44 33 #[agg cs3] fun k59 r58=>∃s8,some (Value.string s8)=some r58∧
 Cl k59 34 #[] fun k61 r60=>∃s9,∃s10,∃s11,∃s12,some (agg #[Value.string s9,Value.string s10,Value.string s11,Value.string s12])=some r60∧
 (decide (((ByteArray.size s8+ByteArray.size s11:Nat):Int)≤9223372036854775807))=true∧
 ((decide (((ByteArray.size s5+ByteArray.size (s8++s11):Nat):Int)≤9223372036854775807))=true∧
 (∀k62,Up k61 k62→∃m,m<m2∧I2 m k62 [Value.string (s5++(s8++s11)),int .i64 3]))))) (Br ((n6:Int) == 3) (Cl k2 31 #[agg cs4] fun k64 r63=>Gb r63 fun b7=>
 Br b7 (∀k65,Up k64 k65→∃m,m<m2∧I2 m k65 [Value.string s5,int .i64 4]) (Br (!(ByteArray.toList s5 == ByteArray.toList ⟨#[]⟩)) (Cl k64 32 #[agg cs4] fun k67 r66=>Gi r66 fun n8=>
 Br (decide ((n8:Int) > 0)) ((decide (((ByteArray.size s5+ByteArray.size ⟨#[43]⟩:Nat):Int)≤9223372036854775807))=true∧
 (Cl k67 33 #[agg cs4] fun k69 r68=>∃s9,some (Value.string s9)=some r68∧
 Cl k69 34 #[] fun k71 r70=>∃s10,∃s11,∃s12,∃s13,some (agg #[Value.string s10,Value.string s11,Value.string s12,Value.string s13])=some r70∧
 (decide (((ByteArray.size s9+ByteArray.size s13:Nat):Int)≤9223372036854775807))=true∧
 ((decide (((ByteArray.size (s5++⟨#[43]⟩)+ByteArray.size (s9++s13):Nat):Int)≤9223372036854775807))=true∧
 (∀k72,Up k71 k72→∃m,m<m2∧I2 m k72 [Value.string ((s5++⟨#[43]⟩)++(s9++s13)),int .i64 4])))) (Cl k67 33 #[agg cs4] fun k74 r73=>∃s9,some (Value.string s9)=some r73∧
 Cl k74 34 #[] fun k76 r75=>∃s10,∃s11,∃s12,∃s13,some (agg #[Value.string s10,Value.string s11,Value.string s12,Value.string s13])=some r75∧
 (decide (((ByteArray.size s9+ByteArray.size s13:Nat):Int)≤9223372036854775807))=true∧
 ((decide (((ByteArray.size s5+ByteArray.size (s9++s13):Nat):Int)≤9223372036854775807))=true∧
 (∀k77,Up k76 k77→∃m,m<m2∧I2 m k77 [Value.string (s5++(s9++s13)),int .i64 4])))) (Cl k64 33 #[agg cs4] fun k79 r78=>∃s8,some (Value.string s8)=some r78∧
 Cl k79 34 #[] fun k81 r80=>∃s9,∃s10,∃s11,∃s12,some (agg #[Value.string s9,Value.string s10,Value.string s11,Value.string s12])=some r80∧
 (decide (((ByteArray.size s8+ByteArray.size s12:Nat):Int)≤9223372036854775807))=true∧
 ((decide (((ByteArray.size s5+ByteArray.size (s8++s12):Nat):Int)≤9223372036854775807))=true∧
 (∀k82,Up k81 k82→∃m,m<m2∧I2 m k82 [Value.string (s5++(s8++s12)),int .i64 4]))))) (Br ((n6:Int) == 4) (Br (ByteArray.toList s5 == ByteArray.toList ⟨#[]⟩) (Rt R k2 (Value.string ⟨#[48]⟩)) (Rt R k2 (Value.string s5))) (False /- split -/)))))) :
   CallsG Tryz.prog 12 #[agg cs0] k R:=
  qX { opq:=[41,36],loops:=[(0,[.tmp 3 false [.str],.tmp 8 false [.int .i64]])],splits:=[(0,8,[0,1,2,3,4])] } [.agg [.seg 0 9]] [agg cs0] [.seg 9] ⟨⟨cs0,rfl,hcs0⟩,trivial⟩ h
theorem aId
 (h:Rt R k (agg #[Value.string ⟨#[]⟩,Value.string ⟨#[114,50]⟩,Value.string ⟨#[114,51]⟩,Value.string ⟨#[114,54]⟩])) :
 CallsG Tryz.prog 34 #[] k R:=
 qX { opq:=[] } [] [] [] trivial h
