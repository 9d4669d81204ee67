/- What is to be shown of the calls of some functions. (Printed by gen/vc.py.) -/
import Derived.Test.YtpjakokgmgggiaaGreatSuVS
import Derived.Test.YtpjakokgmgggiaaGreatProg
import Derived.Test.YtpjakokgmgggiaaGreatSuSy14
namespace Go.Proofs.YtpjakokgmgggiaaGreat
open Go.RowKit
open Value (agg slice int bool tuple)
open Sy (Up Sees CallsG Seg execFn_use)
set_option maxRecDepth 100000
variable {k : World} {R : World→Value→Prop}
theorem SDiv_vc2 {b0 : Bool} {A1 : Option Addr} {l1 c1 : Nat} {b2 : Bool} {A3 : Option Addr} {l3 c3 : Nat} {b4 : Bool} {A5 : Option Addr} {l5 c5 : Nat} {b6 : Bool} {A7 : Option Addr} {l7 c7 : Nat} {A8 : Option Addr} {l8 c8 : Nat} {b9 : Bool} {A10 : Option Addr} {l10 c10 : Nat} {b11 : Bool} {A12 : Option Addr} {l12 c12 : Nat} {b13 : Bool} {A14 : Option Addr} {l14 c14 : Nat} {b15 : Bool} {A16 : Option Addr} {l16 c16 : Nat} {A17 : Option Addr} {l17 c17 : Nat}
 (h : Cl k 90 #[agg #[bool b9,slice A10 l10 c10,bool b11,slice A12 l12 c12,bool b13,slice A14 l14 c14,bool b15,slice A16 l16 c16,slice A17 l17 c17]] fun k1 r0=>∃ b18,some (bool b18) = some r0 ∧
 (b18 = true →
 (∀ k2,Up k1 k2→R k2 (tuple #[agg #[bool false,slice none 0 0,bool false,slice none 0 0,bool false,slice none 0 0,bool false,slice none 0 0,slice none 0 0],int .i64 3]))) ∧
 (b18 = false →
 (Cl k1 144 #[agg #[bool b13,slice A14 l14 c14]] fun k4 r3=>∃ b19,∃ A20 l20 c20,some (agg #[bool b19,slice A20 l20 c20]) = some r3 ∧
 Cl k4 144 #[agg #[bool b15,slice A16 l16 c16]] fun k6 r5=>∃ b21,∃ A22 l22 c22,some (agg #[bool b21,slice A22 l22 c22]) = some r5 ∧
 Cl k6 160 #[agg #[bool b9,slice A10 l10 c10,bool b11,slice A12 l12 c12,bool b13,slice A14 l14 c14,bool b15,slice A16 l16 c16],agg #[bool b9,slice A10 l10 c10,bool b11,slice A12 l12 c12,bool b19,slice A20 l20 c20,bool b21,slice A22 l22 c22]] fun k8 r7=>∃ b23,∃ A24 l24 c24,∃ b25,∃ A26 l26 c26,∃ b27,∃ A28 l28 c28,∃ b29,∃ A30 l30 c30,some (agg #[bool b23,slice A24 l24 c24,bool b25,slice A26 l26 c26,bool b27,slice A28 l28 c28,bool b29,slice A30 l30 c30]) = some r7 ∧
 Cl k8 144 #[agg #[bool b25,slice A26 l26 c26]] fun k10 r9=>∃ b31,∃ A32 l32 c32,some (agg #[bool b31,slice A32 l32 c32]) = some r9 ∧
 Cl k10 160 #[agg #[bool b0,slice A1 l1 c1,bool b2,slice A3 l3 c3,bool b4,slice A5 l5 c5,bool b6,slice A7 l7 c7],agg #[bool b9,slice A10 l10 c10,bool b11,slice A12 l12 c12,bool b19,slice A20 l20 c20,bool b21,slice A22 l22 c22]] fun k12 r11=>∃ b33,∃ A34 l34 c34,∃ b35,∃ A36 l36 c36,∃ b37,∃ A38 l38 c38,∃ b39,∃ A40 l40 c40,some (agg #[bool b33,slice A34 l34 c34,bool b35,slice A36 l36 c36,bool b37,slice A38 l38 c38,bool b39,slice A40 l40 c40]) = some r11 ∧
 Cl k12 160 #[agg #[bool b33,slice A34 l34 c34,bool b35,slice A36 l36 c36,bool b37,slice A38 l38 c38,bool b39,slice A40 l40 c40],agg #[bool b23,slice A24 l24 c24,bool b31,slice A32 l32 c32,bool false,slice none 0 0,bool false,slice none 0 0]] fun k14 r13=>∃ b41,∃ A42 l42 c42,∃ b43,∃ A44 l44 c44,∃ b45,∃ A46 l46 c46,∃ b47,∃ A48 l48 c48,some (agg #[bool b41,slice A42 l42 c42,bool b43,slice A44 l44 c44,bool b45,slice A46 l46 c46,bool b47,slice A48 l48 c48]) = some r13 ∧
 Cl k14 160 #[agg #[bool b23,slice A24 l24 c24,bool b25,slice A26 l26 c26,bool b27,slice A28 l28 c28,bool b29,slice A30 l30 c30],agg #[bool b23,slice A24 l24 c24,bool b31,slice A32 l32 c32,bool false,slice none 0 0,bool false,slice none 0 0]] fun k16 r15=>∃ b49,∃ A50 l50 c50,∃ b51,∃ A52 l52 c52,∃ b53,∃ A54 l54 c54,∃ b55,∃ A56 l56 c56,some (agg #[bool b49,slice A50 l50 c50,bool b51,slice A52 l52 c52,bool b53,slice A54 l54 c54,bool b55,slice A56 l56 c56]) = some r15 ∧
 Cl k16 130 #[slice A17 l17 c17] fun k18 r17=>∃ A57 l57 c57,some (slice A57 l57 c57) = some r17 ∧
 Cl k18 129 #[agg #[bool b41,slice A42 l42 c42],slice A57 l57 c57] fun k20 r19=>∃ b58,∃ A59 l59 c59,some (agg #[bool b58,slice A59 l59 c59]) = some r19 ∧
 (b49 = true →
 (Cl k20 144 #[agg #[bool b58,slice A59 l59 c59]] fun k22 r21=>∃ b60,∃ A61 l61 c61,some (agg #[bool b60,slice A61 l61 c61]) = some r21 ∧
 Cl k22 130 #[slice A17 l17 c17] fun k24 r23=>∃ A62 l62 c62,some (slice A62 l62 c62) = some r23 ∧
 Cl k24 129 #[agg #[bool b43,slice A44 l44 c44],slice A62 l62 c62] fun k26 r25=>∃ b63,∃ A64 l64 c64,some (agg #[bool b63,slice A64 l64 c64]) = some r25 ∧
 Cl k26 144 #[agg #[bool b63,slice A64 l64 c64]] fun k28 r27=>∃ b65,∃ A66 l66 c66,some (agg #[bool b65,slice A66 l66 c66]) = some r27 ∧
 Cl k28 130 #[slice A17 l17 c17] fun k30 r29=>∃ A67 l67 c67,some (slice A67 l67 c67) = some r29 ∧
 Cl k30 129 #[agg #[bool b45,slice A46 l46 c46],slice A67 l67 c67] fun k32 r31=>∃ b68,∃ A69 l69 c69,some (agg #[bool b68,slice A69 l69 c69]) = some r31 ∧
 Cl k32 144 #[agg #[bool b68,slice A69 l69 c69]] fun k34 r33=>∃ b70,∃ A71 l71 c71,some (agg #[bool b70,slice A71 l71 c71]) = some r33 ∧
 Cl k34 130 #[slice A17 l17 c17] fun k36 r35=>∃ A72 l72 c72,some (slice A72 l72 c72) = some r35 ∧
 Cl k36 129 #[agg #[bool b47,slice A48 l48 c48],slice A72 l72 c72] fun k38 r37=>∃ b73,∃ A74 l74 c74,some (agg #[bool b73,slice A74 l74 c74]) = some r37 ∧
 Cl k38 144 #[agg #[bool b73,slice A74 l74 c74]] fun k40 r39=>∃ b75,∃ A76 l76 c76,some (agg #[bool b75,slice A76 l76 c76]) = some r39 ∧
 Cl k40 130 #[slice A8 l8 c8] fun k42 r41=>∃ A77 l77 c77,some (slice A77 l77 c77) = some r41 ∧
 Cl k42 133 #[slice A77 l77 c77,slice A50 l50 c50] fun k44 r43=>∃ A78 l78 c78,some (slice A78 l78 c78) = some r43 ∧
 Cl k44 161 #[agg #[bool b60,slice A61 l61 c61,bool b65,slice A66 l66 c66,bool b70,slice A71 l71 c71,bool b75,slice A76 l76 c76],slice A78 l78 c78] fun k46 r45=>∃ b79,∃ A80 l80 c80,∃ b81,∃ A82 l82 c82,∃ b83,∃ A84 l84 c84,∃ b85,∃ A86 l86 c86,∃ A87 l87 c87,some (agg #[bool b79,slice A80 l80 c80,bool b81,slice A82 l82 c82,bool b83,slice A84 l84 c84,bool b85,slice A86 l86 c86,slice A87 l87 c87]) = some r45 ∧
 ∀ k47,Up k46 k47→R k47 (tuple #[agg #[bool b79,slice A80 l80 c80,bool b81,slice A82 l82 c82,bool b83,slice A84 l84 c84,bool b85,slice A86 l86 c86,slice A87 l87 c87],int .i64 0]))) ∧
 (b49 = false →
 (Cl k20 130 #[slice A17 l17 c17] fun k49 r48=>∃ A60 l60 c60,some (slice A60 l60 c60) = some r48 ∧
 Cl k49 129 #[agg #[bool b43,slice A44 l44 c44],slice A60 l60 c60] fun k51 r50=>∃ b61,∃ A62 l62 c62,some (agg #[bool b61,slice A62 l62 c62]) = some r50 ∧
 Cl k51 130 #[slice A17 l17 c17] fun k53 r52=>∃ A63 l63 c63,some (slice A63 l63 c63) = some r52 ∧
 Cl k53 129 #[agg #[bool b45,slice A46 l46 c46],slice A63 l63 c63] fun k55 r54=>∃ b64,∃ A65 l65 c65,some (agg #[bool b64,slice A65 l65 c65]) = some r54 ∧
 Cl k55 130 #[slice A17 l17 c17] fun k57 r56=>∃ A66 l66 c66,some (slice A66 l66 c66) = some r56 ∧
 Cl k57 129 #[agg #[bool b47,slice A48 l48 c48],slice A66 l66 c66] fun k59 r58=>∃ b67,∃ A68 l68 c68,some (agg #[bool b67,slice A68 l68 c68]) = some r58 ∧
 Cl k59 130 #[slice A8 l8 c8] fun k61 r60=>∃ A69 l69 c69,some (slice A69 l69 c69) = some r60 ∧
 Cl k61 133 #[slice A69 l69 c69,slice A50 l50 c50] fun k63 r62=>∃ A70 l70 c70,some (slice A70 l70 c70) = some r62 ∧
 Cl k63 161 #[agg #[bool b58,slice A59 l59 c59,bool b61,slice A62 l62 c62,bool b64,slice A65 l65 c65,bool b67,slice A68 l68 c68],slice A70 l70 c70] fun k65 r64=>∃ b71,∃ A72 l72 c72,∃ b73,∃ A74 l74 c74,∃ b75,∃ A76 l76 c76,∃ b77,∃ A78 l78 c78,∃ A79 l79 c79,some (agg #[bool b71,slice A72 l72 c72,bool b73,slice A74 l74 c74,bool b75,slice A76 l76 c76,bool b77,slice A78 l78 c78,slice A79 l79 c79]) = some r64 ∧
 ∀ k66,Up k65 k66→R k66 (tuple #[agg #[bool b71,slice A72 l72 c72,bool b73,slice A74 l74 c74,bool b75,slice A76 l76 c76,bool b77,slice A78 l78 c78,slice A79 l79 c79],int .i64 0])))))) :
  CallsG Tryz.prog 69 #[agg #[bool b0,slice A1 l1 c1,bool b2,slice A3 l3 c3,bool b4,slice A5 l5 c5,bool b6,slice A7 l7 c7,slice A8 l8 c8],agg #[bool b9,slice A10 l10 c10,bool b11,slice A12 l12 c12,bool b13,slice A14 l14 c14,bool b15,slice A16 l16 c16,slice A17 l17 c17]] k R :=
  execFn_use (cfg:={ opq:=[],loops:=[],sub:=true }) (args:=[.agg [.var 0,.var 1,.var 2,.var 3,.var 4,.var 5,.var 6,.var 7,.var 8],.agg [.var 9,.var 10,.var 11,.var 12,.var 13,.var 14,.var 15,.var 16,.var 17]]) (vals:=[bool b0,slice A1 l1 c1,bool b2,slice A3 l3 c3,bool b4,slice A5 l5 c5,bool b6,slice A7 l7 c7,slice A8 l8 c8,bool b9,slice A10 l10 c10,bool b11,slice A12 l12 c12,bool b13,slice A14 l14 c14,bool b15,slice A16 l16 c16,slice A17 l17 c17]) (kinds:=[.bool,.slice,.bool,.slice,.bool,.slice,.bool,.slice,.slice,.bool,.slice,.bool,.slice,.bool,.slice,.bool,.slice,.slice]) (by kernel_rfl) ⟨⟨_,rfl⟩,⟨⟨_,_,_,rfl⟩,⟨⟨_,rfl⟩,⟨⟨_,_,_,rfl⟩,⟨⟨_,rfl⟩,⟨⟨_,_,_,rfl⟩,⟨⟨_,rfl⟩,⟨⟨_,_,_,rfl⟩,⟨⟨_,_,_,rfl⟩,⟨⟨_,rfl⟩,⟨⟨_,_,_,rfl⟩,⟨⟨_,rfl⟩,⟨⟨_,_,_,rfl⟩,⟨⟨_,rfl⟩,⟨⟨_,_,_,rfl⟩,⟨⟨_,rfl⟩,⟨⟨_,_,_,rfl⟩,⟨⟨_,_,_,rfl⟩,trivial⟩⟩⟩⟩⟩⟩⟩⟩⟩⟩⟩⟩⟩⟩⟩⟩⟩⟩ (by kernel_rfl) (by kernel_rfl) h
end Go.Proofs.YtpjakokgmgggiaaGreat
