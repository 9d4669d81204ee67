/-
  DERIVED: THE SHELF's CONTRACTS AT THIS DUMP, IN PLAIN WORDS (tools/lay-plain.mjs out of 'TryzShelf.lean', which tools/lay-shelf.mjs wrote): THE SAME DECLARATIONS UNDER THE SAME NAMES: 'import', 'namespace', 'open', 'def', 'theorem' AND NOTHING ELSE: no command of the shelf's: FOR A HAND-IN. Each laying: the table of numbers ('.._ren') and one theorem, a field a fact of the dump's own or the kernel's comparison; each contract: ONE APPLICATION.
-/
import Derived.Shelf.Strings.Builder1
import Derived.Shelf.Strings.Builder2
import Derived.Shelf.Small.Bits
import Derived.Shelf.Strings.BuilderF
import Derived.Shelf.Strings.BuilderK
import Derived.Shelf.Strings.Builder2Cap
import Derived.Shelf.Strconv.Itoa0
import Derived.Shelf.Strings.Prefix
import Derived.Shelf.Bits.Mul64
import Derived.Shelf.Strings.Repeat
import Derived.Shelf.Strings.BuilderCap
import Derived.Test.YthiaclljcnincaaGreatProg
namespace Go.Proofs
open Go.Shelf
def Tryz.lays170_ren : Go.Shelf.Ren := ⟨fun | 170 => 114 | n => n, fun | 70 => 134 | 3 => 3 | 0 => 0 | 72 => 137 | 37 => 135 | 5 => 5 | n => n, fun | n => n⟩
def Tryz.lays169_ren : Go.Shelf.Ren := ⟨fun | 169 => 93 | n => n, fun | 70 => 134 | 9 => 9 | 0 => 0 | 72 => 137 | 37 => 135 | 127 => 162 | 3 => 3 | 5 => 5 | n => n, fun | n => n⟩
theorem Tryz.lays169 : Go.Proofs.Lays.n169 Tryz.prog Tryz.lays169_ren := {
  mixed := by kernel_rfl
  f169 := Tryz.func93.trans (congrArg some (by kernel_rfl))
  t0 := Tryz.underlying0
  a0 := Tryz.isAgg0
  z0 := Tryz.sizeOf0
  v0 := Tryz.zeroValue0
  t3 := Tryz.underlying3
  a3 := Tryz.isAgg3
  z3 := Tryz.sizeOf3
  v3 := Tryz.zeroValue3
  t9 := Tryz.underlying9
  a9 := Tryz.isAgg9
  z9 := Tryz.sizeOf9
  v9 := Tryz.zeroValue9
  t37 := Tryz.underlying135
  a37 := Tryz.isAgg135
  z37 := Tryz.sizeOf135
  v37 := Tryz.zeroValue135
  t70 := Tryz.underlying134
  a70 := Tryz.isAgg134
  z70 := Tryz.sizeOf134
  v70 := Tryz.zeroValue134
  t72 := Tryz.underlying137
  a72 := Tryz.isAgg137
  z72 := Tryz.sizeOf137
  v72 := Tryz.zeroValue137
  t127 := Tryz.underlying162
  a127 := Tryz.isAgg162
  z127 := Tryz.sizeOf162
  v127 := Tryz.zeroValue162 }
theorem Tryz.Builder_Extra_169 : Builder.Extra Tryz.prog Tryz.lays169_ren := {
  sizeBuilder := by kernel_rfl
  liesBuilder := by kernel_rfl
  t5 := Tryz.underlying5
  a5 := Tryz.isAgg5
  z5 := Tryz.sizeOf5
  v5 := Tryz.zeroValue5
  infoByte := by kernel_rfl
  cellsByte := by kernel_rfl
  sizeByte := by kernel_rfl
  neB5 := by decide }
open Go.RowKit in
theorem Tryz.Builder_String_any (B b : Nat) (l : List UInt8) (w : World) (h : Lib.IsBuilder 137 5 B b (Lib.byteCells l) w) (hBw : B ≤ w.heap.size) :
    Calls Tryz.prog 93 #[.pointer (some ⟨b, 0, none⟩)] w fun e w' => e = .returned (.string ⟨l.toArray⟩) ∧ Below B w w' := Any.Builder_String_any Tryz.lays169 Tryz.Builder_Extra_169 B b l w h hBw
def Tryz.lays241_ren : Go.Shelf.Ren := ⟨fun | 241 => 134 | 277 => 142 | n => n, fun | 70 => 134 | 3 => 3 | 0 => 0 | 72 => 137 | 37 => 135 | 5 => 5 | n => n, fun | n => n⟩
def Tryz.lays165_ren : Go.Shelf.Ren := ⟨fun | 165 => 113 | 240 => 115 | 241 => 134 | 276 => 135 | 277 => 142 | n => n, fun | 70 => 134 | 3 => 3 | 0 => 0 | 4 => 4 | 9 => 9 | 20 => 20 | 72 => 137 | 37 => 135 | 164 => 184 | 5 => 5 | n => n, fun | n => n⟩
def Tryz.lays134_ren : Go.Shelf.Ren := ⟨fun | 134 => 105 | 129 => 130 | n => n, fun | 53 => 94 | 3 => 3 | 4 => 4 | 46 => 156 | 5 => 5 | 9 => 9 | n => n, fun | n => n⟩
theorem Tryz.lays134 : Go.Proofs.Lays.n134 Tryz.prog Tryz.lays134_ren := {
  mixed := by kernel_rfl
  f129 := Tryz.func130.trans (congrArg some (by kernel_rfl))
  f134 := Tryz.func105.trans (congrArg some (by kernel_rfl))
  t3 := Tryz.underlying3
  a3 := Tryz.isAgg3
  z3 := Tryz.sizeOf3
  v3 := Tryz.zeroValue3
  t4 := Tryz.underlying4
  a4 := Tryz.isAgg4
  z4 := Tryz.sizeOf4
  v4 := Tryz.zeroValue4
  t5 := Tryz.underlying5
  a5 := Tryz.isAgg5
  z5 := Tryz.sizeOf5
  v5 := Tryz.zeroValue5
  t9 := Tryz.underlying9
  a9 := Tryz.isAgg9
  z9 := Tryz.sizeOf9
  v9 := Tryz.zeroValue9
  t46 := Tryz.underlying156
  a46 := Tryz.isAgg156
  z46 := Tryz.sizeOf156
  v46 := Tryz.zeroValue156
  t53 := Tryz.underlying94
  a53 := Tryz.isAgg94
  z53 := Tryz.sizeOf94
  v53 := Tryz.zeroValue94 }
theorem Tryz.bits_LeadingZeros64 (x : Int) (w : World) (h0 : 0 ≤ x) (h1 : x ≤ 18446744073709551615) :
    Calls Tryz.prog 105 #[.int .u64 x] w fun e w' => e = .returned (.int .i64 (64 - (Lib.bitLen x.toNat : Int))) ∧ w' = w := Any.bits_LeadingZeros64 Tryz.lays134 x w h0 h1
open Go.RowKit in
def Tryz.lays129_ren : Go.Shelf.Ren := ⟨fun | 129 => 130 | n => n, fun | 53 => 94 | 3 => 3 | 4 => 4 | 46 => 156 | 5 => 5 | 9 => 9 | n => n, fun | n => n⟩
def Tryz.lays206_ren : Go.Shelf.Ren := ⟨fun | 206 => 133 | n => n, fun | 9 => 9 | 4 => 4 | 3 => 3 | n => n, fun | n => n⟩
def Tryz.lays99_ren : Go.Shelf.Ren := ⟨fun | 99 => 112 | 206 => 133 | n => n, fun | 9 => 9 | 4 => 4 | 3 => 3 | n => n, fun | n => n⟩
def Tryz.lays264_ren : Go.Shelf.Ren := ⟨fun | 264 => 83 | n => n, fun | 53 => 94 | 46 => 156 | n => n, fun | n => n⟩
theorem Tryz.lays264 : Go.Proofs.Lays.n264 Tryz.prog Tryz.lays264_ren := {
  mixed := by kernel_rfl
  f264 := Tryz.func83.trans (congrArg some (by kernel_rfl))
  t46 := Tryz.underlying156
  a46 := Tryz.isAgg156
  z46 := Tryz.sizeOf156
  v46 := Tryz.zeroValue156
  t53 := Tryz.underlying94
  a53 := Tryz.isAgg94
  z53 := Tryz.sizeOf94
  v53 := Tryz.zeroValue94 }
open Go.RowKit Go.Lib in
theorem Tryz.bits_Mul64 (x y : Nat) (hx : x < 18446744073709551616) (hy : y < 18446744073709551616) (w : World) :
    Calls Tryz.prog 83 #[.int .u64 x, .int .u64 y] w fun e w' => e = .returned (.tuple #[.int .u64 ((x * y / 18446744073709551616 : Nat) : Int), .int .u64 ((x * y % 18446744073709551616 : Nat) : Int)]) ∧ w' = w := Any.bits_Mul64 Tryz.lays264 x y hx hy w
def Tryz.lays212_ren : Go.Shelf.Ren := ⟨fun | 212 => 111 | 263 => 132 | 264 => 83 | n => n, fun | 46 => 156 | 51 => 148 | 146 => 182 | 53 => 94 | 148 => 124 | n => n, fun | n => n⟩
def Tryz.lays105_ren : Go.Shelf.Ren := ⟨fun | 105 => 91 | 212 => 111 | 99 => 112 | 165 => 113 | 166 => 92 | 170 => 114 | 169 => 93 | 263 => 132 | 264 => 83 | 206 => 133 | 240 => 115 | 241 => 134 | 276 => 135 | 277 => 142 | n => n, fun | 9 => 9 | 3 => 3 | 4 => 4 | 20 => 20 | 0 => 0 | 46 => 156 | 109 => 158 | 5 => 5 | 72 => 137 | 76 => 140 | 51 => 148 | 146 => 182 | 53 => 94 | 148 => 124 | 70 => 134 | 37 => 135 | 75 => 139 | 127 => 162 | 164 => 184 | 80 => 53 | n => n, fun | n => n⟩
theorem Tryz.lays105 : Go.Proofs.Lays.n105 Tryz.prog Tryz.lays105_ren := {
  mixed := by kernel_rfl
  f99 := Tryz.func112.trans (congrArg some (by kernel_rfl))
  f105 := Tryz.func91.trans (congrArg some (by kernel_rfl))
  f165 := Tryz.func113.trans (congrArg some (by kernel_rfl))
  f166 := Tryz.func92.trans (congrArg some (by kernel_rfl))
  f169 := Tryz.func93.trans (congrArg some (by kernel_rfl))
  f170 := Tryz.func114.trans (congrArg some (by kernel_rfl))
  f206 := Tryz.func133.trans (congrArg some (by kernel_rfl))
  f212 := Tryz.func111.trans (congrArg some (by kernel_rfl))
  f240 := Tryz.func115.trans (congrArg some (by kernel_rfl))
  f241 := Tryz.func134.trans (congrArg some (by kernel_rfl))
  f263 := Tryz.func132.trans (congrArg some (by kernel_rfl))
  f264 := Tryz.func83.trans (congrArg some (by kernel_rfl))
  f276 := Tryz.func135.trans (congrArg some (by kernel_rfl))
  f277 := Tryz.func142.trans (congrArg some (by kernel_rfl))
  t0 := Tryz.underlying0
  a0 := Tryz.isAgg0
  z0 := Tryz.sizeOf0
  v0 := Tryz.zeroValue0
  t3 := Tryz.underlying3
  a3 := Tryz.isAgg3
  z3 := Tryz.sizeOf3
  v3 := Tryz.zeroValue3
  t4 := Tryz.underlying4
  a4 := Tryz.isAgg4
  z4 := Tryz.sizeOf4
  v4 := Tryz.zeroValue4
  t5 := Tryz.underlying5
  a5 := Tryz.isAgg5
  z5 := Tryz.sizeOf5
  v5 := Tryz.zeroValue5
  t9 := Tryz.underlying9
  a9 := Tryz.isAgg9
  z9 := Tryz.sizeOf9
  v9 := Tryz.zeroValue9
  t20 := Tryz.underlying20
  a20 := Tryz.isAgg20
  z20 := Tryz.sizeOf20
  v20 := Tryz.zeroValue20
  t37 := Tryz.underlying135
  a37 := Tryz.isAgg135
  z37 := Tryz.sizeOf135
  v37 := Tryz.zeroValue135
  t46 := Tryz.underlying156
  a46 := Tryz.isAgg156
  z46 := Tryz.sizeOf156
  v46 := Tryz.zeroValue156
  t51 := Tryz.underlying148
  a51 := Tryz.isAgg148
  z51 := Tryz.sizeOf148
  v51 := Tryz.zeroValue148
  t53 := Tryz.underlying94
  a53 := Tryz.isAgg94
  z53 := Tryz.sizeOf94
  v53 := Tryz.zeroValue94
  t70 := Tryz.underlying134
  a70 := Tryz.isAgg134
  z70 := Tryz.sizeOf134
  v70 := Tryz.zeroValue134
  t72 := Tryz.underlying137
  a72 := Tryz.isAgg137
  z72 := Tryz.sizeOf137
  v72 := Tryz.zeroValue137
  t75 := Tryz.underlying139
  a75 := Tryz.isAgg139
  z75 := Tryz.sizeOf139
  v75 := Tryz.zeroValue139
  t76 := Tryz.underlying140
  a76 := Tryz.isAgg140
  z76 := Tryz.sizeOf140
  v76 := Tryz.zeroValue140
  t109 := Tryz.underlying158
  a109 := Tryz.isAgg158
  z109 := Tryz.sizeOf158
  v109 := Tryz.zeroValue158
  t127 := Tryz.underlying162
  a127 := Tryz.isAgg162
  z127 := Tryz.sizeOf162
  v127 := Tryz.zeroValue162
  t146 := Tryz.underlying182
  a146 := Tryz.isAgg182
  z146 := Tryz.sizeOf182
  v146 := Tryz.zeroValue182
  t148 := Tryz.underlying124
  a148 := Tryz.isAgg124
  z148 := Tryz.sizeOf124
  v148 := Tryz.zeroValue124
  t164 := Tryz.underlying184
  a164 := Tryz.isAgg184
  z164 := Tryz.sizeOf184
  v164 := Tryz.zeroValue184 }
theorem Tryz.Builder_Extra_105 : Builder.Extra Tryz.prog Tryz.lays105_ren := {
  sizeBuilder := by kernel_rfl
  liesBuilder := by kernel_rfl
  t5 := Tryz.underlying5
  a5 := Tryz.isAgg5
  z5 := Tryz.sizeOf5
  v5 := Tryz.zeroValue5
  infoByte := by kernel_rfl
  cellsByte := by kernel_rfl
  sizeByte := by kernel_rfl
  neB5 := by decide }
open Go.RowKit Go.Lib in
theorem Tryz.strings_Repeat (s : ByteArray) (c : Nat) (w : World) (hc : c ≤ 9223372036854775807) (hlen : s.size * c ≤ 140737488355328) :
    Calls Tryz.prog 91 #[.string s, .int .i64 c] w fun e w' => e = .returned (.string ⟨(Lib.repeatL s.data.toList c).toArray⟩) ∧ Below w.heap.size w w' := Any.strings_Repeat Tryz.lays105 Tryz.Builder_Extra_105 s c w hc hlen
end Go.Proofs
