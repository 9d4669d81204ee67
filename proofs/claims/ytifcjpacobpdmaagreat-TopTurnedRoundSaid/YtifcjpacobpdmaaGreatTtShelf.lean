/-
  DERIVED: THE SHELF's CONTRACTS AT THIS DUMP, IN PLAIN WORDS (tools/lay-plain.mjs out of 'TryzShelf.lean', which tools/lay-shelf.mjs wrote): THE SAME DECLARATIONS UNDER THE SAME NAMES: 'import', 'namespace', 'open', 'def', 'theorem' AND NOTHING ELSE: no command of the shelf's: FOR A HAND-IN. Each laying: the table of numbers ('.._ren') and one theorem, a field a fact of the dump's own or the kernel's comparison; each contract: ONE APPLICATION.
-/
import Derived.Shelf.Strings.Builder1
import Derived.Shelf.Strings.Builder2
import Derived.Shelf.Small.Bits
import Derived.Shelf.Strings.BuilderF
import Derived.Shelf.Strings.BuilderK
import Derived.Shelf.Strings.Builder2Cap
import Derived.Shelf.Strconv.Itoa0
import Derived.Shelf.Strings.Prefix
import Derived.Shelf.Bits.Mul64
import Derived.Shelf.Strings.Repeat
import Derived.Shelf.Strings.BuilderCap
import Derived.Test.YtifcjpacobpdmaaGreatProg
namespace Go.Proofs
open Go.Shelf
def Tryz.lays170_ren : Go.Shelf.Ren := ⟨fun | 170 => 319 | n => n, fun | 70 => 429 | 3 => 3 | 0 => 0 | 72 => 432 | 37 => 430 | 5 => 5 | n => n, fun | n => n⟩
def Tryz.lays169_ren : Go.Shelf.Ren := ⟨fun | 169 => 267 | n => n, fun | 70 => 429 | 9 => 9 | 0 => 0 | 72 => 432 | 37 => 430 | 127 => 473 | 3 => 3 | 5 => 5 | n => n, fun | n => n⟩
theorem Tryz.lays169 : Go.Proofs.Lays.n169 Tryz.prog Tryz.lays169_ren := {
  mixed := by kernel_rfl
  f169 := Tryz.func267.trans (congrArg some (by kernel_rfl))
  t0 := Tryz.underlying0
  a0 := Tryz.isAgg0
  z0 := Tryz.sizeOf0
  v0 := Tryz.zeroValue0
  t3 := Tryz.underlying3
  a3 := Tryz.isAgg3
  z3 := Tryz.sizeOf3
  v3 := Tryz.zeroValue3
  t9 := Tryz.underlying9
  a9 := Tryz.isAgg9
  z9 := Tryz.sizeOf9
  v9 := Tryz.zeroValue9
  t37 := Tryz.underlying430
  a37 := Tryz.isAgg430
  z37 := Tryz.sizeOf430
  v37 := Tryz.zeroValue430
  t70 := Tryz.underlying429
  a70 := Tryz.isAgg429
  z70 := Tryz.sizeOf429
  v70 := Tryz.zeroValue429
  t72 := Tryz.underlying432
  a72 := Tryz.isAgg432
  z72 := Tryz.sizeOf432
  v72 := Tryz.zeroValue432
  t127 := Tryz.underlying473
  a127 := Tryz.isAgg473
  z127 := Tryz.sizeOf473
  v127 := Tryz.zeroValue473 }
theorem Tryz.Builder_Extra_169 : Builder.Extra Tryz.prog Tryz.lays169_ren := {
  sizeBuilder := by kernel_rfl
  liesBuilder := by kernel_rfl
  t5 := Tryz.underlying5
  a5 := Tryz.isAgg5
  z5 := Tryz.sizeOf5
  v5 := Tryz.zeroValue5
  infoByte := by kernel_rfl
  cellsByte := by kernel_rfl
  sizeByte := by kernel_rfl
  neB5 := by decide }
open Go.RowKit in
theorem Tryz.Builder_String_any (B b : Nat) (l : List UInt8) (w : World) (h : Lib.IsBuilder 432 5 B b (Lib.byteCells l) w) (hBw : B ≤ w.heap.size) :
    Calls Tryz.prog 267 #[.pointer (some ⟨b, 0, none⟩)] w fun e w' => e = .returned (.string ⟨l.toArray⟩) ∧ Below B w w' := Any.Builder_String_any Tryz.lays169 Tryz.Builder_Extra_169 B b l w h hBw
def Tryz.lays241_ren : Go.Shelf.Ren := ⟨fun | 241 => 336 | 277 => 339 | n => n, fun | 70 => 429 | 3 => 3 | 0 => 0 | 72 => 432 | 37 => 430 | 5 => 5 | n => n, fun | n => n⟩
def Tryz.lays165_ren : Go.Shelf.Ren := ⟨fun | 165 => 318 | 240 => 320 | 241 => 336 | 276 => 337 | 277 => 339 | n => n, fun | 70 => 429 | 3 => 3 | 0 => 0 | 4 => 4 | 9 => 9 | 20 => 20 | 72 => 432 | 37 => 430 | 164 => 488 | 5 => 5 | n => n, fun | n => n⟩
def Tryz.lays134_ren : Go.Shelf.Ren := ⟨fun | 134 => 271 | 129 => 297 | n => n, fun | 53 => 59 | 3 => 3 | 4 => 4 | 46 => 388 | 5 => 5 | 9 => 9 | n => n, fun | n => n⟩
theorem Tryz.lays134 : Go.Proofs.Lays.n134 Tryz.prog Tryz.lays134_ren := {
  mixed := by kernel_rfl
  f129 := Tryz.func297.trans (congrArg some (by kernel_rfl))
  f134 := Tryz.func271.trans (congrArg some (by kernel_rfl))
  t3 := Tryz.underlying3
  a3 := Tryz.isAgg3
  z3 := Tryz.sizeOf3
  v3 := Tryz.zeroValue3
  t4 := Tryz.underlying4
  a4 := Tryz.isAgg4
  z4 := Tryz.sizeOf4
  v4 := Tryz.zeroValue4
  t5 := Tryz.underlying5
  a5 := Tryz.isAgg5
  z5 := Tryz.sizeOf5
  v5 := Tryz.zeroValue5
  t9 := Tryz.underlying9
  a9 := Tryz.isAgg9
  z9 := Tryz.sizeOf9
  v9 := Tryz.zeroValue9
  t46 := Tryz.underlying388
  a46 := Tryz.isAgg388
  z46 := Tryz.sizeOf388
  v46 := Tryz.zeroValue388
  t53 := Tryz.underlying59
  a53 := Tryz.isAgg59
  z53 := Tryz.sizeOf59
  v53 := Tryz.zeroValue59 }
theorem Tryz.bits_LeadingZeros64 (x : Int) (w : World) (h0 : 0 ≤ x) (h1 : x ≤ 18446744073709551615) :
    Calls Tryz.prog 271 #[.int .u64 x] w fun e w' => e = .returned (.int .i64 (64 - (Lib.bitLen x.toNat : Int))) ∧ w' = w := Any.bits_LeadingZeros64 Tryz.lays134 x w h0 h1
open Go.RowKit in
def Tryz.lays129_ren : Go.Shelf.Ren := ⟨fun | 129 => 297 | n => n, fun | 53 => 59 | 3 => 3 | 4 => 4 | 46 => 388 | 5 => 5 | 9 => 9 | n => n, fun | n => n⟩
def Tryz.lays206_ren : Go.Shelf.Ren := ⟨fun | 206 => 335 | n => n, fun | 9 => 9 | 4 => 4 | 3 => 3 | n => n, fun | n => n⟩
def Tryz.lays99_ren : Go.Shelf.Ren := ⟨fun | 99 => 317 | 206 => 335 | n => n, fun | 9 => 9 | 4 => 4 | 3 => 3 | n => n, fun | n => n⟩
def Tryz.lays264_ren : Go.Shelf.Ren := ⟨fun | 264 => 196 | n => n, fun | 53 => 59 | 46 => 388 | n => n, fun | n => n⟩
theorem Tryz.lays264 : Go.Proofs.Lays.n264 Tryz.prog Tryz.lays264_ren := {
  mixed := by kernel_rfl
  f264 := Tryz.func196.trans (congrArg some (by kernel_rfl))
  t46 := Tryz.underlying388
  a46 := Tryz.isAgg388
  z46 := Tryz.sizeOf388
  v46 := Tryz.zeroValue388
  t53 := Tryz.underlying59
  a53 := Tryz.isAgg59
  z53 := Tryz.sizeOf59
  v53 := Tryz.zeroValue59 }
open Go.RowKit Go.Lib in
theorem Tryz.bits_Mul64 (x y : Nat) (hx : x < 18446744073709551616) (hy : y < 18446744073709551616) (w : World) :
    Calls Tryz.prog 196 #[.int .u64 x, .int .u64 y] w fun e w' => e = .returned (.tuple #[.int .u64 ((x * y / 18446744073709551616 : Nat) : Int), .int .u64 ((x * y % 18446744073709551616 : Nat) : Int)]) ∧ w' = w := Any.bits_Mul64 Tryz.lays264 x y hx hy w
def Tryz.lays212_ren : Go.Shelf.Ren := ⟨fun | 212 => 316 | 263 => 334 | 264 => 196 | n => n, fun | 46 => 388 | 51 => 64 | 146 => 486 | 53 => 59 | 148 => 358 | n => n, fun | n => n⟩
def Tryz.lays105_ren : Go.Shelf.Ren := ⟨fun | 105 => 265 | 212 => 316 | 99 => 317 | 165 => 318 | 166 => 266 | 170 => 319 | 169 => 267 | 263 => 334 | 264 => 196 | 206 => 335 | 240 => 320 | 241 => 336 | 276 => 337 | 277 => 339 | n => n, fun | 9 => 9 | 3 => 3 | 4 => 4 | 20 => 20 | 0 => 0 | 46 => 388 | 109 => 469 | 5 => 5 | 72 => 432 | 76 => 435 | 51 => 64 | 146 => 486 | 53 => 59 | 148 => 358 | 70 => 429 | 37 => 430 | 75 => 434 | 127 => 473 | 164 => 488 | 80 => 211 | n => n, fun | n => n⟩
theorem Tryz.lays105 : Go.Proofs.Lays.n105 Tryz.prog Tryz.lays105_ren := {
  mixed := by kernel_rfl
  f99 := Tryz.func317.trans (congrArg some (by kernel_rfl))
  f105 := Tryz.func265.trans (congrArg some (by kernel_rfl))
  f165 := Tryz.func318.trans (congrArg some (by kernel_rfl))
  f166 := Tryz.func266.trans (congrArg some (by kernel_rfl))
  f169 := Tryz.func267.trans (congrArg some (by kernel_rfl))
  f170 := Tryz.func319.trans (congrArg some (by kernel_rfl))
  f206 := Tryz.func335.trans (congrArg some (by kernel_rfl))
  f212 := Tryz.func316.trans (congrArg some (by kernel_rfl))
  f240 := Tryz.func320.trans (congrArg some (by kernel_rfl))
  f241 := Tryz.func336.trans (congrArg some (by kernel_rfl))
  f263 := Tryz.func334.trans (congrArg some (by kernel_rfl))
  f264 := Tryz.func196.trans (congrArg some (by kernel_rfl))
  f276 := Tryz.func337.trans (congrArg some (by kernel_rfl))
  f277 := Tryz.func339.trans (congrArg some (by kernel_rfl))
  t0 := Tryz.underlying0
  a0 := Tryz.isAgg0
  z0 := Tryz.sizeOf0
  v0 := Tryz.zeroValue0
  t3 := Tryz.underlying3
  a3 := Tryz.isAgg3
  z3 := Tryz.sizeOf3
  v3 := Tryz.zeroValue3
  t4 := Tryz.underlying4
  a4 := Tryz.isAgg4
  z4 := Tryz.sizeOf4
  v4 := Tryz.zeroValue4
  t5 := Tryz.underlying5
  a5 := Tryz.isAgg5
  z5 := Tryz.sizeOf5
  v5 := Tryz.zeroValue5
  t9 := Tryz.underlying9
  a9 := Tryz.isAgg9
  z9 := Tryz.sizeOf9
  v9 := Tryz.zeroValue9
  t20 := Tryz.underlying20
  a20 := Tryz.isAgg20
  z20 := Tryz.sizeOf20
  v20 := Tryz.zeroValue20
  t37 := Tryz.underlying430
  a37 := Tryz.isAgg430
  z37 := Tryz.sizeOf430
  v37 := Tryz.zeroValue430
  t46 := Tryz.underlying388
  a46 := Tryz.isAgg388
  z46 := Tryz.sizeOf388
  v46 := Tryz.zeroValue388
  t51 := Tryz.underlying64
  a51 := Tryz.isAgg64
  z51 := Tryz.sizeOf64
  v51 := Tryz.zeroValue64
  t53 := Tryz.underlying59
  a53 := Tryz.isAgg59
  z53 := Tryz.sizeOf59
  v53 := Tryz.zeroValue59
  t70 := Tryz.underlying429
  a70 := Tryz.isAgg429
  z70 := Tryz.sizeOf429
  v70 := Tryz.zeroValue429
  t72 := Tryz.underlying432
  a72 := Tryz.isAgg432
  z72 := Tryz.sizeOf432
  v72 := Tryz.zeroValue432
  t75 := Tryz.underlying434
  a75 := Tryz.isAgg434
  z75 := Tryz.sizeOf434
  v75 := Tryz.zeroValue434
  t76 := Tryz.underlying435
  a76 := Tryz.isAgg435
  z76 := Tryz.sizeOf435
  v76 := Tryz.zeroValue435
  t109 := Tryz.underlying469
  a109 := Tryz.isAgg469
  z109 := Tryz.sizeOf469
  v109 := Tryz.zeroValue469
  t127 := Tryz.underlying473
  a127 := Tryz.isAgg473
  z127 := Tryz.sizeOf473
  v127 := Tryz.zeroValue473
  t146 := Tryz.underlying486
  a146 := Tryz.isAgg486
  z146 := Tryz.sizeOf486
  v146 := Tryz.zeroValue486
  t148 := Tryz.underlying358
  a148 := Tryz.isAgg358
  z148 := Tryz.sizeOf358
  v148 := Tryz.zeroValue358
  t164 := Tryz.underlying488
  a164 := Tryz.isAgg488
  z164 := Tryz.sizeOf488
  v164 := Tryz.zeroValue488 }
theorem Tryz.Builder_Extra_105 : Builder.Extra Tryz.prog Tryz.lays105_ren := {
  sizeBuilder := by kernel_rfl
  liesBuilder := by kernel_rfl
  t5 := Tryz.underlying5
  a5 := Tryz.isAgg5
  z5 := Tryz.sizeOf5
  v5 := Tryz.zeroValue5
  infoByte := by kernel_rfl
  cellsByte := by kernel_rfl
  sizeByte := by kernel_rfl
  neB5 := by decide }
open Go.RowKit Go.Lib in
theorem Tryz.strings_Repeat (s : ByteArray) (c : Nat) (w : World) (hc : c ≤ 9223372036854775807) (hlen : s.size * c ≤ 140737488355328) :
    Calls Tryz.prog 265 #[.string s, .int .i64 c] w fun e w' => e = .returned (.string ⟨(Lib.repeatL s.data.toList c).toArray⟩) ∧ Below w.heap.size w w' := Any.strings_Repeat Tryz.lays105 Tryz.Builder_Extra_105 s c w hc hlen
end Go.Proofs
