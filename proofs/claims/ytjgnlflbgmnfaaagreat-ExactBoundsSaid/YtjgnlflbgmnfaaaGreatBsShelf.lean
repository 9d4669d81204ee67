/-
  DERIVED: THE SHELF's CONTRACTS AT THIS DUMP, IN PLAIN WORDS (tools/lay-plain.mjs out of 'TryzShelf.lean', which tools/lay-shelf.mjs wrote): THE SAME DECLARATIONS UNDER THE SAME NAMES: 'import', 'namespace', 'open', 'def', 'theorem' AND NOTHING ELSE: no command of the shelf's: FOR A HAND-IN. Each laying: the table of numbers ('.._ren') and one theorem, a field a fact of the dump's own or the kernel's comparison; each contract: ONE APPLICATION.
-/
import Derived.Shelf.Strings.Builder1
import Derived.Shelf.Strings.Builder2
import Derived.Shelf.Small.Bits
import Derived.Shelf.Strings.BuilderF
import Derived.Shelf.Strings.BuilderK
import Derived.Shelf.Strings.Builder2Cap
import Derived.Shelf.Strconv.Itoa0
import Derived.Shelf.Strings.Prefix
import Derived.Shelf.Bits.Mul64
import Derived.Shelf.Strings.Repeat
import Derived.Shelf.Strings.BuilderCap
import Derived.Test.YtjgnlflbgmnfaaaGreatProg
namespace Go.Proofs
open Go.Shelf
def Tryz.lays170_ren : Go.Shelf.Ren := ⟨fun | 170 => 273 | n => n, fun | 70 => 355 | 3 => 3 | 0 => 0 | 72 => 358 | 37 => 356 | 5 => 5 | n => n, fun | n => n⟩
def Tryz.lays169_ren : Go.Shelf.Ren := ⟨fun | 169 => 247 | n => n, fun | 70 => 355 | 9 => 9 | 0 => 0 | 72 => 358 | 37 => 356 | 127 => 390 | 3 => 3 | 5 => 5 | n => n, fun | n => n⟩
theorem Tryz.lays169 : Go.Proofs.Lays.n169 Tryz.prog Tryz.lays169_ren := {
  mixed := by kernel_rfl
  f169 := Tryz.func247.trans (congrArg some (by kernel_rfl))
  t0 := Tryz.underlying0
  a0 := Tryz.isAgg0
  z0 := Tryz.sizeOf0
  v0 := Tryz.zeroValue0
  t3 := Tryz.underlying3
  a3 := Tryz.isAgg3
  z3 := Tryz.sizeOf3
  v3 := Tryz.zeroValue3
  t9 := Tryz.underlying9
  a9 := Tryz.isAgg9
  z9 := Tryz.sizeOf9
  v9 := Tryz.zeroValue9
  t37 := Tryz.underlying356
  a37 := Tryz.isAgg356
  z37 := Tryz.sizeOf356
  v37 := Tryz.zeroValue356
  t70 := Tryz.underlying355
  a70 := Tryz.isAgg355
  z70 := Tryz.sizeOf355
  v70 := Tryz.zeroValue355
  t72 := Tryz.underlying358
  a72 := Tryz.isAgg358
  z72 := Tryz.sizeOf358
  v72 := Tryz.zeroValue358
  t127 := Tryz.underlying390
  a127 := Tryz.isAgg390
  z127 := Tryz.sizeOf390
  v127 := Tryz.zeroValue390 }
theorem Tryz.Builder_Extra_169 : Builder.Extra Tryz.prog Tryz.lays169_ren := {
  sizeBuilder := by kernel_rfl
  liesBuilder := by kernel_rfl
  t5 := Tryz.underlying5
  a5 := Tryz.isAgg5
  z5 := Tryz.sizeOf5
  v5 := Tryz.zeroValue5
  infoByte := by kernel_rfl
  cellsByte := by kernel_rfl
  sizeByte := by kernel_rfl
  neB5 := by decide }
open Go.RowKit in
theorem Tryz.Builder_String_any (B b : Nat) (l : List UInt8) (w : World) (h : Lib.IsBuilder 358 5 B b (Lib.byteCells l) w) (hBw : B ≤ w.heap.size) :
    Calls Tryz.prog 247 #[.pointer (some ⟨b, 0, none⟩)] w fun e w' => e = .returned (.string ⟨l.toArray⟩) ∧ Below B w w' := Any.Builder_String_any Tryz.lays169 Tryz.Builder_Extra_169 B b l w h hBw
def Tryz.lays241_ren : Go.Shelf.Ren := ⟨fun | 241 => 282 | 277 => 284 | n => n, fun | 70 => 355 | 3 => 3 | 0 => 0 | 72 => 358 | 37 => 356 | 5 => 5 | n => n, fun | n => n⟩
def Tryz.lays165_ren : Go.Shelf.Ren := ⟨fun | 165 => 272 | 240 => 274 | 241 => 282 | 276 => 283 | 277 => 284 | n => n, fun | 70 => 355 | 3 => 3 | 0 => 0 | 4 => 4 | 9 => 9 | 20 => 20 | 72 => 358 | 37 => 356 | 164 => 397 | 5 => 5 | n => n, fun | n => n⟩
def Tryz.lays134_ren : Go.Shelf.Ren := ⟨fun | 134 => 195 | 129 => 235 | n => n, fun | 53 => 45 | 3 => 3 | 4 => 4 | 46 => 194 | 5 => 5 | 9 => 9 | n => n, fun | n => n⟩
theorem Tryz.lays134 : Go.Proofs.Lays.n134 Tryz.prog Tryz.lays134_ren := {
  mixed := by kernel_rfl
  f129 := Tryz.func235.trans (congrArg some (by kernel_rfl))
  f134 := Tryz.func195.trans (congrArg some (by kernel_rfl))
  t3 := Tryz.underlying3
  a3 := Tryz.isAgg3
  z3 := Tryz.sizeOf3
  v3 := Tryz.zeroValue3
  t4 := Tryz.underlying4
  a4 := Tryz.isAgg4
  z4 := Tryz.sizeOf4
  v4 := Tryz.zeroValue4
  t5 := Tryz.underlying5
  a5 := Tryz.isAgg5
  z5 := Tryz.sizeOf5
  v5 := Tryz.zeroValue5
  t9 := Tryz.underlying9
  a9 := Tryz.isAgg9
  z9 := Tryz.sizeOf9
  v9 := Tryz.zeroValue9
  t46 := Tryz.underlying194
  a46 := Tryz.isAgg194
  z46 := Tryz.sizeOf194
  v46 := Tryz.zeroValue194
  t53 := Tryz.underlying45
  a53 := Tryz.isAgg45
  z53 := Tryz.sizeOf45
  v53 := Tryz.zeroValue45 }
theorem Tryz.bits_LeadingZeros64 (x : Int) (w : World) (h0 : 0 ≤ x) (h1 : x ≤ 18446744073709551615) :
    Calls Tryz.prog 195 #[.int .u64 x] w fun e w' => e = .returned (.int .i64 (64 - (Lib.bitLen x.toNat : Int))) ∧ w' = w := Any.bits_LeadingZeros64 Tryz.lays134 x w h0 h1
open Go.RowKit in
def Tryz.lays129_ren : Go.Shelf.Ren := ⟨fun | 129 => 235 | n => n, fun | 53 => 45 | 3 => 3 | 4 => 4 | 46 => 194 | 5 => 5 | 9 => 9 | n => n, fun | n => n⟩
theorem Tryz.lays129 : Go.Proofs.Lays.n129 Tryz.prog Tryz.lays129_ren := {
  mixed := by kernel_rfl
  f129 := Tryz.func235.trans (congrArg some (by kernel_rfl))
  t3 := Tryz.underlying3
  a3 := Tryz.isAgg3
  z3 := Tryz.sizeOf3
  v3 := Tryz.zeroValue3
  t4 := Tryz.underlying4
  a4 := Tryz.isAgg4
  z4 := Tryz.sizeOf4
  v4 := Tryz.zeroValue4
  t5 := Tryz.underlying5
  a5 := Tryz.isAgg5
  z5 := Tryz.sizeOf5
  v5 := Tryz.zeroValue5
  t9 := Tryz.underlying9
  a9 := Tryz.isAgg9
  z9 := Tryz.sizeOf9
  v9 := Tryz.zeroValue9
  t46 := Tryz.underlying194
  a46 := Tryz.isAgg194
  z46 := Tryz.sizeOf194
  v46 := Tryz.zeroValue194
  t53 := Tryz.underlying45
  a53 := Tryz.isAgg45
  z53 := Tryz.sizeOf45
  v53 := Tryz.zeroValue45 }
theorem Tryz.bits_Len64 (x : Int) (w : World) (h0 : 0 ≤ x) (h1 : x ≤ 18446744073709551615) :
    Calls Tryz.prog 235 #[.int .u64 x] w fun e w' => e = .returned (.int .i64 (Lib.bitLen x.toNat)) ∧ w' = w := Any.bits_Len64 Tryz.lays129 x w h0 h1
def Tryz.lays206_ren : Go.Shelf.Ren := ⟨fun | 206 => 281 | n => n, fun | 9 => 9 | 4 => 4 | 3 => 3 | n => n, fun | n => n⟩
def Tryz.lays99_ren : Go.Shelf.Ren := ⟨fun | 99 => 271 | 206 => 281 | n => n, fun | 9 => 9 | 4 => 4 | 3 => 3 | n => n, fun | n => n⟩
def Tryz.lays264_ren : Go.Shelf.Ren := ⟨fun | 264 => 192 | n => n, fun | 53 => 45 | 46 => 194 | n => n, fun | n => n⟩
theorem Tryz.lays264 : Go.Proofs.Lays.n264 Tryz.prog Tryz.lays264_ren := {
  mixed := by kernel_rfl
  f264 := Tryz.func192.trans (congrArg some (by kernel_rfl))
  t46 := Tryz.underlying194
  a46 := Tryz.isAgg194
  z46 := Tryz.sizeOf194
  v46 := Tryz.zeroValue194
  t53 := Tryz.underlying45
  a53 := Tryz.isAgg45
  z53 := Tryz.sizeOf45
  v53 := Tryz.zeroValue45 }
open Go.RowKit Go.Lib in
theorem Tryz.bits_Mul64 (x y : Nat) (hx : x < 18446744073709551616) (hy : y < 18446744073709551616) (w : World) :
    Calls Tryz.prog 192 #[.int .u64 x, .int .u64 y] w fun e w' => e = .returned (.tuple #[.int .u64 ((x * y / 18446744073709551616 : Nat) : Int), .int .u64 ((x * y % 18446744073709551616 : Nat) : Int)]) ∧ w' = w := Any.bits_Mul64 Tryz.lays264 x y hx hy w
def Tryz.lays212_ren : Go.Shelf.Ren := ⟨fun | 212 => 270 | 263 => 280 | 264 => 192 | n => n, fun | 46 => 194 | 51 => 46 | 146 => 395 | 53 => 45 | 148 => 308 | n => n, fun | n => n⟩
def Tryz.lays105_ren : Go.Shelf.Ren := ⟨fun | 105 => 245 | 212 => 270 | 99 => 271 | 165 => 272 | 166 => 246 | 170 => 273 | 169 => 247 | 263 => 280 | 264 => 192 | 206 => 281 | 240 => 274 | 241 => 282 | 276 => 283 | 277 => 284 | n => n, fun | 9 => 9 | 3 => 3 | 4 => 4 | 20 => 20 | 0 => 0 | 46 => 194 | 109 => 386 | 5 => 5 | 72 => 358 | 76 => 361 | 51 => 46 | 146 => 395 | 53 => 45 | 148 => 308 | 70 => 355 | 37 => 356 | 75 => 360 | 127 => 390 | 164 => 397 | 80 => 175 | n => n, fun | n => n⟩
theorem Tryz.lays105 : Go.Proofs.Lays.n105 Tryz.prog Tryz.lays105_ren := {
  mixed := by kernel_rfl
  f99 := Tryz.func271.trans (congrArg some (by kernel_rfl))
  f105 := Tryz.func245.trans (congrArg some (by kernel_rfl))
  f165 := Tryz.func272.trans (congrArg some (by kernel_rfl))
  f166 := Tryz.func246.trans (congrArg some (by kernel_rfl))
  f169 := Tryz.func247.trans (congrArg some (by kernel_rfl))
  f170 := Tryz.func273.trans (congrArg some (by kernel_rfl))
  f206 := Tryz.func281.trans (congrArg some (by kernel_rfl))
  f212 := Tryz.func270.trans (congrArg some (by kernel_rfl))
  f240 := Tryz.func274.trans (congrArg some (by kernel_rfl))
  f241 := Tryz.func282.trans (congrArg some (by kernel_rfl))
  f263 := Tryz.func280.trans (congrArg some (by kernel_rfl))
  f264 := Tryz.func192.trans (congrArg some (by kernel_rfl))
  f276 := Tryz.func283.trans (congrArg some (by kernel_rfl))
  f277 := Tryz.func284.trans (congrArg some (by kernel_rfl))
  t0 := Tryz.underlying0
  a0 := Tryz.isAgg0
  z0 := Tryz.sizeOf0
  v0 := Tryz.zeroValue0
  t3 := Tryz.underlying3
  a3 := Tryz.isAgg3
  z3 := Tryz.sizeOf3
  v3 := Tryz.zeroValue3
  t4 := Tryz.underlying4
  a4 := Tryz.isAgg4
  z4 := Tryz.sizeOf4
  v4 := Tryz.zeroValue4
  t5 := Tryz.underlying5
  a5 := Tryz.isAgg5
  z5 := Tryz.sizeOf5
  v5 := Tryz.zeroValue5
  t9 := Tryz.underlying9
  a9 := Tryz.isAgg9
  z9 := Tryz.sizeOf9
  v9 := Tryz.zeroValue9
  t20 := Tryz.underlying20
  a20 := Tryz.isAgg20
  z20 := Tryz.sizeOf20
  v20 := Tryz.zeroValue20
  t37 := Tryz.underlying356
  a37 := Tryz.isAgg356
  z37 := Tryz.sizeOf356
  v37 := Tryz.zeroValue356
  t46 := Tryz.underlying194
  a46 := Tryz.isAgg194
  z46 := Tryz.sizeOf194
  v46 := Tryz.zeroValue194
  t51 := Tryz.underlying46
  a51 := Tryz.isAgg46
  z51 := Tryz.sizeOf46
  v51 := Tryz.zeroValue46
  t53 := Tryz.underlying45
  a53 := Tryz.isAgg45
  z53 := Tryz.sizeOf45
  v53 := Tryz.zeroValue45
  t70 := Tryz.underlying355
  a70 := Tryz.isAgg355
  z70 := Tryz.sizeOf355
  v70 := Tryz.zeroValue355
  t72 := Tryz.underlying358
  a72 := Tryz.isAgg358
  z72 := Tryz.sizeOf358
  v72 := Tryz.zeroValue358
  t75 := Tryz.underlying360
  a75 := Tryz.isAgg360
  z75 := Tryz.sizeOf360
  v75 := Tryz.zeroValue360
  t76 := Tryz.underlying361
  a76 := Tryz.isAgg361
  z76 := Tryz.sizeOf361
  v76 := Tryz.zeroValue361
  t109 := Tryz.underlying386
  a109 := Tryz.isAgg386
  z109 := Tryz.sizeOf386
  v109 := Tryz.zeroValue386
  t127 := Tryz.underlying390
  a127 := Tryz.isAgg390
  z127 := Tryz.sizeOf390
  v127 := Tryz.zeroValue390
  t146 := Tryz.underlying395
  a146 := Tryz.isAgg395
  z146 := Tryz.sizeOf395
  v146 := Tryz.zeroValue395
  t148 := Tryz.underlying308
  a148 := Tryz.isAgg308
  z148 := Tryz.sizeOf308
  v148 := Tryz.zeroValue308
  t164 := Tryz.underlying397
  a164 := Tryz.isAgg397
  z164 := Tryz.sizeOf397
  v164 := Tryz.zeroValue397 }
theorem Tryz.Builder_Extra_105 : Builder.Extra Tryz.prog Tryz.lays105_ren := {
  sizeBuilder := by kernel_rfl
  liesBuilder := by kernel_rfl
  t5 := Tryz.underlying5
  a5 := Tryz.isAgg5
  z5 := Tryz.sizeOf5
  v5 := Tryz.zeroValue5
  infoByte := by kernel_rfl
  cellsByte := by kernel_rfl
  sizeByte := by kernel_rfl
  neB5 := by decide }
open Go.RowKit Go.Lib in
theorem Tryz.strings_Repeat (s : ByteArray) (c : Nat) (w : World) (hc : c ≤ 9223372036854775807) (hlen : s.size * c ≤ 140737488355328) :
    Calls Tryz.prog 245 #[.string s, .int .i64 c] w fun e w' => e = .returned (.string ⟨(Lib.repeatL s.data.toList c).toArray⟩) ∧ Below w.heap.size w w' := Any.strings_Repeat Tryz.lays105 Tryz.Builder_Extra_105 s c w hc hlen
end Go.Proofs
