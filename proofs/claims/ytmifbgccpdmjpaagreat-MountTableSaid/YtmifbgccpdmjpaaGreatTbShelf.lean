/-
  DERIVED: THE SHELF's CONTRACTS AT THIS DUMP, IN PLAIN WORDS (tools/lay-plain.mjs out of 'TryzShelf.lean', which tools/lay-shelf.mjs wrote): THE SAME DECLARATIONS UNDER THE SAME NAMES: 'import', 'namespace', 'open', 'def', 'theorem' AND NOTHING ELSE: no command of the shelf's: FOR A HAND-IN. Each laying: the table of numbers ('.._ren') and one theorem, a field a fact of the dump's own or the kernel's comparison; each contract: ONE APPLICATION.
-/
import Derived.Shelf.Strings.Builder1
import Derived.Shelf.Strings.Builder2
import Derived.Shelf.Small.Utf8
import Derived.Shelf.Small.Bits
import Derived.Shelf.Small.Strs
import Derived.Shelf.Strings.BuilderF
import Derived.Shelf.Strings.BuilderK
import Derived.Shelf.Strings.Builder2Cap
import Derived.Shelf.Strconv.Itoa0
import Derived.Shelf.Strings.Search1
import Derived.Shelf.Strings.Prefix
import Derived.Shelf.Strings.Runes
import Derived.Shelf.Strings.IndexAny
import Derived.Shelf.Strings.AsciiSet
import Derived.Shelf.Strings.IndexAnyAll
import Derived.Shelf.Bits.Mul64
import Derived.Shelf.Strings.Repeat
import Derived.Shelf.Strings.BuilderCap
import Derived.Test.YtmifbgccpdmjpaaGreatProg
namespace Go.Proofs
open Go.Shelf
def Tryz.lays170_ren : Go.Shelf.Ren := ⟨fun | 170 => 386 | n => n, fun | 70 => 474 | 3 => 3 | 0 => 0 | 72 => 476 | 37 => 471 | 5 => 5 | n => n, fun | n => n⟩
def Tryz.lays169_ren : Go.Shelf.Ren := ⟨fun | 169 => 325 | n => n, fun | 70 => 474 | 9 => 9 | 0 => 0 | 72 => 476 | 37 => 471 | 127 => 535 | 3 => 3 | 5 => 5 | n => n, fun | n => n⟩
theorem Tryz.lays169 : Go.Proofs.Lays.n169 Tryz.prog Tryz.lays169_ren := {
  mixed := by kernel_rfl
  f169 := Tryz.func325.trans (congrArg some (by kernel_rfl))
  t0 := Tryz.underlying0
  a0 := Tryz.isAgg0
  z0 := Tryz.sizeOf0
  v0 := Tryz.zeroValue0
  t3 := Tryz.underlying3
  a3 := Tryz.isAgg3
  z3 := Tryz.sizeOf3
  v3 := Tryz.zeroValue3
  t9 := Tryz.underlying9
  a9 := Tryz.isAgg9
  z9 := Tryz.sizeOf9
  v9 := Tryz.zeroValue9
  t37 := Tryz.underlying471
  a37 := Tryz.isAgg471
  z37 := Tryz.sizeOf471
  v37 := Tryz.zeroValue471
  t70 := Tryz.underlying474
  a70 := Tryz.isAgg474
  z70 := Tryz.sizeOf474
  v70 := Tryz.zeroValue474
  t72 := Tryz.underlying476
  a72 := Tryz.isAgg476
  z72 := Tryz.sizeOf476
  v72 := Tryz.zeroValue476
  t127 := Tryz.underlying535
  a127 := Tryz.isAgg535
  z127 := Tryz.sizeOf535
  v127 := Tryz.zeroValue535 }
theorem Tryz.Builder_Extra_169 : Builder.Extra Tryz.prog Tryz.lays169_ren := {
  sizeBuilder := by kernel_rfl
  liesBuilder := by kernel_rfl
  t5 := Tryz.underlying5
  a5 := Tryz.isAgg5
  z5 := Tryz.sizeOf5
  v5 := Tryz.zeroValue5
  infoByte := by kernel_rfl
  cellsByte := by kernel_rfl
  sizeByte := by kernel_rfl
  neB5 := by decide }
open Go.RowKit in
theorem Tryz.Builder_String_any (B b : Nat) (l : List UInt8) (w : World) (h : Lib.IsBuilder 476 5 B b (Lib.byteCells l) w) (hBw : B ≤ w.heap.size) :
    Calls Tryz.prog 325 #[.pointer (some ⟨b, 0, none⟩)] w fun e w' => e = .returned (.string ⟨l.toArray⟩) ∧ Below B w w' := Any.Builder_String_any Tryz.lays169 Tryz.Builder_Extra_169 B b l w h hBw
def Tryz.lays241_ren : Go.Shelf.Ren := ⟨fun | 241 => 406 | 277 => 414 | n => n, fun | 70 => 474 | 3 => 3 | 0 => 0 | 72 => 476 | 37 => 471 | 5 => 5 | n => n, fun | n => n⟩
def Tryz.lays165_ren : Go.Shelf.Ren := ⟨fun | 165 => 385 | 240 => 387 | 241 => 406 | 276 => 407 | 277 => 414 | n => n, fun | 70 => 474 | 3 => 3 | 0 => 0 | 4 => 4 | 9 => 9 | 20 => 20 | 72 => 476 | 37 => 471 | 164 => 552 | 5 => 5 | n => n, fun | n => n⟩
def Tryz.lays119_ren : Go.Shelf.Ren := ⟨fun | 119 => 318 | n => n, fun | 21 => 21 | 4 => 4 | n => n, fun | n => n⟩
def Tryz.lays128_ren : Go.Shelf.Ren := ⟨fun | 128 => 315 | n => n, fun | 51 => 356 | 3 => 3 | 4 => 4 | 46 => 365 | 5 => 5 | 9 => 9 | n => n, fun | n => n⟩
def Tryz.lays125_ren : Go.Shelf.Ren := ⟨fun | 125 => 201 | 128 => 315 | 129 => 316 | n => n, fun | 46 => 365 | 3 => 3 | 51 => 356 | 53 => 355 | 4 => 4 | 5 => 5 | 9 => 9 | n => n, fun | n => n⟩
def Tryz.lays134_ren : Go.Shelf.Ren := ⟨fun | 134 => 303 | 129 => 316 | n => n, fun | 53 => 355 | 3 => 3 | 4 => 4 | 46 => 365 | 5 => 5 | 9 => 9 | n => n, fun | n => n⟩
theorem Tryz.lays134 : Go.Proofs.Lays.n134 Tryz.prog Tryz.lays134_ren := {
  mixed := by kernel_rfl
  f129 := Tryz.func316.trans (congrArg some (by kernel_rfl))
  f134 := Tryz.func303.trans (congrArg some (by kernel_rfl))
  t3 := Tryz.underlying3
  a3 := Tryz.isAgg3
  z3 := Tryz.sizeOf3
  v3 := Tryz.zeroValue3
  t4 := Tryz.underlying4
  a4 := Tryz.isAgg4
  z4 := Tryz.sizeOf4
  v4 := Tryz.zeroValue4
  t5 := Tryz.underlying5
  a5 := Tryz.isAgg5
  z5 := Tryz.sizeOf5
  v5 := Tryz.zeroValue5
  t9 := Tryz.underlying9
  a9 := Tryz.isAgg9
  z9 := Tryz.sizeOf9
  v9 := Tryz.zeroValue9
  t46 := Tryz.underlying365
  a46 := Tryz.isAgg365
  z46 := Tryz.sizeOf365
  v46 := Tryz.zeroValue365
  t53 := Tryz.underlying355
  a53 := Tryz.isAgg355
  z53 := Tryz.sizeOf355
  v53 := Tryz.zeroValue355 }
theorem Tryz.bits_LeadingZeros64 (x : Int) (w : World) (h0 : 0 ≤ x) (h1 : x ≤ 18446744073709551615) :
    Calls Tryz.prog 303 #[.int .u64 x] w fun e w' => e = .returned (.int .i64 (64 - (Lib.bitLen x.toNat : Int))) ∧ w' = w := Any.bits_LeadingZeros64 Tryz.lays134 x w h0 h1
def Tryz.lays137_ren : Go.Shelf.Ren := ⟨fun | 137 => 317 | 217 => 382 | 266 => 404 | n => n, fun | 9 => 9 | 5 => 5 | 3 => 3 | n => n, fun | n => n⟩
def Tryz.lays129_ren : Go.Shelf.Ren := ⟨fun | 129 => 316 | n => n, fun | 53 => 355 | 3 => 3 | 4 => 4 | 46 => 365 | 5 => 5 | 9 => 9 | n => n, fun | n => n⟩
def Tryz.lays217_ren : Go.Shelf.Ren := ⟨fun | 217 => 382 | 266 => 404 | n => n, fun | 9 => 9 | 5 => 5 | 3 => 3 | n => n, fun | n => n⟩
def Tryz.lays224_ren : Go.Shelf.Ren := ⟨fun | 224 => 319 | n => n, fun | 3 => 3 | n => n, fun | n => n⟩
def Tryz.lays206_ren : Go.Shelf.Ren := ⟨fun | 206 => 321 | n => n, fun | 9 => 9 | 4 => 4 | 3 => 3 | n => n, fun | n => n⟩
def Tryz.lays99_ren : Go.Shelf.Ren := ⟨fun | 99 => 384 | 206 => 321 | n => n, fun | 9 => 9 | 4 => 4 | 3 => 3 | n => n, fun | n => n⟩
def Tryz.lays207_ren : Go.Shelf.Ren := ⟨fun | 207 => 210 | n => n, fun | 9 => 9 | 4 => 4 | 3 => 3 | n => n, fun | n => n⟩
def Tryz.lays100_ren : Go.Shelf.Ren := ⟨fun | 100 => 104 | 207 => 210 | n => n, fun | 9 => 9 | 4 => 4 | 3 => 3 | n => n, fun | n => n⟩
def Tryz.lays208_ren : Go.Shelf.Ren := ⟨fun | 208 => 209 | 206 => 321 | n => n, fun | 9 => 9 | 4 => 4 | 3 => 3 | n => n, fun | n => n⟩
def Tryz.lays101_ren : Go.Shelf.Ren := ⟨fun | 101 => 102 | 208 => 209 | 206 => 321 | n => n, fun | 9 => 9 | 4 => 4 | 3 => 3 | n => n, fun | n => n⟩
def Tryz.lays209_ren : Go.Shelf.Ren := ⟨fun | 209 => 211 | 207 => 210 | n => n, fun | 9 => 9 | 4 => 4 | 3 => 3 | n => n, fun | n => n⟩
def Tryz.lays102_ren : Go.Shelf.Ren := ⟨fun | 102 => 105 | 209 => 211 | 207 => 210 | n => n, fun | 9 => 9 | 4 => 4 | 3 => 3 | n => n, fun | n => n⟩
def Tryz.lays152_ren : Go.Shelf.Ren := ⟨fun | 152 => 205 | 137 => 317 | 119 => 318 | 224 => 319 | 225 => 320 | 217 => 382 | 266 => 404 | n => n, fun | 9 => 9 | 21 => 21 | 3 => 3 | 4 => 4 | 5 => 5 | 0 => 0 | 46 => 365 | n => n, fun | n => n⟩
def Tryz.lays226_ren : Go.Shelf.Ren := ⟨fun | 226 => 206 | n => n, fun | 3 => 3 | 4 => 4 | n => n, fun | n => n⟩
def Tryz.lays153_ren : Go.Shelf.Ren := ⟨fun | 153 => 101 | 152 => 205 | 226 => 206 | 227 => 207 | 228 => 208 | 137 => 317 | 119 => 318 | 224 => 319 | 225 => 320 | 217 => 382 | 266 => 404 | n => n, fun | 9 => 9 | 3 => 3 | 4 => 4 | 5 => 5 | 21 => 21 | 117 => 374 | 116 => 373 | 0 => 0 | 46 => 365 | 124 => 470 | n => n, fun | n => n⟩
def Tryz.lays227_ren : Go.Shelf.Ren := ⟨fun | 227 => 207 | n => n, fun | 9 => 9 | 116 => 373 | 4 => 4 | 0 => 0 | 3 => 3 | 5 => 5 | n => n, fun | n => n⟩
def Tryz.lays228_ren : Go.Shelf.Ren := ⟨fun | 228 => 208 | n => n, fun | 124 => 470 | 5 => 5 | 4 => 4 | 0 => 0 | 116 => 373 | n => n, fun | n => n⟩
def Tryz.lays264_ren : Go.Shelf.Ren := ⟨fun | 264 => 280 | n => n, fun | 53 => 355 | 46 => 365 | n => n, fun | n => n⟩
theorem Tryz.lays264 : Go.Proofs.Lays.n264 Tryz.prog Tryz.lays264_ren := {
  mixed := by kernel_rfl
  f264 := Tryz.func280.trans (congrArg some (by kernel_rfl))
  t46 := Tryz.underlying365
  a46 := Tryz.isAgg365
  z46 := Tryz.sizeOf365
  v46 := Tryz.zeroValue365
  t53 := Tryz.underlying355
  a53 := Tryz.isAgg355
  z53 := Tryz.sizeOf355
  v53 := Tryz.zeroValue355 }
open Go.RowKit Go.Lib in
theorem Tryz.bits_Mul64 (x y : Nat) (hx : x < 18446744073709551616) (hy : y < 18446744073709551616) (w : World) :
    Calls Tryz.prog 280 #[.int .u64 x, .int .u64 y] w fun e w' => e = .returned (.tuple #[.int .u64 ((x * y / 18446744073709551616 : Nat) : Int), .int .u64 ((x * y % 18446744073709551616 : Nat) : Int)]) ∧ w' = w := Any.bits_Mul64 Tryz.lays264 x y hx hy w
def Tryz.lays212_ren : Go.Shelf.Ren := ⟨fun | 212 => 383 | 263 => 405 | 264 => 280 | n => n, fun | 46 => 365 | 51 => 356 | 146 => 550 | 53 => 355 | 148 => 433 | n => n, fun | n => n⟩
def Tryz.lays105_ren : Go.Shelf.Ren := ⟨fun | 105 => 323 | 212 => 383 | 99 => 384 | 165 => 385 | 166 => 324 | 170 => 386 | 169 => 325 | 263 => 405 | 264 => 280 | 206 => 321 | 240 => 387 | 241 => 406 | 276 => 407 | 277 => 414 | n => n, fun | 9 => 9 | 3 => 3 | 4 => 4 | 20 => 20 | 0 => 0 | 46 => 365 | 109 => 532 | 5 => 5 | 72 => 476 | 76 => 479 | 51 => 356 | 146 => 550 | 53 => 355 | 148 => 433 | 70 => 474 | 37 => 471 | 75 => 478 | 127 => 535 | 164 => 552 | 80 => 100 | n => n, fun | n => n⟩
theorem Tryz.lays105 : Go.Proofs.Lays.n105 Tryz.prog Tryz.lays105_ren := {
  mixed := by kernel_rfl
  f99 := Tryz.func384.trans (congrArg some (by kernel_rfl))
  f105 := Tryz.func323.trans (congrArg some (by kernel_rfl))
  f165 := Tryz.func385.trans (congrArg some (by kernel_rfl))
  f166 := Tryz.func324.trans (congrArg some (by kernel_rfl))
  f169 := Tryz.func325.trans (congrArg some (by kernel_rfl))
  f170 := Tryz.func386.trans (congrArg some (by kernel_rfl))
  f206 := Tryz.func321.trans (congrArg some (by kernel_rfl))
  f212 := Tryz.func383.trans (congrArg some (by kernel_rfl))
  f240 := Tryz.func387.trans (congrArg some (by kernel_rfl))
  f241 := Tryz.func406.trans (congrArg some (by kernel_rfl))
  f263 := Tryz.func405.trans (congrArg some (by kernel_rfl))
  f264 := Tryz.func280.trans (congrArg some (by kernel_rfl))
  f276 := Tryz.func407.trans (congrArg some (by kernel_rfl))
  f277 := Tryz.func414.trans (congrArg some (by kernel_rfl))
  t0 := Tryz.underlying0
  a0 := Tryz.isAgg0
  z0 := Tryz.sizeOf0
  v0 := Tryz.zeroValue0
  t3 := Tryz.underlying3
  a3 := Tryz.isAgg3
  z3 := Tryz.sizeOf3
  v3 := Tryz.zeroValue3
  t4 := Tryz.underlying4
  a4 := Tryz.isAgg4
  z4 := Tryz.sizeOf4
  v4 := Tryz.zeroValue4
  t5 := Tryz.underlying5
  a5 := Tryz.isAgg5
  z5 := Tryz.sizeOf5
  v5 := Tryz.zeroValue5
  t9 := Tryz.underlying9
  a9 := Tryz.isAgg9
  z9 := Tryz.sizeOf9
  v9 := Tryz.zeroValue9
  t20 := Tryz.underlying20
  a20 := Tryz.isAgg20
  z20 := Tryz.sizeOf20
  v20 := Tryz.zeroValue20
  t37 := Tryz.underlying471
  a37 := Tryz.isAgg471
  z37 := Tryz.sizeOf471
  v37 := Tryz.zeroValue471
  t46 := Tryz.underlying365
  a46 := Tryz.isAgg365
  z46 := Tryz.sizeOf365
  v46 := Tryz.zeroValue365
  t51 := Tryz.underlying356
  a51 := Tryz.isAgg356
  z51 := Tryz.sizeOf356
  v51 := Tryz.zeroValue356
  t53 := Tryz.underlying355
  a53 := Tryz.isAgg355
  z53 := Tryz.sizeOf355
  v53 := Tryz.zeroValue355
  t70 := Tryz.underlying474
  a70 := Tryz.isAgg474
  z70 := Tryz.sizeOf474
  v70 := Tryz.zeroValue474
  t72 := Tryz.underlying476
  a72 := Tryz.isAgg476
  z72 := Tryz.sizeOf476
  v72 := Tryz.zeroValue476
  t75 := Tryz.underlying478
  a75 := Tryz.isAgg478
  z75 := Tryz.sizeOf478
  v75 := Tryz.zeroValue478
  t76 := Tryz.underlying479
  a76 := Tryz.isAgg479
  z76 := Tryz.sizeOf479
  v76 := Tryz.zeroValue479
  t109 := Tryz.underlying532
  a109 := Tryz.isAgg532
  z109 := Tryz.sizeOf532
  v109 := Tryz.zeroValue532
  t127 := Tryz.underlying535
  a127 := Tryz.isAgg535
  z127 := Tryz.sizeOf535
  v127 := Tryz.zeroValue535
  t146 := Tryz.underlying550
  a146 := Tryz.isAgg550
  z146 := Tryz.sizeOf550
  v146 := Tryz.zeroValue550
  t148 := Tryz.underlying433
  a148 := Tryz.isAgg433
  z148 := Tryz.sizeOf433
  v148 := Tryz.zeroValue433
  t164 := Tryz.underlying552
  a164 := Tryz.isAgg552
  z164 := Tryz.sizeOf552
  v164 := Tryz.zeroValue552 }
theorem Tryz.Builder_Extra_105 : Builder.Extra Tryz.prog Tryz.lays105_ren := {
  sizeBuilder := by kernel_rfl
  liesBuilder := by kernel_rfl
  t5 := Tryz.underlying5
  a5 := Tryz.isAgg5
  z5 := Tryz.sizeOf5
  v5 := Tryz.zeroValue5
  infoByte := by kernel_rfl
  cellsByte := by kernel_rfl
  sizeByte := by kernel_rfl
  neB5 := by decide }
open Go.RowKit Go.Lib in
theorem Tryz.strings_Repeat (s : ByteArray) (c : Nat) (w : World) (hc : c ≤ 9223372036854775807) (hlen : s.size * c ≤ 140737488355328) :
    Calls Tryz.prog 323 #[.string s, .int .i64 c] w fun e w' => e = .returned (.string ⟨(Lib.repeatL s.data.toList c).toArray⟩) ∧ Below w.heap.size w w' := Any.strings_Repeat Tryz.lays105 Tryz.Builder_Extra_105 s c w hc hlen
end Go.Proofs
