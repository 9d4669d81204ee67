/-
  DERIVED: THE SHELF's CONTRACTS AT THIS DUMP, IN PLAIN WORDS (tools/lay-plain.mjs out of 'TryzShelf.lean', which tools/lay-shelf.mjs wrote): THE SAME DECLARATIONS UNDER THE SAME NAMES: 'import', 'namespace', 'open', 'def', 'theorem' AND NOTHING ELSE: no command of the shelf's: FOR A HAND-IN. Each laying: the table of numbers ('.._ren') and one theorem, a field a fact of the dump's own or the kernel's comparison; each contract: ONE APPLICATION.
-/
import Derived.Shelf.Strings.Builder1
import Derived.Shelf.Strings.Builder2
import Derived.Shelf.Small.Utf8
import Derived.Shelf.Small.Bits
import Derived.Shelf.Small.Strs
import Derived.Shelf.Strings.BuilderF
import Derived.Shelf.Strings.BuilderK
import Derived.Shelf.Strings.Builder2Cap
import Derived.Shelf.Strconv.Itoa0
import Derived.Shelf.Strings.Search1
import Derived.Shelf.Strings.Prefix
import Derived.Shelf.Strings.Runes
import Derived.Shelf.Strings.IndexAny
import Derived.Shelf.Strings.AsciiSet
import Derived.Shelf.Strings.IndexAnyAll
import Derived.Shelf.Bits.Mul64
import Derived.Shelf.Strings.Repeat
import Derived.Shelf.Strings.BuilderCap
import Derived.Test.YtlejfhljdmbcmaaGreatProg
namespace Go.Proofs
open Go.Shelf
def Tryz.lays170_ren : Go.Shelf.Ren := ⟨fun | 170 => 220 | n => n, fun | 70 => 299 | 3 => 3 | 0 => 0 | 72 => 301 | 37 => 296 | 5 => 5 | n => n, fun | n => n⟩
def Tryz.lays169_ren : Go.Shelf.Ren := ⟨fun | 169 => 204 | n => n, fun | 70 => 299 | 9 => 9 | 0 => 0 | 72 => 301 | 37 => 296 | 127 => 319 | 3 => 3 | 5 => 5 | n => n, fun | n => n⟩
theorem Tryz.lays169 : Go.Proofs.Lays.n169 Tryz.prog Tryz.lays169_ren := {
  mixed := by kernel_rfl
  f169 := Tryz.func204.trans (congrArg some (by kernel_rfl))
  t0 := Tryz.underlying0
  a0 := Tryz.isAgg0
  z0 := Tryz.sizeOf0
  v0 := Tryz.zeroValue0
  t3 := Tryz.underlying3
  a3 := Tryz.isAgg3
  z3 := Tryz.sizeOf3
  v3 := Tryz.zeroValue3
  t9 := Tryz.underlying9
  a9 := Tryz.isAgg9
  z9 := Tryz.sizeOf9
  v9 := Tryz.zeroValue9
  t37 := Tryz.underlying296
  a37 := Tryz.isAgg296
  z37 := Tryz.sizeOf296
  v37 := Tryz.zeroValue296
  t70 := Tryz.underlying299
  a70 := Tryz.isAgg299
  z70 := Tryz.sizeOf299
  v70 := Tryz.zeroValue299
  t72 := Tryz.underlying301
  a72 := Tryz.isAgg301
  z72 := Tryz.sizeOf301
  v72 := Tryz.zeroValue301
  t127 := Tryz.underlying319
  a127 := Tryz.isAgg319
  z127 := Tryz.sizeOf319
  v127 := Tryz.zeroValue319 }
theorem Tryz.Builder_Extra_169 : Builder.Extra Tryz.prog Tryz.lays169_ren := {
  sizeBuilder := by kernel_rfl
  liesBuilder := by kernel_rfl
  t5 := Tryz.underlying5
  a5 := Tryz.isAgg5
  z5 := Tryz.sizeOf5
  v5 := Tryz.zeroValue5
  infoByte := by kernel_rfl
  cellsByte := by kernel_rfl
  sizeByte := by kernel_rfl
  neB5 := by decide }
open Go.RowKit in
theorem Tryz.Builder_String_any (B b : Nat) (l : List UInt8) (w : World) (h : Lib.IsBuilder 301 5 B b (Lib.byteCells l) w) (hBw : B ≤ w.heap.size) :
    Calls Tryz.prog 204 #[.pointer (some ⟨b, 0, none⟩)] w fun e w' => e = .returned (.string ⟨l.toArray⟩) ∧ Below B w w' := Any.Builder_String_any Tryz.lays169 Tryz.Builder_Extra_169 B b l w h hBw
def Tryz.lays241_ren : Go.Shelf.Ren := ⟨fun | 241 => 226 | 277 => 228 | n => n, fun | 70 => 299 | 3 => 3 | 0 => 0 | 72 => 301 | 37 => 296 | 5 => 5 | n => n, fun | n => n⟩
def Tryz.lays165_ren : Go.Shelf.Ren := ⟨fun | 165 => 219 | 240 => 221 | 241 => 226 | 276 => 227 | 277 => 228 | n => n, fun | 70 => 299 | 3 => 3 | 0 => 0 | 4 => 4 | 9 => 9 | 20 => 20 | 72 => 301 | 37 => 296 | 164 => 322 | 5 => 5 | n => n, fun | n => n⟩
def Tryz.lays119_ren : Go.Shelf.Ren := ⟨fun | 119 => 197 | n => n, fun | 21 => 21 | 4 => 4 | n => n, fun | n => n⟩
def Tryz.lays134_ren : Go.Shelf.Ren := ⟨fun | 134 => 182 | 129 => 207 | n => n, fun | 53 => 215 | 3 => 3 | 4 => 4 | 46 => 280 | 5 => 5 | 9 => 9 | n => n, fun | n => n⟩
theorem Tryz.lays134 : Go.Proofs.Lays.n134 Tryz.prog Tryz.lays134_ren := {
  mixed := by kernel_rfl
  f129 := Tryz.func207.trans (congrArg some (by kernel_rfl))
  f134 := Tryz.func182.trans (congrArg some (by kernel_rfl))
  t3 := Tryz.underlying3
  a3 := Tryz.isAgg3
  z3 := Tryz.sizeOf3
  v3 := Tryz.zeroValue3
  t4 := Tryz.underlying4
  a4 := Tryz.isAgg4
  z4 := Tryz.sizeOf4
  v4 := Tryz.zeroValue4
  t5 := Tryz.underlying5
  a5 := Tryz.isAgg5
  z5 := Tryz.sizeOf5
  v5 := Tryz.zeroValue5
  t9 := Tryz.underlying9
  a9 := Tryz.isAgg9
  z9 := Tryz.sizeOf9
  v9 := Tryz.zeroValue9
  t46 := Tryz.underlying280
  a46 := Tryz.isAgg280
  z46 := Tryz.sizeOf280
  v46 := Tryz.zeroValue280
  t53 := Tryz.underlying215
  a53 := Tryz.isAgg215
  z53 := Tryz.sizeOf215
  v53 := Tryz.zeroValue215 }
theorem Tryz.bits_LeadingZeros64 (x : Int) (w : World) (h0 : 0 ≤ x) (h1 : x ≤ 18446744073709551615) :
    Calls Tryz.prog 182 #[.int .u64 x] w fun e w' => e = .returned (.int .i64 (64 - (Lib.bitLen x.toNat : Int))) ∧ w' = w := Any.bits_LeadingZeros64 Tryz.lays134 x w h0 h1
def Tryz.lays137_ren : Go.Shelf.Ren := ⟨fun | 137 => 196 | 217 => 216 | 266 => 224 | n => n, fun | 9 => 9 | 5 => 5 | 3 => 3 | n => n, fun | n => n⟩
def Tryz.lays129_ren : Go.Shelf.Ren := ⟨fun | 129 => 207 | n => n, fun | 53 => 215 | 3 => 3 | 4 => 4 | 46 => 280 | 5 => 5 | 9 => 9 | n => n, fun | n => n⟩
def Tryz.lays217_ren : Go.Shelf.Ren := ⟨fun | 217 => 216 | 266 => 224 | n => n, fun | 9 => 9 | 5 => 5 | 3 => 3 | n => n, fun | n => n⟩
def Tryz.lays224_ren : Go.Shelf.Ren := ⟨fun | 224 => 198 | n => n, fun | 3 => 3 | n => n, fun | n => n⟩
def Tryz.lays206_ren : Go.Shelf.Ren := ⟨fun | 206 => 200 | n => n, fun | 9 => 9 | 4 => 4 | 3 => 3 | n => n, fun | n => n⟩
def Tryz.lays99_ren : Go.Shelf.Ren := ⟨fun | 99 => 218 | 206 => 200 | n => n, fun | 9 => 9 | 4 => 4 | 3 => 3 | n => n, fun | n => n⟩
def Tryz.lays207_ren : Go.Shelf.Ren := ⟨fun | 207 => 161 | n => n, fun | 9 => 9 | 4 => 4 | 3 => 3 | n => n, fun | n => n⟩
def Tryz.lays100_ren : Go.Shelf.Ren := ⟨fun | 100 => 100 | 207 => 161 | n => n, fun | 9 => 9 | 4 => 4 | 3 => 3 | n => n, fun | n => n⟩
def Tryz.lays208_ren : Go.Shelf.Ren := ⟨fun | 208 => 160 | 206 => 200 | n => n, fun | 9 => 9 | 4 => 4 | 3 => 3 | n => n, fun | n => n⟩
def Tryz.lays101_ren : Go.Shelf.Ren := ⟨fun | 101 => 98 | 208 => 160 | 206 => 200 | n => n, fun | 9 => 9 | 4 => 4 | 3 => 3 | n => n, fun | n => n⟩
def Tryz.lays209_ren : Go.Shelf.Ren := ⟨fun | 209 => 162 | 207 => 161 | n => n, fun | 9 => 9 | 4 => 4 | 3 => 3 | n => n, fun | n => n⟩
def Tryz.lays102_ren : Go.Shelf.Ren := ⟨fun | 102 => 101 | 209 => 162 | 207 => 161 | n => n, fun | 9 => 9 | 4 => 4 | 3 => 3 | n => n, fun | n => n⟩
def Tryz.lays152_ren : Go.Shelf.Ren := ⟨fun | 152 => 156 | 137 => 196 | 119 => 197 | 224 => 198 | 225 => 199 | 217 => 216 | 266 => 224 | n => n, fun | 9 => 9 | 21 => 21 | 3 => 3 | 4 => 4 | 5 => 5 | 0 => 0 | 46 => 280 | n => n, fun | n => n⟩
def Tryz.lays226_ren : Go.Shelf.Ren := ⟨fun | 226 => 157 | n => n, fun | 3 => 3 | 4 => 4 | n => n, fun | n => n⟩
def Tryz.lays153_ren : Go.Shelf.Ren := ⟨fun | 153 => 97 | 152 => 156 | 226 => 157 | 227 => 158 | 228 => 159 | 137 => 196 | 119 => 197 | 224 => 198 | 225 => 199 | 217 => 216 | 266 => 224 | n => n, fun | 9 => 9 | 3 => 3 | 4 => 4 | 5 => 5 | 21 => 21 | 117 => 261 | 116 => 260 | 0 => 0 | 46 => 280 | 124 => 295 | n => n, fun | n => n⟩
def Tryz.lays227_ren : Go.Shelf.Ren := ⟨fun | 227 => 158 | n => n, fun | 9 => 9 | 116 => 260 | 4 => 4 | 0 => 0 | 3 => 3 | 5 => 5 | n => n, fun | n => n⟩
def Tryz.lays228_ren : Go.Shelf.Ren := ⟨fun | 228 => 159 | n => n, fun | 124 => 295 | 5 => 5 | 4 => 4 | 0 => 0 | 116 => 260 | n => n, fun | n => n⟩
def Tryz.lays264_ren : Go.Shelf.Ren := ⟨fun | 264 => 130 | n => n, fun | 53 => 215 | 46 => 280 | n => n, fun | n => n⟩
theorem Tryz.lays264 : Go.Proofs.Lays.n264 Tryz.prog Tryz.lays264_ren := {
  mixed := by kernel_rfl
  f264 := Tryz.func130.trans (congrArg some (by kernel_rfl))
  t46 := Tryz.underlying280
  a46 := Tryz.isAgg280
  z46 := Tryz.sizeOf280
  v46 := Tryz.zeroValue280
  t53 := Tryz.underlying215
  a53 := Tryz.isAgg215
  z53 := Tryz.sizeOf215
  v53 := Tryz.zeroValue215 }
open Go.RowKit Go.Lib in
theorem Tryz.bits_Mul64 (x y : Nat) (hx : x < 18446744073709551616) (hy : y < 18446744073709551616) (w : World) :
    Calls Tryz.prog 130 #[.int .u64 x, .int .u64 y] w fun e w' => e = .returned (.tuple #[.int .u64 ((x * y / 18446744073709551616 : Nat) : Int), .int .u64 ((x * y % 18446744073709551616 : Nat) : Int)]) ∧ w' = w := Any.bits_Mul64 Tryz.lays264 x y hx hy w
def Tryz.lays212_ren : Go.Shelf.Ren := ⟨fun | 212 => 217 | 263 => 225 | 264 => 130 | n => n, fun | 46 => 280 | 51 => 252 | 146 => 320 | 53 => 215 | 148 => 231 | n => n, fun | n => n⟩
def Tryz.lays105_ren : Go.Shelf.Ren := ⟨fun | 105 => 202 | 212 => 217 | 99 => 218 | 165 => 219 | 166 => 203 | 170 => 220 | 169 => 204 | 263 => 225 | 264 => 130 | 206 => 200 | 240 => 221 | 241 => 226 | 276 => 227 | 277 => 228 | n => n, fun | 9 => 9 | 3 => 3 | 4 => 4 | 20 => 20 | 0 => 0 | 46 => 280 | 109 => 316 | 5 => 5 | 72 => 301 | 76 => 304 | 51 => 252 | 146 => 320 | 53 => 215 | 148 => 231 | 70 => 299 | 37 => 296 | 75 => 303 | 127 => 319 | 164 => 322 | 80 => 141 | n => n, fun | n => n⟩
theorem Tryz.lays105 : Go.Proofs.Lays.n105 Tryz.prog Tryz.lays105_ren := {
  mixed := by kernel_rfl
  f99 := Tryz.func218.trans (congrArg some (by kernel_rfl))
  f105 := Tryz.func202.trans (congrArg some (by kernel_rfl))
  f165 := Tryz.func219.trans (congrArg some (by kernel_rfl))
  f166 := Tryz.func203.trans (congrArg some (by kernel_rfl))
  f169 := Tryz.func204.trans (congrArg some (by kernel_rfl))
  f170 := Tryz.func220.trans (congrArg some (by kernel_rfl))
  f206 := Tryz.func200.trans (congrArg some (by kernel_rfl))
  f212 := Tryz.func217.trans (congrArg some (by kernel_rfl))
  f240 := Tryz.func221.trans (congrArg some (by kernel_rfl))
  f241 := Tryz.func226.trans (congrArg some (by kernel_rfl))
  f263 := Tryz.func225.trans (congrArg some (by kernel_rfl))
  f264 := Tryz.func130.trans (congrArg some (by kernel_rfl))
  f276 := Tryz.func227.trans (congrArg some (by kernel_rfl))
  f277 := Tryz.func228.trans (congrArg some (by kernel_rfl))
  t0 := Tryz.underlying0
  a0 := Tryz.isAgg0
  z0 := Tryz.sizeOf0
  v0 := Tryz.zeroValue0
  t3 := Tryz.underlying3
  a3 := Tryz.isAgg3
  z3 := Tryz.sizeOf3
  v3 := Tryz.zeroValue3
  t4 := Tryz.underlying4
  a4 := Tryz.isAgg4
  z4 := Tryz.sizeOf4
  v4 := Tryz.zeroValue4
  t5 := Tryz.underlying5
  a5 := Tryz.isAgg5
  z5 := Tryz.sizeOf5
  v5 := Tryz.zeroValue5
  t9 := Tryz.underlying9
  a9 := Tryz.isAgg9
  z9 := Tryz.sizeOf9
  v9 := Tryz.zeroValue9
  t20 := Tryz.underlying20
  a20 := Tryz.isAgg20
  z20 := Tryz.sizeOf20
  v20 := Tryz.zeroValue20
  t37 := Tryz.underlying296
  a37 := Tryz.isAgg296
  z37 := Tryz.sizeOf296
  v37 := Tryz.zeroValue296
  t46 := Tryz.underlying280
  a46 := Tryz.isAgg280
  z46 := Tryz.sizeOf280
  v46 := Tryz.zeroValue280
  t51 := Tryz.underlying252
  a51 := Tryz.isAgg252
  z51 := Tryz.sizeOf252
  v51 := Tryz.zeroValue252
  t53 := Tryz.underlying215
  a53 := Tryz.isAgg215
  z53 := Tryz.sizeOf215
  v53 := Tryz.zeroValue215
  t70 := Tryz.underlying299
  a70 := Tryz.isAgg299
  z70 := Tryz.sizeOf299
  v70 := Tryz.zeroValue299
  t72 := Tryz.underlying301
  a72 := Tryz.isAgg301
  z72 := Tryz.sizeOf301
  v72 := Tryz.zeroValue301
  t75 := Tryz.underlying303
  a75 := Tryz.isAgg303
  z75 := Tryz.sizeOf303
  v75 := Tryz.zeroValue303
  t76 := Tryz.underlying304
  a76 := Tryz.isAgg304
  z76 := Tryz.sizeOf304
  v76 := Tryz.zeroValue304
  t109 := Tryz.underlying316
  a109 := Tryz.isAgg316
  z109 := Tryz.sizeOf316
  v109 := Tryz.zeroValue316
  t127 := Tryz.underlying319
  a127 := Tryz.isAgg319
  z127 := Tryz.sizeOf319
  v127 := Tryz.zeroValue319
  t146 := Tryz.underlying320
  a146 := Tryz.isAgg320
  z146 := Tryz.sizeOf320
  v146 := Tryz.zeroValue320
  t148 := Tryz.underlying231
  a148 := Tryz.isAgg231
  z148 := Tryz.sizeOf231
  v148 := Tryz.zeroValue231
  t164 := Tryz.underlying322
  a164 := Tryz.isAgg322
  z164 := Tryz.sizeOf322
  v164 := Tryz.zeroValue322 }
theorem Tryz.Builder_Extra_105 : Builder.Extra Tryz.prog Tryz.lays105_ren := {
  sizeBuilder := by kernel_rfl
  liesBuilder := by kernel_rfl
  t5 := Tryz.underlying5
  a5 := Tryz.isAgg5
  z5 := Tryz.sizeOf5
  v5 := Tryz.zeroValue5
  infoByte := by kernel_rfl
  cellsByte := by kernel_rfl
  sizeByte := by kernel_rfl
  neB5 := by decide }
open Go.RowKit Go.Lib in
theorem Tryz.strings_Repeat (s : ByteArray) (c : Nat) (w : World) (hc : c ≤ 9223372036854775807) (hlen : s.size * c ≤ 140737488355328) :
    Calls Tryz.prog 202 #[.string s, .int .i64 c] w fun e w' => e = .returned (.string ⟨(Lib.repeatL s.data.toList c).toArray⟩) ∧ Below w.heap.size w w' := Any.strings_Repeat Tryz.lays105 Tryz.Builder_Extra_105 s c w hc hlen
end Go.Proofs
