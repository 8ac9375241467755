/- Part of the proof of Card. -/
import Derived.Shelf.Strings.Trim
import Derived.Shelf.Small.Utf8
import Derived.Shelf.Small.Bits
import Derived.Shelf.Small.Strs
import Derived.Shelf.Strconv.Itoa0
import Derived.Shelf.Strings.Search1
import Derived.Shelf.Strings.Runes
import Derived.Shelf.Strings.AsciiSet
import Derived.Shelf.Bits.Mul64
import Derived.Shelf.Unicode.DecodeSlow
import Derived.Shelf.Unicode.DecodeAny
import Derived.Shelf.Unicode.DecodeLast
import Derived.Test.YtakickbnjbedfaaDoorProg
namespace Go.Proofs
open Go.Shelf
def Tryd.lays161_ren : Go.Shelf.Ren := ⟨fun | 161 => 112 | 231 => 151 | 227 => 152 | 233 => 153 | 235 => 154 | 228 => 174 | 197 => 175 | 151 => 176 | 260 => 193 | 152 => 194 | 137 => 199 | 119 => 200 | 224 => 201 | 225 => 202 | 217 => 204 | 266 => 205 | n => n, fun | 9 => 9 | 4 => 4 | 3 => 3 | 5 => 5 | 117 => 162 | 116 => 161 | 0 => 0 | 124 => 165 | 105 => 179 | 21 => 21 | 119 => 193 | 46 => 116 | 139 => 196 | 138 => 195 | n => n, fun | 3 => 4 | 4 => 5 | n => n⟩
theorem Tryd.lays161 : Go.Proofs.Lays.n161 Tryd.prog Tryd.lays161_ren := {
  mixed := by kernel_rfl
  f119 := Tryd.func200.trans (congrArg some (by kernel_rfl))
  f137 := Tryd.func199.trans (congrArg some (by kernel_rfl))
  f151 := Tryd.func176.trans (congrArg some (by kernel_rfl))
  f152 := Tryd.func194.trans (congrArg some (by kernel_rfl))
  f161 := Tryd.func112.trans (congrArg some (by kernel_rfl))
  f197 := Tryd.func175.trans (congrArg some (by kernel_rfl))
  f217 := Tryd.func204.trans (congrArg some (by kernel_rfl))
  f224 := Tryd.func201.trans (congrArg some (by kernel_rfl))
  f225 := Tryd.func202.trans (congrArg some (by kernel_rfl))
  f227 := Tryd.func152.trans (congrArg some (by kernel_rfl))
  f228 := Tryd.func174.trans (congrArg some (by kernel_rfl))
  f231 := Tryd.func151.trans (congrArg some (by kernel_rfl))
  f233 := Tryd.func153.trans (congrArg some (by kernel_rfl))
  f235 := Tryd.func154.trans (congrArg some (by kernel_rfl))
  f260 := Tryd.func193.trans (congrArg some (by kernel_rfl))
  f266 := Tryd.func205.trans (congrArg some (by kernel_rfl))
  t0 := Tryd.underlying0
  a0 := Tryd.isAgg0
  z0 := Tryd.sizeOf0
  v0 := Tryd.zeroValue0
  t3 := Tryd.underlying3
  a3 := Tryd.isAgg3
  z3 := Tryd.sizeOf3
  v3 := Tryd.zeroValue3
  t4 := Tryd.underlying4
  a4 := Tryd.isAgg4
  z4 := Tryd.sizeOf4
  v4 := Tryd.zeroValue4
  t5 := Tryd.underlying5
  a5 := Tryd.isAgg5
  z5 := Tryd.sizeOf5
  v5 := Tryd.zeroValue5
  t9 := Tryd.underlying9
  a9 := Tryd.isAgg9
  z9 := Tryd.sizeOf9
  v9 := Tryd.zeroValue9
  t21 := Tryd.underlying21
  a21 := Tryd.isAgg21
  z21 := Tryd.sizeOf21
  v21 := Tryd.zeroValue21
  t46 := Tryd.underlying116
  a46 := Tryd.isAgg116
  z46 := Tryd.sizeOf116
  v46 := Tryd.zeroValue116
  t105 := Tryd.underlying179
  a105 := Tryd.isAgg179
  z105 := Tryd.sizeOf179
  v105 := Tryd.zeroValue179
  t116 := Tryd.underlying161
  a116 := Tryd.isAgg161
  z116 := Tryd.sizeOf161
  t117 := Tryd.underlying162
  a117 := Tryd.isAgg162
  z117 := Tryd.sizeOf162
  v117 := Tryd.zeroValue162
  t119 := Tryd.underlying193
  a119 := Tryd.isAgg193
  z119 := Tryd.sizeOf193
  t124 := Tryd.underlying165
  a124 := Tryd.isAgg165
  z124 := Tryd.sizeOf165
  v124 := Tryd.zeroValue165
  t138 := Tryd.underlying195
  a138 := Tryd.isAgg195
  z138 := Tryd.sizeOf195
  v138 := Tryd.zeroValue195
  t139 := Tryd.underlying196
  a139 := Tryd.isAgg196
  z139 := Tryd.sizeOf196
  v139 := Tryd.zeroValue196
  g3 := by kernel_rfl
  g4 := by kernel_rfl }
open Go.RowKit in
theorem Tryd.strings_TrimLeft_one (s : ByteArray) (c : UInt8) (hc : c.toNat < 128) (w : World) :
    Calls Tryd.prog 112 #[.string s, .string ⟨#[c]⟩] w fun e w' => e = .returned (.string ⟨(Lib.trimLeftB s.data.toList c).toArray⟩) ∧ w' = w := Any.strings_TrimLeft_one Tryd.lays161 s c hc w
def Tryd.lays128_ren : Go.Shelf.Ren := ⟨fun | 128 => 109 | n => n, fun | 51 => 55 | 3 => 3 | 4 => 4 | 46 => 116 | 5 => 5 | 9 => 9 | n => n, fun | n => n⟩
def Tryd.lays133_ren : Go.Shelf.Ren := ⟨fun | 133 => 185 | 128 => 109 | n => n, fun | 51 => 55 | 3 => 3 | 4 => 4 | 46 => 116 | 5 => 5 | 9 => 9 | n => n, fun | n => n⟩
theorem Tryd.lays133 : Go.Proofs.Lays.n133 Tryd.prog Tryd.lays133_ren := {
  mixed := by kernel_rfl
  f128 := Tryd.func109.trans (congrArg some (by kernel_rfl))
  f133 := Tryd.func185.trans (congrArg some (by kernel_rfl))
  t3 := Tryd.underlying3
  a3 := Tryd.isAgg3
  z3 := Tryd.sizeOf3
  v3 := Tryd.zeroValue3
  t4 := Tryd.underlying4
  a4 := Tryd.isAgg4
  z4 := Tryd.sizeOf4
  v4 := Tryd.zeroValue4
  t5 := Tryd.underlying5
  a5 := Tryd.isAgg5
  z5 := Tryd.sizeOf5
  v5 := Tryd.zeroValue5
  t9 := Tryd.underlying9
  a9 := Tryd.isAgg9
  z9 := Tryd.sizeOf9
  v9 := Tryd.zeroValue9
  t46 := Tryd.underlying116
  a46 := Tryd.isAgg116
  z46 := Tryd.sizeOf116
  v46 := Tryd.zeroValue116
  t51 := Tryd.underlying55
  a51 := Tryd.isAgg55
  z51 := Tryd.sizeOf55
  v51 := Tryd.zeroValue55 }
theorem Tryd.bits_LeadingZeros32 (x : Int) (w : World) (h0 : 0 ≤ x) (h1 : x ≤ 4294967295) :
    Calls Tryd.prog 185 #[.int .u32 x] w fun e w' => e = .returned (.int .i64 (32 - (Lib.bitLen x.toNat : Int))) ∧ w' = w := Any.bits_LeadingZeros32 Tryd.lays133 x w h0 h1
def Tryd.lays213_ren : Go.Shelf.Ren := ⟨fun | 213 => 141 | 265 => 168 | n => n, fun | 9 => 9 | 3 => 3 | n => n, fun | n => n⟩
def Tryd.lays106_ren : Go.Shelf.Ren := ⟨fun | 106 => 90 | 213 => 141 | 265 => 168 | n => n, fun | 9 => 9 | 3 => 3 | n => n, fun | n => n⟩
theorem Tryd.lays106 : Go.Proofs.Lays.n106 Tryd.prog Tryd.lays106_ren := {
  mixed := by kernel_rfl
  f106 := Tryd.func90.trans (congrArg some (by kernel_rfl))
  f213 := Tryd.func141.trans (congrArg some (by kernel_rfl))
  f265 := Tryd.func168.trans (congrArg some (by kernel_rfl))
  t3 := Tryd.underlying3
  a3 := Tryd.isAgg3
  z3 := Tryd.sizeOf3
  v3 := Tryd.zeroValue3
  t9 := Tryd.underlying9
  a9 := Tryd.isAgg9
  z9 := Tryd.sizeOf9
  v9 := Tryd.zeroValue9 }
open Go.RowKit in
theorem Tryd.strings_Compare (a b : ByteArray) (w : World) :
    Calls Tryd.prog 90 #[.string a, .string b] w fun e w' => e = .returned (.int .i64 (Lib.compareBytes a.data.toList b.data.toList)) ∧ w' = w := Any.strings_Compare Tryd.lays106 a b w
def Tryd.lays264_ren : Go.Shelf.Ren := ⟨fun | 264 => 140 | n => n, fun | 53 => 40 | 46 => 116 | n => n, fun | n => n⟩
theorem Tryd.lays264 : Go.Proofs.Lays.n264 Tryd.prog Tryd.lays264_ren := {
  mixed := by kernel_rfl
  f264 := Tryd.func140.trans (congrArg some (by kernel_rfl))
  t46 := Tryd.underlying116
  a46 := Tryd.isAgg116
  z46 := Tryd.sizeOf116
  v46 := Tryd.zeroValue116
  t53 := Tryd.underlying40
  a53 := Tryd.isAgg40
  z53 := Tryd.sizeOf40
  v53 := Tryd.zeroValue40 }
open Go.RowKit Go.Lib in
theorem Tryd.bits_Mul64 (x y : Nat) (hx : x < 18446744073709551616) (hy : y < 18446744073709551616) (w : World) :
    Calls Tryd.prog 140 #[.int .u64 x, .int .u64 y] w fun e w' => e = .returned (.tuple #[.int .u64 ((x * y / 18446744073709551616 : Nat) : Int), .int .u64 ((x * y % 18446744073709551616 : Nat) : Int)]) ∧ w' = w := Any.bits_Mul64 Tryd.lays264 x y hx hy w
end Go.Proofs
