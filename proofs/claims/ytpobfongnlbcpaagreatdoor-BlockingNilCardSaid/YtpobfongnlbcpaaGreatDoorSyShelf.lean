/- The shelf of contracts at this dump (printed by the kit, cut to what is used). -/
import Derived.Shelf.Strings.Builder1
import Derived.Shelf.Strings.Builder2
import Derived.Shelf.Strings.OnBuilder
import Derived.Shelf.Strings.Trim
import Derived.Shelf.Small.Utf8
import Derived.Shelf.Small.Bits
import Derived.Shelf.Small.Strs
import Derived.Shelf.Small.Wraps
import Derived.Shelf.Strings.BuilderF
import Derived.Shelf.Strings.BuilderK
import Derived.Shelf.Strings.Builder2Cap
import Derived.Shelf.Strconv.Itoa0
import Derived.Shelf.Strconv.Itoa1
import Derived.Shelf.LaysM
import Derived.Shelf.Strconv.Itoa2
import Derived.Shelf.Strconv.Itoa3
import Derived.Shelf.Strconv.Clone
import Derived.Shelf.Strconv.SyntaxError
import Derived.Shelf.Strconv.Lower
import Derived.Shelf.Strconv.ParseUint10
import Derived.Shelf.Strconv.ParseUint10Empty
import Derived.Shelf.Strconv.RangeError
import Derived.Shelf.Strconv.ParseUintEmpty
import Derived.Shelf.Strconv.ParseUint10b64
import Derived.Shelf.Strconv.ParseUint10b32
import Derived.Shelf.Strconv.ParseUint10b16
import Derived.Shelf.Strconv.ParseUint10b8
import Derived.Ground.MpProg
import Derived.Shelf.Pu.ParseUintPublic10
import Derived.Shelf.Strings.Search1
import Derived.Shelf.Strings.Search2
import Derived.Shelf.Strings.Cut
import Derived.Shelf.Strings.Shaped
import Derived.Shelf.Strings.Prefix
import Derived.Shelf.Unicode.Decode
import Derived.Shelf.Strings.Runes
import Derived.Shelf.Strings.AsciiSet
import Derived.Shelf.Bits.Mul64
import Derived.Shelf.Strings.Repeat
import Derived.Shelf.Unicode.DecodeSlow
import Derived.Shelf.Unicode.DecodeAny
import Derived.Shelf.Unicode.DecodeLast
import Derived.Shelf.Slices.Turned
import Derived.Ground.Names2Prog
import Derived.Shelf.Slices.ReverseS
import Derived.Shelf.Slices.Clone
import Derived.Shelf.Slices.SearchI
import Derived.Shelf.Slices.Cells
import Derived.Ground.SlgnProg
import Derived.Shelf.SlicesE.Reverse
import Derived.Shelf.SlicesE.Clone
import Derived.Test.YtpobfongnlbcpaaGreatDoorProg
namespace Go.Proofs
open Go.Shelf
def Tryz.laysPu14_ren : Go.Shelf.Ren := ⟨fun | 14 => 191 | 16 => 244 | 17 => 245 | 19 => 291 | 20 => 292 | 21 => 293 | 22 => 294 | 23 => 295 | 24 => 296 | 25 => 343 | 27 => 167 | 26 => 344 | 28 => 226 | 29 => 277 | 30 => 332 | 31 => 333 | 32 => 334 | 33 => 335 | 35 => 119 | 34 => 373 | 36 => 374 | 37 => 375 | 38 => 376 | 39 => 402 | 40 => 353 | n => n, fun | 9 => 9 | 3 => 3 | 22 => 183 | 24 => 290 | 25 => 291 | 4 => 4 | 34 => 411 | 5 => 5 | 36 => 127 | 37 => 144 | 0 => 0 | 39 => 413 | 21 => 21 | 44 => 468 | 47 => 406 | 50 => 495 | 48 => 493 | 2 => 2 | 52 => 453 | 55 => 455 | 59 => 491 | 60 => 185 | 20 => 20 | 61 => 492 | 65 => 518 | 66 => 498 | 67 => 190 | n => n, fun | 0 => 3 | 1 => 4 | 2 => 5 | 3 => 7 | 4 => 6 | n => n⟩
theorem Tryz.laysPu14 : Go.Proofs.LaysPu.n14 Tryz.prog Tryz.laysPu14_ren := {
  mixed := by kernel_rfl
  f14 := Tryz.func191.trans (congrArg some (by kernel_rfl))
  f16 := Tryz.func244.trans (congrArg some (by kernel_rfl))
  f17 := Tryz.func245.trans (congrArg some (by kernel_rfl))
  f19 := Tryz.func291.trans (congrArg some (by kernel_rfl))
  f20 := Tryz.func292.trans (congrArg some (by kernel_rfl))
  f21 := Tryz.func293.trans (congrArg some (by kernel_rfl))
  f22 := Tryz.func294.trans (congrArg some (by kernel_rfl))
  f23 := Tryz.func295.trans (congrArg some (by kernel_rfl))
  f24 := Tryz.func296.trans (congrArg some (by kernel_rfl))
  f25 := Tryz.func343.trans (congrArg some (by kernel_rfl))
  f26 := Tryz.func344.trans (congrArg some (by kernel_rfl))
  f27 := Tryz.func167.trans (congrArg some (by kernel_rfl))
  f28 := Tryz.func226.trans (congrArg some (by kernel_rfl))
  f29 := Tryz.func277.trans (congrArg some (by kernel_rfl))
  f30 := Tryz.func332.trans (congrArg some (by kernel_rfl))
  f31 := Tryz.func333.trans (congrArg some (by kernel_rfl))
  f32 := Tryz.func334.trans (congrArg some (by kernel_rfl))
  f33 := Tryz.func335.trans (congrArg some (by kernel_rfl))
  f34 := Tryz.func373.trans (congrArg some (by kernel_rfl))
  f35 := Tryz.func119.trans (congrArg some (by kernel_rfl))
  f36 := Tryz.func374.trans (congrArg some (by kernel_rfl))
  f37 := Tryz.func375.trans (congrArg some (by kernel_rfl))
  f38 := Tryz.func376.trans (congrArg some (by kernel_rfl))
  f39 := Tryz.func402.trans (congrArg some (by kernel_rfl))
  f40 := Tryz.func353.trans (congrArg some (by kernel_rfl))
  t0 := Tryz.underlying0
  a0 := Tryz.isAgg0
  z0 := Tryz.sizeOf0
  v0 := Tryz.zeroValue0
  i0 := by kernel_rfl
  t2 := Tryz.underlying2
  a2 := Tryz.isAgg2
  z2 := Tryz.sizeOf2
  v2 := Tryz.zeroValue2
  i2 := by kernel_rfl
  t3 := Tryz.underlying3
  a3 := Tryz.isAgg3
  z3 := Tryz.sizeOf3
  v3 := Tryz.zeroValue3
  i3 := by kernel_rfl
  t4 := Tryz.underlying4
  a4 := Tryz.isAgg4
  z4 := Tryz.sizeOf4
  v4 := Tryz.zeroValue4
  i4 := by kernel_rfl
  t5 := Tryz.underlying5
  a5 := Tryz.isAgg5
  z5 := Tryz.sizeOf5
  v5 := Tryz.zeroValue5
  i5 := by kernel_rfl
  t9 := Tryz.underlying9
  a9 := Tryz.isAgg9
  z9 := Tryz.sizeOf9
  v9 := Tryz.zeroValue9
  i9 := by kernel_rfl
  t20 := Tryz.underlying20
  a20 := Tryz.isAgg20
  z20 := Tryz.sizeOf20
  v20 := Tryz.zeroValue20
  i20 := by kernel_rfl
  t21 := Tryz.underlying21
  a21 := Tryz.isAgg21
  z21 := Tryz.sizeOf21
  v21 := Tryz.zeroValue21
  i21 := by kernel_rfl
  t22 := Tryz.underlying183
  a22 := Tryz.isAgg183
  z22 := Tryz.sizeOf183
  v22 := Tryz.zeroValue183
  i22 := by kernel_rfl
  t24 := Tryz.underlying290
  a24 := Tryz.isAgg290
  z24 := Tryz.sizeOf290
  v24 := Tryz.zeroValue290
  i24 := by kernel_rfl
  t25 := Tryz.underlying291
  a25 := Tryz.isAgg291
  z25 := Tryz.sizeOf291
  v25 := Tryz.zeroValue291
  i25 := by kernel_rfl
  t34 := Tryz.underlying411
  a34 := Tryz.isAgg411
  z34 := Tryz.sizeOf411
  v34 := Tryz.zeroValue411
  i34 := by kernel_rfl
  c34 := by kernel_rfl
  t36 := Tryz.underlying127
  a36 := Tryz.isAgg127
  z36 := Tryz.sizeOf127
  v36 := Tryz.zeroValue127
  i36 := by kernel_rfl
  t37 := Tryz.underlying144
  a37 := Tryz.isAgg144
  z37 := Tryz.sizeOf144
  v37 := Tryz.zeroValue144
  i37 := by kernel_rfl
  t39 := Tryz.underlying413
  a39 := Tryz.isAgg413
  z39 := Tryz.sizeOf413
  v39 := Tryz.zeroValue413
  i39 := by kernel_rfl
  t44 := Tryz.underlying468
  a44 := Tryz.isAgg468
  z44 := Tryz.sizeOf468
  v44 := Tryz.zeroValue468
  i44 := by kernel_rfl
  t47 := Tryz.underlying406
  a47 := Tryz.isAgg406
  z47 := Tryz.sizeOf406
  v47 := Tryz.zeroValue406
  i47 := by kernel_rfl
  t48 := Tryz.underlying493
  a48 := Tryz.isAgg493
  z48 := Tryz.sizeOf493
  v48 := Tryz.zeroValue493
  i48 := by kernel_rfl
  t50 := Tryz.underlying495
  a50 := Tryz.isAgg495
  z50 := Tryz.sizeOf495
  v50 := Tryz.zeroValue495
  i50 := by kernel_rfl
  t52 := Tryz.underlying453
  a52 := Tryz.isAgg453
  z52 := Tryz.sizeOf453
  v52 := Tryz.zeroValue453
  i52 := by kernel_rfl
  t55 := Tryz.underlying455
  a55 := Tryz.isAgg455
  z55 := Tryz.sizeOf455
  v55 := Tryz.zeroValue455
  i55 := by kernel_rfl
  t59 := Tryz.underlying491
  a59 := Tryz.isAgg491
  z59 := Tryz.sizeOf491
  v59 := Tryz.zeroValue491
  i59 := by kernel_rfl
  t60 := Tryz.underlying185
  a60 := Tryz.isAgg185
  z60 := Tryz.sizeOf185
  v60 := Tryz.zeroValue185
  i60 := by kernel_rfl
  t61 := Tryz.underlying492
  a61 := Tryz.isAgg492
  z61 := Tryz.sizeOf492
  t65 := Tryz.underlying518
  a65 := Tryz.isAgg518
  z65 := Tryz.sizeOf518
  v65 := Tryz.zeroValue518
  i65 := by kernel_rfl
  t66 := Tryz.underlying498
  a66 := Tryz.isAgg498
  z66 := Tryz.sizeOf498
  v66 := Tryz.zeroValue498
  i66 := by kernel_rfl
  t67 := Tryz.underlying190
  a67 := Tryz.isAgg190
  z67 := Tryz.sizeOf190
  v67 := Tryz.zeroValue190
  i67 := by kernel_rfl
  g0 := by kernel_rfl
  m0 := by kernel_rfl
  g1 := by kernel_rfl
  m1 := by kernel_rfl
  g2 := by kernel_rfl
  m2 := by kernel_rfl
  g3 := by kernel_rfl
  m3 := by kernel_rfl
  g4 := by kernel_rfl
  m4 := by kernel_rfl }
open Go.RowKit in
theorem Tryz.strconv_ParseUint_10_at32_ok (s : ByteArray) (hmax : s.size ≤ 9223372036854775806) (u : Nat) (h : Lib.parseUintB 32 s.data.toList = .ok u) (w : World) :
    Calls Tryz.prog 191 #[.string s, .int .i64 10, .int .i64 32] w fun e w' => e = .returned (.tuple #[.int .u64 u, .nilIface]) ∧ (w' = w ∨ w' = Lib.bytesWorld w 5 s) := Any.strconv_ParseUint_10_at32_ok Tryz.laysPu14 s hmax u h w
def Tryz.lays217_ren : Go.Shelf.Ren := ⟨fun | 217 => 283 | 266 => 339 | n => n, fun | 9 => 9 | 5 => 5 | 3 => 3 | n => n, fun | n => n⟩
theorem Tryz.lays217 : Go.Proofs.Lays.n217 Tryz.prog Tryz.lays217_ren := {
  mixed := by kernel_rfl
  f217 := Tryz.func283.trans (congrArg some (by kernel_rfl))
  f266 := Tryz.func339.trans (congrArg some (by kernel_rfl))
  t3 := Tryz.underlying3
  a3 := Tryz.isAgg3
  z3 := Tryz.sizeOf3
  v3 := Tryz.zeroValue3
  t5 := Tryz.underlying5
  a5 := Tryz.isAgg5
  z5 := Tryz.sizeOf5
  v5 := Tryz.zeroValue5
  t9 := Tryz.underlying9
  a9 := Tryz.isAgg9
  z9 := Tryz.sizeOf9
  v9 := Tryz.zeroValue9 }
open Go.RowKit Go.Lib in
theorem Tryz.stringslite_IndexByte (s : ByteArray) (c : Int) (w : World) :
    Calls Tryz.prog 283 #[.string s, .int .u8 c] w fun e w' => e = .returned (.int .i64 (Lib.indexByte s.data.toList c.toNat.toUInt8)) ∧ w' = w := Any.stringslite_IndexByte Tryz.lays217 s c w
end Go.Proofs
