/- The shelf of contracts at this dump (printed by the kit, cut to what is used). -/
import Derived.Shelf.Strings.Builder1
import Derived.Shelf.Strings.Builder2
import Derived.Shelf.Small.Utf8
import Derived.Shelf.Small.Bits
import Derived.Shelf.Small.Strs
import Derived.Shelf.Strconv.Itoa0
import Derived.Shelf.Strconv.Itoa1
import Derived.Shelf.LaysM
import Derived.Shelf.Strconv.Itoa2
import Derived.Shelf.Strconv.Itoa3
import Derived.Ground.MpProg
import Derived.Shelf.Pu.ParseUintPublic10
import Derived.Shelf.Strings.Search1
import Derived.Shelf.Strings.Search2
import Derived.Shelf.Strings.Cut
import Derived.Shelf.Strings.Shaped
import Derived.Shelf.Unicode.Decode
import Derived.Shelf.Strings.Runes
import Derived.Shelf.Strings.AsciiSet
import Derived.Shelf.Bits.Mul64
import Derived.Shelf.Unicode.DecodeSlow
import Derived.Shelf.Unicode.DecodeAny
import Derived.Shelf.Unicode.DecodeLast
import Derived.Shelf.Slices.Turned
import Derived.Ground.Names2Prog
import Derived.Shelf.Slices.ReverseS
import Derived.Shelf.Slices.Clone
import Derived.Shelf.Slices.SearchI
import Derived.Shelf.Slices.Cells
import Derived.Shelf.Slices.Empties
import Derived.Ground.SlgnProg
import Derived.Shelf.SlicesE.Clone
import Derived.Test.YtpbjekedjbjeeaaGreatDoorProg
namespace Go.Proofs
open Go.Shelf
def Tryz.laysPu14_ren : Go.Shelf.Ren := ⟨fun | 14 => 260 | 16 => 296 | 17 => 297 | 19 => 336 | 20 => 337 | 21 => 338 | 22 => 339 | 23 => 340 | 24 => 341 | 25 => 356 | 27 => 105 | 26 => 357 | 28 => 150 | 29 => 191 | 30 => 241 | 31 => 242 | 32 => 243 | 33 => 244 | 35 => 57 | 34 => 285 | 36 => 286 | 37 => 287 | 38 => 288 | 39 => 327 | 40 => 270 | n => n, fun | 9 => 9 | 3 => 3 | 22 => 133 | 24 => 261 | 25 => 375 | 4 => 4 | 34 => 431 | 5 => 5 | 36 => 60 | 37 => 77 | 0 => 0 | 39 => 433 | 21 => 21 | 44 => 450 | 47 => 314 | 50 => 458 | 48 => 456 | 2 => 2 | 52 => 357 | 55 => 359 | 59 => 398 | 60 => 131 | 20 => 20 | 61 => 399 | 65 => 442 | 66 => 409 | 67 => 142 | n => n, fun | 0 => 6 | 1 => 7 | 2 => 0 | 3 => 3 | 4 => 2 | n => n⟩
theorem Tryz.laysPu14 : Go.Proofs.LaysPu.n14 Tryz.prog Tryz.laysPu14_ren := {
  mixed := by kernel_rfl
  f14 := Tryz.func260.trans (congrArg some (by kernel_rfl))
  f16 := Tryz.func296.trans (congrArg some (by kernel_rfl))
  f17 := Tryz.func297.trans (congrArg some (by kernel_rfl))
  f19 := Tryz.func336.trans (congrArg some (by kernel_rfl))
  f20 := Tryz.func337.trans (congrArg some (by kernel_rfl))
  f21 := Tryz.func338.trans (congrArg some (by kernel_rfl))
  f22 := Tryz.func339.trans (congrArg some (by kernel_rfl))
  f23 := Tryz.func340.trans (congrArg some (by kernel_rfl))
  f24 := Tryz.func341.trans (congrArg some (by kernel_rfl))
  f25 := Tryz.func356.trans (congrArg some (by kernel_rfl))
  f26 := Tryz.func357.trans (congrArg some (by kernel_rfl))
  f27 := Tryz.func105.trans (congrArg some (by kernel_rfl))
  f28 := Tryz.func150.trans (congrArg some (by kernel_rfl))
  f29 := Tryz.func191.trans (congrArg some (by kernel_rfl))
  f30 := Tryz.func241.trans (congrArg some (by kernel_rfl))
  f31 := Tryz.func242.trans (congrArg some (by kernel_rfl))
  f32 := Tryz.func243.trans (congrArg some (by kernel_rfl))
  f33 := Tryz.func244.trans (congrArg some (by kernel_rfl))
  f34 := Tryz.func285.trans (congrArg some (by kernel_rfl))
  f35 := Tryz.func57.trans (congrArg some (by kernel_rfl))
  f36 := Tryz.func286.trans (congrArg some (by kernel_rfl))
  f37 := Tryz.func287.trans (congrArg some (by kernel_rfl))
  f38 := Tryz.func288.trans (congrArg some (by kernel_rfl))
  f39 := Tryz.func327.trans (congrArg some (by kernel_rfl))
  f40 := Tryz.func270.trans (congrArg some (by kernel_rfl))
  t0 := Tryz.underlying0
  a0 := Tryz.isAgg0
  z0 := Tryz.sizeOf0
  v0 := Tryz.zeroValue0
  i0 := by kernel_rfl
  t2 := Tryz.underlying2
  a2 := Tryz.isAgg2
  z2 := Tryz.sizeOf2
  v2 := Tryz.zeroValue2
  i2 := by kernel_rfl
  t3 := Tryz.underlying3
  a3 := Tryz.isAgg3
  z3 := Tryz.sizeOf3
  v3 := Tryz.zeroValue3
  i3 := by kernel_rfl
  t4 := Tryz.underlying4
  a4 := Tryz.isAgg4
  z4 := Tryz.sizeOf4
  v4 := Tryz.zeroValue4
  i4 := by kernel_rfl
  t5 := Tryz.underlying5
  a5 := Tryz.isAgg5
  z5 := Tryz.sizeOf5
  v5 := Tryz.zeroValue5
  i5 := by kernel_rfl
  t9 := Tryz.underlying9
  a9 := Tryz.isAgg9
  z9 := Tryz.sizeOf9
  v9 := Tryz.zeroValue9
  i9 := by kernel_rfl
  t20 := Tryz.underlying20
  a20 := Tryz.isAgg20
  z20 := Tryz.sizeOf20
  v20 := Tryz.zeroValue20
  i20 := by kernel_rfl
  t21 := Tryz.underlying21
  a21 := Tryz.isAgg21
  z21 := Tryz.sizeOf21
  v21 := Tryz.zeroValue21
  i21 := by kernel_rfl
  t22 := Tryz.underlying133
  a22 := Tryz.isAgg133
  z22 := Tryz.sizeOf133
  v22 := Tryz.zeroValue133
  i22 := by kernel_rfl
  t24 := Tryz.underlying261
  a24 := Tryz.isAgg261
  z24 := Tryz.sizeOf261
  v24 := Tryz.zeroValue261
  i24 := by kernel_rfl
  t25 := Tryz.underlying375
  a25 := Tryz.isAgg375
  z25 := Tryz.sizeOf375
  v25 := Tryz.zeroValue375
  i25 := by kernel_rfl
  t34 := Tryz.underlying431
  a34 := Tryz.isAgg431
  z34 := Tryz.sizeOf431
  v34 := Tryz.zeroValue431
  i34 := by kernel_rfl
  c34 := by kernel_rfl
  t36 := Tryz.underlying60
  a36 := Tryz.isAgg60
  z36 := Tryz.sizeOf60
  v36 := Tryz.zeroValue60
  i36 := by kernel_rfl
  t37 := Tryz.underlying77
  a37 := Tryz.isAgg77
  z37 := Tryz.sizeOf77
  v37 := Tryz.zeroValue77
  i37 := by kernel_rfl
  t39 := Tryz.underlying433
  a39 := Tryz.isAgg433
  z39 := Tryz.sizeOf433
  v39 := Tryz.zeroValue433
  i39 := by kernel_rfl
  t44 := Tryz.underlying450
  a44 := Tryz.isAgg450
  z44 := Tryz.sizeOf450
  v44 := Tryz.zeroValue450
  i44 := by kernel_rfl
  t47 := Tryz.underlying314
  a47 := Tryz.isAgg314
  z47 := Tryz.sizeOf314
  v47 := Tryz.zeroValue314
  i47 := by kernel_rfl
  t48 := Tryz.underlying456
  a48 := Tryz.isAgg456
  z48 := Tryz.sizeOf456
  v48 := Tryz.zeroValue456
  i48 := by kernel_rfl
  t50 := Tryz.underlying458
  a50 := Tryz.isAgg458
  z50 := Tryz.sizeOf458
  v50 := Tryz.zeroValue458
  i50 := by kernel_rfl
  t52 := Tryz.underlying357
  a52 := Tryz.isAgg357
  z52 := Tryz.sizeOf357
  v52 := Tryz.zeroValue357
  i52 := by kernel_rfl
  t55 := Tryz.underlying359
  a55 := Tryz.isAgg359
  z55 := Tryz.sizeOf359
  v55 := Tryz.zeroValue359
  i55 := by kernel_rfl
  t59 := Tryz.underlying398
  a59 := Tryz.isAgg398
  z59 := Tryz.sizeOf398
  v59 := Tryz.zeroValue398
  i59 := by kernel_rfl
  t60 := Tryz.underlying131
  a60 := Tryz.isAgg131
  z60 := Tryz.sizeOf131
  v60 := Tryz.zeroValue131
  i60 := by kernel_rfl
  t61 := Tryz.underlying399
  a61 := Tryz.isAgg399
  z61 := Tryz.sizeOf399
  t65 := Tryz.underlying442
  a65 := Tryz.isAgg442
  z65 := Tryz.sizeOf442
  v65 := Tryz.zeroValue442
  i65 := by kernel_rfl
  t66 := Tryz.underlying409
  a66 := Tryz.isAgg409
  z66 := Tryz.sizeOf409
  v66 := Tryz.zeroValue409
  i66 := by kernel_rfl
  t67 := Tryz.underlying142
  a67 := Tryz.isAgg142
  z67 := Tryz.sizeOf142
  v67 := Tryz.zeroValue142
  i67 := by kernel_rfl
  g0 := by kernel_rfl
  m0 := by kernel_rfl
  g1 := by kernel_rfl
  m1 := by kernel_rfl
  g2 := by kernel_rfl
  m2 := by kernel_rfl
  g3 := by kernel_rfl
  m3 := by kernel_rfl
  g4 := by kernel_rfl
  m4 := by kernel_rfl }
open Go.RowKit in
theorem Tryz.strconv_ParseUint_10_at32_ok (s : ByteArray) (hmax : s.size ≤ 9223372036854775806) (u : Nat) (h : Lib.parseUintB 32 s.data.toList = .ok u) (w : World) :
    Calls Tryz.prog 260 #[.string s, .int .i64 10, .int .i64 32] w fun e w' => e = .returned (.tuple #[.int .u64 u, .nilIface]) ∧ (w' = w ∨ w' = Lib.bytesWorld w 5 s) := Any.strconv_ParseUint_10_at32_ok Tryz.laysPu14 s hmax u h w
def Tryz.lays217_ren : Go.Shelf.Ren := ⟨fun | 217 => 328 | 266 => 352 | n => n, fun | 9 => 9 | 5 => 5 | 3 => 3 | n => n, fun | n => n⟩
theorem Tryz.lays217 : Go.Proofs.Lays.n217 Tryz.prog Tryz.lays217_ren := {
  mixed := by kernel_rfl
  f217 := Tryz.func328.trans (congrArg some (by kernel_rfl))
  f266 := Tryz.func352.trans (congrArg some (by kernel_rfl))
  t3 := Tryz.underlying3
  a3 := Tryz.isAgg3
  z3 := Tryz.sizeOf3
  v3 := Tryz.zeroValue3
  t5 := Tryz.underlying5
  a5 := Tryz.isAgg5
  z5 := Tryz.sizeOf5
  v5 := Tryz.zeroValue5
  t9 := Tryz.underlying9
  a9 := Tryz.isAgg9
  z9 := Tryz.sizeOf9
  v9 := Tryz.zeroValue9 }
open Go.RowKit Go.Lib in
theorem Tryz.stringslite_IndexByte (s : ByteArray) (c : Int) (w : World) :
    Calls Tryz.prog 328 #[.string s, .int .u8 c] w fun e w' => e = .returned (.int .i64 (Lib.indexByte s.data.toList c.toNat.toUInt8)) ∧ w' = w := Any.stringslite_IndexByte Tryz.lays217 s c w
end Go.Proofs
