/- The shelf of contracts at this dump (printed by the kit, cut to what is used). -/
import Derived.Shelf.Small.Utf8
import Derived.Shelf.Small.Strs
import Derived.Ground.MpProg
import Derived.Shelf.Pu.ParseUintPublic10
import Derived.Shelf.Strings.Search1
import Derived.Shelf.Strings.Search2
import Derived.Shelf.Strings.Cut
import Derived.Shelf.LaysM
import Derived.Shelf.Strings.Shaped
import Derived.Shelf.Strings.Runes
import Derived.Shelf.Strings.AsciiSet
import Derived.Shelf.Bits.Mul64
import Derived.Shelf.Unicode.DecodeSlow
import Derived.Test.YtialjngnlekplaaGreatDoorProg
namespace Go.Proofs
open Go.Shelf
def Tryz.laysPu14_ren : Go.Shelf.Ren := ⟨fun | 14 => 272 | 16 => 312 | 17 => 313 | 19 => 348 | 20 => 349 | 21 => 350 | 22 => 351 | 23 => 352 | 24 => 353 | 25 => 368 | 27 => 22 | 26 => 369 | 28 => 52 | 29 => 94 | 30 => 158 | 31 => 159 | 32 => 160 | 33 => 161 | 35 => 104 | 34 => 200 | 36 => 201 | 37 => 202 | 38 => 203 | 39 => 239 | 40 => 240 | n => n, fun | 9 => 9 | 3 => 3 | 22 => 196 | 24 => 401 | 25 => 402 | 4 => 4 | 34 => 464 | 5 => 5 | 36 => 180 | 37 => 279 | 0 => 0 | 39 => 466 | 21 => 21 | 44 => 485 | 47 => 446 | 50 => 491 | 48 => 489 | 2 => 2 | 52 => 277 | 55 => 280 | 59 => 323 | 60 => 198 | 20 => 20 | 61 => 324 | 65 => 417 | 66 => 418 | 67 => 318 | n => n, fun | 0 => 6 | 1 => 7 | 2 => 0 | 3 => 1 | 4 => 2 | n => n⟩
theorem Tryz.laysPu14 : Go.Proofs.LaysPu.n14 Tryz.prog Tryz.laysPu14_ren := {
  mixed := by kernel_rfl
  f14 := Tryz.func272.trans (congrArg some (by kernel_rfl))
  f16 := Tryz.func312.trans (congrArg some (by kernel_rfl))
  f17 := Tryz.func313.trans (congrArg some (by kernel_rfl))
  f19 := Tryz.func348.trans (congrArg some (by kernel_rfl))
  f20 := Tryz.func349.trans (congrArg some (by kernel_rfl))
  f21 := Tryz.func350.trans (congrArg some (by kernel_rfl))
  f22 := Tryz.func351.trans (congrArg some (by kernel_rfl))
  f23 := Tryz.func352.trans (congrArg some (by kernel_rfl))
  f24 := Tryz.func353.trans (congrArg some (by kernel_rfl))
  f25 := Tryz.func368.trans (congrArg some (by kernel_rfl))
  f26 := Tryz.func369.trans (congrArg some (by kernel_rfl))
  f27 := Tryz.func22.trans (congrArg some (by kernel_rfl))
  f28 := Tryz.func52.trans (congrArg some (by kernel_rfl))
  f29 := Tryz.func94.trans (congrArg some (by kernel_rfl))
  f30 := Tryz.func158.trans (congrArg some (by kernel_rfl))
  f31 := Tryz.func159.trans (congrArg some (by kernel_rfl))
  f32 := Tryz.func160.trans (congrArg some (by kernel_rfl))
  f33 := Tryz.func161.trans (congrArg some (by kernel_rfl))
  f34 := Tryz.func200.trans (congrArg some (by kernel_rfl))
  f35 := Tryz.func104.trans (congrArg some (by kernel_rfl))
  f36 := Tryz.func201.trans (congrArg some (by kernel_rfl))
  f37 := Tryz.func202.trans (congrArg some (by kernel_rfl))
  f38 := Tryz.func203.trans (congrArg some (by kernel_rfl))
  f39 := Tryz.func239.trans (congrArg some (by kernel_rfl))
  f40 := Tryz.func240.trans (congrArg some (by kernel_rfl))
  t0 := Tryz.underlying0
  a0 := Tryz.isAgg0
  z0 := Tryz.sizeOf0
  v0 := Tryz.zeroValue0
  i0 := by kernel_rfl
  t2 := Tryz.underlying2
  a2 := Tryz.isAgg2
  z2 := Tryz.sizeOf2
  v2 := Tryz.zeroValue2
  i2 := by kernel_rfl
  t3 := Tryz.underlying3
  a3 := Tryz.isAgg3
  z3 := Tryz.sizeOf3
  v3 := Tryz.zeroValue3
  i3 := by kernel_rfl
  t4 := Tryz.underlying4
  a4 := Tryz.isAgg4
  z4 := Tryz.sizeOf4
  v4 := Tryz.zeroValue4
  i4 := by kernel_rfl
  t5 := Tryz.underlying5
  a5 := Tryz.isAgg5
  z5 := Tryz.sizeOf5
  v5 := Tryz.zeroValue5
  i5 := by kernel_rfl
  t9 := Tryz.underlying9
  a9 := Tryz.isAgg9
  z9 := Tryz.sizeOf9
  v9 := Tryz.zeroValue9
  i9 := by kernel_rfl
  t20 := Tryz.underlying20
  a20 := Tryz.isAgg20
  z20 := Tryz.sizeOf20
  v20 := Tryz.zeroValue20
  i20 := by kernel_rfl
  t21 := Tryz.underlying21
  a21 := Tryz.isAgg21
  z21 := Tryz.sizeOf21
  v21 := Tryz.zeroValue21
  i21 := by kernel_rfl
  t22 := Tryz.underlying196
  a22 := Tryz.isAgg196
  z22 := Tryz.sizeOf196
  v22 := Tryz.zeroValue196
  i22 := by kernel_rfl
  t24 := Tryz.underlying401
  a24 := Tryz.isAgg401
  z24 := Tryz.sizeOf401
  v24 := Tryz.zeroValue401
  i24 := by kernel_rfl
  t25 := Tryz.underlying402
  a25 := Tryz.isAgg402
  z25 := Tryz.sizeOf402
  v25 := Tryz.zeroValue402
  i25 := by kernel_rfl
  t34 := Tryz.underlying464
  a34 := Tryz.isAgg464
  z34 := Tryz.sizeOf464
  v34 := Tryz.zeroValue464
  i34 := by kernel_rfl
  c34 := by kernel_rfl
  t36 := Tryz.underlying180
  a36 := Tryz.isAgg180
  z36 := Tryz.sizeOf180
  v36 := Tryz.zeroValue180
  i36 := by kernel_rfl
  t37 := Tryz.underlying279
  a37 := Tryz.isAgg279
  z37 := Tryz.sizeOf279
  v37 := Tryz.zeroValue279
  i37 := by kernel_rfl
  t39 := Tryz.underlying466
  a39 := Tryz.isAgg466
  z39 := Tryz.sizeOf466
  v39 := Tryz.zeroValue466
  i39 := by kernel_rfl
  t44 := Tryz.underlying485
  a44 := Tryz.isAgg485
  z44 := Tryz.sizeOf485
  v44 := Tryz.zeroValue485
  i44 := by kernel_rfl
  t47 := Tryz.underlying446
  a47 := Tryz.isAgg446
  z47 := Tryz.sizeOf446
  v47 := Tryz.zeroValue446
  i47 := by kernel_rfl
  t48 := Tryz.underlying489
  a48 := Tryz.isAgg489
  z48 := Tryz.sizeOf489
  v48 := Tryz.zeroValue489
  i48 := by kernel_rfl
  t50 := Tryz.underlying491
  a50 := Tryz.isAgg491
  z50 := Tryz.sizeOf491
  v50 := Tryz.zeroValue491
  i50 := by kernel_rfl
  t52 := Tryz.underlying277
  a52 := Tryz.isAgg277
  z52 := Tryz.sizeOf277
  v52 := Tryz.zeroValue277
  i52 := by kernel_rfl
  t55 := Tryz.underlying280
  a55 := Tryz.isAgg280
  z55 := Tryz.sizeOf280
  v55 := Tryz.zeroValue280
  i55 := by kernel_rfl
  t59 := Tryz.underlying323
  a59 := Tryz.isAgg323
  z59 := Tryz.sizeOf323
  v59 := Tryz.zeroValue323
  i59 := by kernel_rfl
  t60 := Tryz.underlying198
  a60 := Tryz.isAgg198
  z60 := Tryz.sizeOf198
  v60 := Tryz.zeroValue198
  i60 := by kernel_rfl
  t61 := Tryz.underlying324
  a61 := Tryz.isAgg324
  z61 := Tryz.sizeOf324
  t65 := Tryz.underlying417
  a65 := Tryz.isAgg417
  z65 := Tryz.sizeOf417
  v65 := Tryz.zeroValue417
  i65 := by kernel_rfl
  t66 := Tryz.underlying418
  a66 := Tryz.isAgg418
  z66 := Tryz.sizeOf418
  v66 := Tryz.zeroValue418
  i66 := by kernel_rfl
  t67 := Tryz.underlying318
  a67 := Tryz.isAgg318
  z67 := Tryz.sizeOf318
  v67 := Tryz.zeroValue318
  i67 := by kernel_rfl
  g0 := by kernel_rfl
  m0 := by kernel_rfl
  g1 := by kernel_rfl
  m1 := by kernel_rfl
  g2 := by kernel_rfl
  m2 := by kernel_rfl
  g3 := by kernel_rfl
  m3 := by kernel_rfl
  g4 := by kernel_rfl
  m4 := by kernel_rfl }
open Go.RowKit in
theorem Tryz.strconv_ParseUint_10_at32_ok (s : ByteArray) (hmax : s.size ≤ 9223372036854775806) (u : Nat) (h : Lib.parseUintB 32 s.data.toList = .ok u) (w : World) :
    Calls Tryz.prog 272 #[.string s, .int .i64 10, .int .i64 32] w fun e w' => e = .returned (.tuple #[.int .u64 u, .nilIface]) ∧ (w' = w ∨ w' = Lib.bytesWorld w 5 s) := Any.strconv_ParseUint_10_at32_ok Tryz.laysPu14 s hmax u h w
def Tryz.lays217_ren : Go.Shelf.Ren := ⟨fun | 217 => 340 | 266 => 364 | n => n, fun | 9 => 9 | 5 => 5 | 3 => 3 | n => n, fun | n => n⟩
theorem Tryz.lays217 : Go.Proofs.Lays.n217 Tryz.prog Tryz.lays217_ren := {
  mixed := by kernel_rfl
  f217 := Tryz.func340.trans (congrArg some (by kernel_rfl))
  f266 := Tryz.func364.trans (congrArg some (by kernel_rfl))
  t3 := Tryz.underlying3
  a3 := Tryz.isAgg3
  z3 := Tryz.sizeOf3
  v3 := Tryz.zeroValue3
  t5 := Tryz.underlying5
  a5 := Tryz.isAgg5
  z5 := Tryz.sizeOf5
  v5 := Tryz.zeroValue5
  t9 := Tryz.underlying9
  a9 := Tryz.isAgg9
  z9 := Tryz.sizeOf9
  v9 := Tryz.zeroValue9 }
open Go.RowKit Go.Lib in
theorem Tryz.stringslite_IndexByte (s : ByteArray) (c : Int) (w : World) :
    Calls Tryz.prog 340 #[.string s, .int .u8 c] w fun e w' => e = .returned (.int .i64 (Lib.indexByte s.data.toList c.toNat.toUInt8)) ∧ w' = w := Any.stringslite_IndexByte Tryz.lays217 s c w
end Go.Proofs
