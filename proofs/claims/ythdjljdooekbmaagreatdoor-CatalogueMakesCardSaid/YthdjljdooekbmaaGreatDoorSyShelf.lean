/- The shelf of contracts at this dump (printed by the kit, cut to what is used). -/
import Derived.Shelf.Small.Utf8
import Derived.Shelf.Small.Strs
import Derived.Ground.MpProg
import Derived.Shelf.Pu.ParseUintPublic10
import Derived.Shelf.Strings.Search1
import Derived.Shelf.Strings.Search2
import Derived.Shelf.Strings.Cut
import Derived.Shelf.LaysM
import Derived.Shelf.Strings.Shaped
import Derived.Shelf.Strings.Runes
import Derived.Shelf.Strings.AsciiSet
import Derived.Shelf.Bits.Mul64
import Derived.Shelf.Unicode.DecodeSlow
import Derived.Test.YthdjljdooekbmaaGreatDoorProg
namespace Go.Proofs
open Go.Shelf
def Tryz.laysPu14_ren : Go.Shelf.Ren := ⟨fun | 14 => 225 | 16 => 265 | 17 => 266 | 19 => 301 | 20 => 302 | 21 => 303 | 22 => 304 | 23 => 305 | 24 => 306 | 25 => 336 | 27 => 16 | 26 => 337 | 28 => 52 | 29 => 98 | 30 => 158 | 31 => 159 | 32 => 160 | 33 => 161 | 35 => 130 | 34 => 195 | 36 => 196 | 37 => 197 | 38 => 198 | 39 => 231 | 40 => 232 | n => n, fun | 9 => 9 | 3 => 3 | 22 => 202 | 24 => 262 | 25 => 330 | 4 => 4 | 34 => 399 | 5 => 5 | 36 => 155 | 37 => 169 | 0 => 0 | 39 => 401 | 21 => 21 | 44 => 428 | 47 => 301 | 50 => 436 | 48 => 434 | 2 => 2 | 52 => 248 | 55 => 250 | 59 => 295 | 60 => 204 | 20 => 20 | 61 => 296 | 65 => 381 | 66 => 382 | 67 => 171 | n => n, fun | 0 => 6 | 1 => 7 | 2 => 0 | 3 => 1 | 4 => 2 | n => n⟩
theorem Tryz.laysPu14 : Go.Proofs.LaysPu.n14 Tryz.prog Tryz.laysPu14_ren := {
  mixed := by kernel_rfl
  f14 := Tryz.func225.trans (congrArg some (by kernel_rfl))
  f16 := Tryz.func265.trans (congrArg some (by kernel_rfl))
  f17 := Tryz.func266.trans (congrArg some (by kernel_rfl))
  f19 := Tryz.func301.trans (congrArg some (by kernel_rfl))
  f20 := Tryz.func302.trans (congrArg some (by kernel_rfl))
  f21 := Tryz.func303.trans (congrArg some (by kernel_rfl))
  f22 := Tryz.func304.trans (congrArg some (by kernel_rfl))
  f23 := Tryz.func305.trans (congrArg some (by kernel_rfl))
  f24 := Tryz.func306.trans (congrArg some (by kernel_rfl))
  f25 := Tryz.func336.trans (congrArg some (by kernel_rfl))
  f26 := Tryz.func337.trans (congrArg some (by kernel_rfl))
  f27 := Tryz.func16.trans (congrArg some (by kernel_rfl))
  f28 := Tryz.func52.trans (congrArg some (by kernel_rfl))
  f29 := Tryz.func98.trans (congrArg some (by kernel_rfl))
  f30 := Tryz.func158.trans (congrArg some (by kernel_rfl))
  f31 := Tryz.func159.trans (congrArg some (by kernel_rfl))
  f32 := Tryz.func160.trans (congrArg some (by kernel_rfl))
  f33 := Tryz.func161.trans (congrArg some (by kernel_rfl))
  f34 := Tryz.func195.trans (congrArg some (by kernel_rfl))
  f35 := Tryz.func130.trans (congrArg some (by kernel_rfl))
  f36 := Tryz.func196.trans (congrArg some (by kernel_rfl))
  f37 := Tryz.func197.trans (congrArg some (by kernel_rfl))
  f38 := Tryz.func198.trans (congrArg some (by kernel_rfl))
  f39 := Tryz.func231.trans (congrArg some (by kernel_rfl))
  f40 := Tryz.func232.trans (congrArg some (by kernel_rfl))
  t0 := Tryz.underlying0
  a0 := Tryz.isAgg0
  z0 := Tryz.sizeOf0
  v0 := Tryz.zeroValue0
  i0 := by kernel_rfl
  t2 := Tryz.underlying2
  a2 := Tryz.isAgg2
  z2 := Tryz.sizeOf2
  v2 := Tryz.zeroValue2
  i2 := by kernel_rfl
  t3 := Tryz.underlying3
  a3 := Tryz.isAgg3
  z3 := Tryz.sizeOf3
  v3 := Tryz.zeroValue3
  i3 := by kernel_rfl
  t4 := Tryz.underlying4
  a4 := Tryz.isAgg4
  z4 := Tryz.sizeOf4
  v4 := Tryz.zeroValue4
  i4 := by kernel_rfl
  t5 := Tryz.underlying5
  a5 := Tryz.isAgg5
  z5 := Tryz.sizeOf5
  v5 := Tryz.zeroValue5
  i5 := by kernel_rfl
  t9 := Tryz.underlying9
  a9 := Tryz.isAgg9
  z9 := Tryz.sizeOf9
  v9 := Tryz.zeroValue9
  i9 := by kernel_rfl
  t20 := Tryz.underlying20
  a20 := Tryz.isAgg20
  z20 := Tryz.sizeOf20
  v20 := Tryz.zeroValue20
  i20 := by kernel_rfl
  t21 := Tryz.underlying21
  a21 := Tryz.isAgg21
  z21 := Tryz.sizeOf21
  v21 := Tryz.zeroValue21
  i21 := by kernel_rfl
  t22 := Tryz.underlying202
  a22 := Tryz.isAgg202
  z22 := Tryz.sizeOf202
  v22 := Tryz.zeroValue202
  i22 := by kernel_rfl
  t24 := Tryz.underlying262
  a24 := Tryz.isAgg262
  z24 := Tryz.sizeOf262
  v24 := Tryz.zeroValue262
  i24 := by kernel_rfl
  t25 := Tryz.underlying330
  a25 := Tryz.isAgg330
  z25 := Tryz.sizeOf330
  v25 := Tryz.zeroValue330
  i25 := by kernel_rfl
  t34 := Tryz.underlying399
  a34 := Tryz.isAgg399
  z34 := Tryz.sizeOf399
  v34 := Tryz.zeroValue399
  i34 := by kernel_rfl
  c34 := by kernel_rfl
  t36 := Tryz.underlying155
  a36 := Tryz.isAgg155
  z36 := Tryz.sizeOf155
  v36 := Tryz.zeroValue155
  i36 := by kernel_rfl
  t37 := Tryz.underlying169
  a37 := Tryz.isAgg169
  z37 := Tryz.sizeOf169
  v37 := Tryz.zeroValue169
  i37 := by kernel_rfl
  t39 := Tryz.underlying401
  a39 := Tryz.isAgg401
  z39 := Tryz.sizeOf401
  v39 := Tryz.zeroValue401
  i39 := by kernel_rfl
  t44 := Tryz.underlying428
  a44 := Tryz.isAgg428
  z44 := Tryz.sizeOf428
  v44 := Tryz.zeroValue428
  i44 := by kernel_rfl
  t47 := Tryz.underlying301
  a47 := Tryz.isAgg301
  z47 := Tryz.sizeOf301
  v47 := Tryz.zeroValue301
  i47 := by kernel_rfl
  t48 := Tryz.underlying434
  a48 := Tryz.isAgg434
  z48 := Tryz.sizeOf434
  v48 := Tryz.zeroValue434
  i48 := by kernel_rfl
  t50 := Tryz.underlying436
  a50 := Tryz.isAgg436
  z50 := Tryz.sizeOf436
  v50 := Tryz.zeroValue436
  i50 := by kernel_rfl
  t52 := Tryz.underlying248
  a52 := Tryz.isAgg248
  z52 := Tryz.sizeOf248
  v52 := Tryz.zeroValue248
  i52 := by kernel_rfl
  t55 := Tryz.underlying250
  a55 := Tryz.isAgg250
  z55 := Tryz.sizeOf250
  v55 := Tryz.zeroValue250
  i55 := by kernel_rfl
  t59 := Tryz.underlying295
  a59 := Tryz.isAgg295
  z59 := Tryz.sizeOf295
  v59 := Tryz.zeroValue295
  i59 := by kernel_rfl
  t60 := Tryz.underlying204
  a60 := Tryz.isAgg204
  z60 := Tryz.sizeOf204
  v60 := Tryz.zeroValue204
  i60 := by kernel_rfl
  t61 := Tryz.underlying296
  a61 := Tryz.isAgg296
  z61 := Tryz.sizeOf296
  t65 := Tryz.underlying381
  a65 := Tryz.isAgg381
  z65 := Tryz.sizeOf381
  v65 := Tryz.zeroValue381
  i65 := by kernel_rfl
  t66 := Tryz.underlying382
  a66 := Tryz.isAgg382
  z66 := Tryz.sizeOf382
  v66 := Tryz.zeroValue382
  i66 := by kernel_rfl
  t67 := Tryz.underlying171
  a67 := Tryz.isAgg171
  z67 := Tryz.sizeOf171
  v67 := Tryz.zeroValue171
  i67 := by kernel_rfl
  g0 := by kernel_rfl
  m0 := by kernel_rfl
  g1 := by kernel_rfl
  m1 := by kernel_rfl
  g2 := by kernel_rfl
  m2 := by kernel_rfl
  g3 := by kernel_rfl
  m3 := by kernel_rfl
  g4 := by kernel_rfl
  m4 := by kernel_rfl }
open Go.RowKit in
theorem Tryz.strconv_ParseUint_10_at32_ok (s : ByteArray) (hmax : s.size ≤ 9223372036854775806) (u : Nat) (h : Lib.parseUintB 32 s.data.toList = .ok u) (w : World) :
    Calls Tryz.prog 225 #[.string s, .int .i64 10, .int .i64 32] w fun e w' => e = .returned (.tuple #[.int .u64 u, .nilIface]) ∧ (w' = w ∨ w' = Lib.bytesWorld w 5 s) := Any.strconv_ParseUint_10_at32_ok Tryz.laysPu14 s hmax u h w
def Tryz.lays217_ren : Go.Shelf.Ren := ⟨fun | 217 => 294 | 266 => 332 | n => n, fun | 9 => 9 | 5 => 5 | 3 => 3 | n => n, fun | n => n⟩
theorem Tryz.lays217 : Go.Proofs.Lays.n217 Tryz.prog Tryz.lays217_ren := {
  mixed := by kernel_rfl
  f217 := Tryz.func294.trans (congrArg some (by kernel_rfl))
  f266 := Tryz.func332.trans (congrArg some (by kernel_rfl))
  t3 := Tryz.underlying3
  a3 := Tryz.isAgg3
  z3 := Tryz.sizeOf3
  v3 := Tryz.zeroValue3
  t5 := Tryz.underlying5
  a5 := Tryz.isAgg5
  z5 := Tryz.sizeOf5
  v5 := Tryz.zeroValue5
  t9 := Tryz.underlying9
  a9 := Tryz.isAgg9
  z9 := Tryz.sizeOf9
  v9 := Tryz.zeroValue9 }
open Go.RowKit Go.Lib in
theorem Tryz.stringslite_IndexByte (s : ByteArray) (c : Int) (w : World) :
    Calls Tryz.prog 294 #[.string s, .int .u8 c] w fun e w' => e = .returned (.int .i64 (Lib.indexByte s.data.toList c.toNat.toUInt8)) ∧ w' = w := Any.stringslite_IndexByte Tryz.lays217 s c w
end Go.Proofs
