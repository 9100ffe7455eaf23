/- The shelf of contracts at this dump (printed by the kit, cut to what is used). -/
import Derived.Shelf.Small.Utf8
import Derived.Shelf.Small.Bits
import Derived.Shelf.Small.Strs
import Derived.Shelf.Strconv.Itoa0
import Derived.Shelf.Strconv.Itoa1
import Derived.Shelf.LaysM
import Derived.Ground.MpProg
import Derived.Shelf.Pu.ParseUintPublic10
import Derived.Shelf.Strings.Search1
import Derived.Shelf.Strings.Search2
import Derived.Shelf.Strings.Cut
import Derived.Shelf.Strings.Shaped
import Derived.Shelf.Strings.Runes
import Derived.Shelf.Strings.AsciiSet
import Derived.Shelf.Bits.Mul64
import Derived.Shelf.Unicode.DecodeSlow
import Derived.Shelf.Unicode.DecodeAny
import Derived.Shelf.Unicode.DecodeLast
import Derived.Ground.Names2Prog
import Derived.Shelf.Slices.ReverseS
import Derived.Shelf.Slices.Cells
import Derived.Ground.SlgnProg
import Derived.Shelf.SlicesE.Clone
import Derived.Test.YtnffnbbphpobeaaGreatDoorProg
namespace Go.Proofs
open Go.Shelf
def Tryz.laysPu14_ren : Go.Shelf.Ren := ⟨fun | 14 => 174 | 16 => 204 | 17 => 205 | 19 => 224 | 20 => 225 | 21 => 226 | 22 => 227 | 23 => 228 | 24 => 229 | 25 => 236 | 27 => 16 | 26 => 237 | 28 => 39 | 29 => 80 | 30 => 141 | 31 => 142 | 32 => 143 | 33 => 144 | 35 => 90 | 34 => 186 | 36 => 187 | 37 => 188 | 38 => 189 | 39 => 213 | 40 => 214 | n => n, fun | 9 => 9 | 3 => 3 | 22 => 182 | 24 => 242 | 25 => 284 | 4 => 4 | 34 => 322 | 5 => 5 | 36 => 147 | 37 => 237 | 0 => 0 | 39 => 324 | 21 => 21 | 44 => 337 | 47 => 296 | 50 => 341 | 48 => 339 | 2 => 2 | 52 => 253 | 55 => 255 | 59 => 300 | 60 => 184 | 20 => 20 | 61 => 301 | 65 => 327 | 66 => 328 | 67 => 144 | n => n, fun | 0 => 6 | 1 => 7 | 2 => 0 | 3 => 2 | 4 => 3 | n => n⟩
theorem Tryz.laysPu14 : Go.Proofs.LaysPu.n14 Tryz.prog Tryz.laysPu14_ren := {
  mixed := by kernel_rfl
  f14 := Tryz.func174.trans (congrArg some (by kernel_rfl))
  f16 := Tryz.func204.trans (congrArg some (by kernel_rfl))
  f17 := Tryz.func205.trans (congrArg some (by kernel_rfl))
  f19 := Tryz.func224.trans (congrArg some (by kernel_rfl))
  f20 := Tryz.func225.trans (congrArg some (by kernel_rfl))
  f21 := Tryz.func226.trans (congrArg some (by kernel_rfl))
  f22 := Tryz.func227.trans (congrArg some (by kernel_rfl))
  f23 := Tryz.func228.trans (congrArg some (by kernel_rfl))
  f24 := Tryz.func229.trans (congrArg some (by kernel_rfl))
  f25 := Tryz.func236.trans (congrArg some (by kernel_rfl))
  f26 := Tryz.func237.trans (congrArg some (by kernel_rfl))
  f27 := Tryz.func16.trans (congrArg some (by kernel_rfl))
  f28 := Tryz.func39.trans (congrArg some (by kernel_rfl))
  f29 := Tryz.func80.trans (congrArg some (by kernel_rfl))
  f30 := Tryz.func141.trans (congrArg some (by kernel_rfl))
  f31 := Tryz.func142.trans (congrArg some (by kernel_rfl))
  f32 := Tryz.func143.trans (congrArg some (by kernel_rfl))
  f33 := Tryz.func144.trans (congrArg some (by kernel_rfl))
  f34 := Tryz.func186.trans (congrArg some (by kernel_rfl))
  f35 := Tryz.func90.trans (congrArg some (by kernel_rfl))
  f36 := Tryz.func187.trans (congrArg some (by kernel_rfl))
  f37 := Tryz.func188.trans (congrArg some (by kernel_rfl))
  f38 := Tryz.func189.trans (congrArg some (by kernel_rfl))
  f39 := Tryz.func213.trans (congrArg some (by kernel_rfl))
  f40 := Tryz.func214.trans (congrArg some (by kernel_rfl))
  t0 := Tryz.underlying0
  a0 := Tryz.isAgg0
  z0 := Tryz.sizeOf0
  v0 := Tryz.zeroValue0
  i0 := by kernel_rfl
  t2 := Tryz.underlying2
  a2 := Tryz.isAgg2
  z2 := Tryz.sizeOf2
  v2 := Tryz.zeroValue2
  i2 := by kernel_rfl
  t3 := Tryz.underlying3
  a3 := Tryz.isAgg3
  z3 := Tryz.sizeOf3
  v3 := Tryz.zeroValue3
  i3 := by kernel_rfl
  t4 := Tryz.underlying4
  a4 := Tryz.isAgg4
  z4 := Tryz.sizeOf4
  v4 := Tryz.zeroValue4
  i4 := by kernel_rfl
  t5 := Tryz.underlying5
  a5 := Tryz.isAgg5
  z5 := Tryz.sizeOf5
  v5 := Tryz.zeroValue5
  i5 := by kernel_rfl
  t9 := Tryz.underlying9
  a9 := Tryz.isAgg9
  z9 := Tryz.sizeOf9
  v9 := Tryz.zeroValue9
  i9 := by kernel_rfl
  t20 := Tryz.underlying20
  a20 := Tryz.isAgg20
  z20 := Tryz.sizeOf20
  v20 := Tryz.zeroValue20
  i20 := by kernel_rfl
  t21 := Tryz.underlying21
  a21 := Tryz.isAgg21
  z21 := Tryz.sizeOf21
  v21 := Tryz.zeroValue21
  i21 := by kernel_rfl
  t22 := Tryz.underlying182
  a22 := Tryz.isAgg182
  z22 := Tryz.sizeOf182
  v22 := Tryz.zeroValue182
  i22 := by kernel_rfl
  t24 := Tryz.underlying242
  a24 := Tryz.isAgg242
  z24 := Tryz.sizeOf242
  v24 := Tryz.zeroValue242
  i24 := by kernel_rfl
  t25 := Tryz.underlying284
  a25 := Tryz.isAgg284
  z25 := Tryz.sizeOf284
  v25 := Tryz.zeroValue284
  i25 := by kernel_rfl
  t34 := Tryz.underlying322
  a34 := Tryz.isAgg322
  z34 := Tryz.sizeOf322
  v34 := Tryz.zeroValue322
  i34 := by kernel_rfl
  c34 := by kernel_rfl
  t36 := Tryz.underlying147
  a36 := Tryz.isAgg147
  z36 := Tryz.sizeOf147
  v36 := Tryz.zeroValue147
  i36 := by kernel_rfl
  t37 := Tryz.underlying237
  a37 := Tryz.isAgg237
  z37 := Tryz.sizeOf237
  v37 := Tryz.zeroValue237
  i37 := by kernel_rfl
  t39 := Tryz.underlying324
  a39 := Tryz.isAgg324
  z39 := Tryz.sizeOf324
  v39 := Tryz.zeroValue324
  i39 := by kernel_rfl
  t44 := Tryz.underlying337
  a44 := Tryz.isAgg337
  z44 := Tryz.sizeOf337
  v44 := Tryz.zeroValue337
  i44 := by kernel_rfl
  t47 := Tryz.underlying296
  a47 := Tryz.isAgg296
  z47 := Tryz.sizeOf296
  v47 := Tryz.zeroValue296
  i47 := by kernel_rfl
  t48 := Tryz.underlying339
  a48 := Tryz.isAgg339
  z48 := Tryz.sizeOf339
  v48 := Tryz.zeroValue339
  i48 := by kernel_rfl
  t50 := Tryz.underlying341
  a50 := Tryz.isAgg341
  z50 := Tryz.sizeOf341
  v50 := Tryz.zeroValue341
  i50 := by kernel_rfl
  t52 := Tryz.underlying253
  a52 := Tryz.isAgg253
  z52 := Tryz.sizeOf253
  v52 := Tryz.zeroValue253
  i52 := by kernel_rfl
  t55 := Tryz.underlying255
  a55 := Tryz.isAgg255
  z55 := Tryz.sizeOf255
  v55 := Tryz.zeroValue255
  i55 := by kernel_rfl
  t59 := Tryz.underlying300
  a59 := Tryz.isAgg300
  z59 := Tryz.sizeOf300
  v59 := Tryz.zeroValue300
  i59 := by kernel_rfl
  t60 := Tryz.underlying184
  a60 := Tryz.isAgg184
  z60 := Tryz.sizeOf184
  v60 := Tryz.zeroValue184
  i60 := by kernel_rfl
  t61 := Tryz.underlying301
  a61 := Tryz.isAgg301
  z61 := Tryz.sizeOf301
  t65 := Tryz.underlying327
  a65 := Tryz.isAgg327
  z65 := Tryz.sizeOf327
  v65 := Tryz.zeroValue327
  i65 := by kernel_rfl
  t66 := Tryz.underlying328
  a66 := Tryz.isAgg328
  z66 := Tryz.sizeOf328
  v66 := Tryz.zeroValue328
  i66 := by kernel_rfl
  t67 := Tryz.underlying144
  a67 := Tryz.isAgg144
  z67 := Tryz.sizeOf144
  v67 := Tryz.zeroValue144
  i67 := by kernel_rfl
  g0 := by kernel_rfl
  m0 := by kernel_rfl
  g1 := by kernel_rfl
  m1 := by kernel_rfl
  g2 := by kernel_rfl
  m2 := by kernel_rfl
  g3 := by kernel_rfl
  m3 := by kernel_rfl
  g4 := by kernel_rfl
  m4 := by kernel_rfl }
open Go.RowKit in
theorem Tryz.strconv_ParseUint_10_at32_ok (s : ByteArray) (hmax : s.size ≤ 9223372036854775806) (u : Nat) (h : Lib.parseUintB 32 s.data.toList = .ok u) (w : World) :
    Calls Tryz.prog 174 #[.string s, .int .i64 10, .int .i64 32] w fun e w' => e = .returned (.tuple #[.int .u64 u, .nilIface]) ∧ (w' = w ∨ w' = Lib.bytesWorld w 5 s) := Any.strconv_ParseUint_10_at32_ok Tryz.laysPu14 s hmax u h w
def Tryz.lays217_ren : Go.Shelf.Ren := ⟨fun | 217 => 217 | 266 => 232 | n => n, fun | 9 => 9 | 5 => 5 | 3 => 3 | n => n, fun | n => n⟩
theorem Tryz.lays217 : Go.Proofs.Lays.n217 Tryz.prog Tryz.lays217_ren := {
  mixed := by kernel_rfl
  f217 := Tryz.func217.trans (congrArg some (by kernel_rfl))
  f266 := Tryz.func232.trans (congrArg some (by kernel_rfl))
  t3 := Tryz.underlying3
  a3 := Tryz.isAgg3
  z3 := Tryz.sizeOf3
  v3 := Tryz.zeroValue3
  t5 := Tryz.underlying5
  a5 := Tryz.isAgg5
  z5 := Tryz.sizeOf5
  v5 := Tryz.zeroValue5
  t9 := Tryz.underlying9
  a9 := Tryz.isAgg9
  z9 := Tryz.sizeOf9
  v9 := Tryz.zeroValue9 }
open Go.RowKit Go.Lib in
theorem Tryz.stringslite_IndexByte (s : ByteArray) (c : Int) (w : World) :
    Calls Tryz.prog 217 #[.string s, .int .u8 c] w fun e w' => e = .returned (.int .i64 (Lib.indexByte s.data.toList c.toNat.toUInt8)) ∧ w' = w := Any.stringslite_IndexByte Tryz.lays217 s c w
end Go.Proofs
