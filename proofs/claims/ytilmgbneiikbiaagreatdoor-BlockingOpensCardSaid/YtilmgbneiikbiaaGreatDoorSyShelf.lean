/- The shelf of contracts at this dump (printed by the kit, cut to what is used). -/
import Derived.Shelf.Strings.Builder1
import Derived.Shelf.Strings.Builder2
import Derived.Shelf.Strings.OnBuilder
import Derived.Shelf.Small.Utf8
import Derived.Shelf.Small.Bits
import Derived.Shelf.Small.Strs
import Derived.Shelf.Strings.BuilderF
import Derived.Shelf.Strconv.Itoa0
import Derived.Shelf.Strconv.Itoa1
import Derived.Shelf.LaysM
import Derived.Shelf.Strconv.Itoa2
import Derived.Shelf.Strconv.Itoa3
import Derived.Ground.MpProg
import Derived.Shelf.Pu.ParseUintPublic10
import Derived.Shelf.Strings.Search1
import Derived.Shelf.Strings.Search2
import Derived.Shelf.Strings.Cut
import Derived.Shelf.Strings.Shaped
import Derived.Shelf.Strings.Prefix
import Derived.Shelf.Strings.Runes
import Derived.Shelf.Strings.AsciiSet
import Derived.Shelf.Bits.Mul64
import Derived.Shelf.Strings.Repeat
import Derived.Shelf.Unicode.DecodeSlow
import Derived.Test.YtilmgbneiikbiaaGreatDoorProg
namespace Go.Proofs
open Go.Shelf
def Tryz.laysPu14_ren:Go.Shelf.Ren:=⟨λ|14=>220|16=>279|17=>280|19=>327|20=>328|21=>329|22=>330|23=>331|24=>332|25=>375|27=>161|26=>376|28=>222|29=>281|30=>333|31=>334|32=>335|33=>336|35=>244|34=>377|36=>378|37=>379|38=>380|39=>394|40=>315|n=>n,λ|9=>9|3=>3|22=>246|24=>333|25=>334|4=>4|34=>438|5=>5|36=>204|37=>159|0=>0|39=>440|21=>21|44=>483|47=>406|50=>500|48=>498|2=>2|52=>443|55=>445|59=>486|60=>248|20=>20|61=>487|65=>504|66=>465|67=>191|n=>n,λ|0=>4|1=>5|2=>6|3=>7|4=>1|n=>n⟩
theorem Tryz.laysPu14:Go.Proofs.LaysPu.n14 Tryz.prog Tryz.laysPu14_ren:={
 mixed:=by kernel_rfl
 f14:=Tryz.func220.trans (congrArg some (by kernel_rfl))
 f16:=Tryz.func279.trans (congrArg some (by kernel_rfl))
 f17:=Tryz.func280.trans (congrArg some (by kernel_rfl))
 f19:=Tryz.func327.trans (congrArg some (by kernel_rfl))
 f20:=Tryz.func328.trans (congrArg some (by kernel_rfl))
 f21:=Tryz.func329.trans (congrArg some (by kernel_rfl))
 f22:=Tryz.func330.trans (congrArg some (by kernel_rfl))
 f23:=Tryz.func331.trans (congrArg some (by kernel_rfl))
 f24:=Tryz.func332.trans (congrArg some (by kernel_rfl))
 f25:=Tryz.func375.trans (congrArg some (by kernel_rfl))
 f26:=Tryz.func376.trans (congrArg some (by kernel_rfl))
 f27:=Tryz.func161.trans (congrArg some (by kernel_rfl))
 f28:=Tryz.func222.trans (congrArg some (by kernel_rfl))
 f29:=Tryz.func281.trans (congrArg some (by kernel_rfl))
 f30:=Tryz.func333.trans (congrArg some (by kernel_rfl))
 f31:=Tryz.func334.trans (congrArg some (by kernel_rfl))
 f32:=Tryz.func335.trans (congrArg some (by kernel_rfl))
 f33:=Tryz.func336.trans (congrArg some (by kernel_rfl))
 f34:=Tryz.func377.trans (congrArg some (by kernel_rfl))
 f35:=Tryz.func244.trans (congrArg some (by kernel_rfl))
 f36:=Tryz.func378.trans (congrArg some (by kernel_rfl))
 f37:=Tryz.func379.trans (congrArg some (by kernel_rfl))
 f38:=Tryz.func380.trans (congrArg some (by kernel_rfl))
 f39:=Tryz.func394.trans (congrArg some (by kernel_rfl))
 f40:=Tryz.func315.trans (congrArg some (by kernel_rfl))
 t0:=Tryz.underlying0
 a0:=Tryz.isAgg0
 z0:=Tryz.sizeOf0
 v0:=Tryz.zeroValue0
 i0:=by kernel_rfl
 t2:=Tryz.underlying2
 a2:=Tryz.isAgg2
 z2:=Tryz.sizeOf2
 v2:=Tryz.zeroValue2
 i2:=by kernel_rfl
 t3:=Tryz.underlying3
 a3:=Tryz.isAgg3
 z3:=Tryz.sizeOf3
 v3:=Tryz.zeroValue3
 i3:=by kernel_rfl
 t4:=Tryz.underlying4
 a4:=Tryz.isAgg4
 z4:=Tryz.sizeOf4
 v4:=Tryz.zeroValue4
 i4:=by kernel_rfl
 t5:=Tryz.underlying5
 a5:=Tryz.isAgg5
 z5:=Tryz.sizeOf5
 v5:=Tryz.zeroValue5
 i5:=by kernel_rfl
 t9:=Tryz.underlying9
 a9:=Tryz.isAgg9
 z9:=Tryz.sizeOf9
 v9:=Tryz.zeroValue9
 i9:=by kernel_rfl
 t20:=Tryz.underlying20
 a20:=Tryz.isAgg20
 z20:=Tryz.sizeOf20
 v20:=Tryz.zeroValue20
 i20:=by kernel_rfl
 t21:=Tryz.underlying21
 a21:=Tryz.isAgg21
 z21:=Tryz.sizeOf21
 v21:=Tryz.zeroValue21
 i21:=by kernel_rfl
 t22:=Tryz.underlying246
 a22:=Tryz.isAgg246
 z22:=Tryz.sizeOf246
 v22:=Tryz.zeroValue246
 i22:=by kernel_rfl
 t24:=Tryz.underlying333
 a24:=Tryz.isAgg333
 z24:=Tryz.sizeOf333
 v24:=Tryz.zeroValue333
 i24:=by kernel_rfl
 t25:=Tryz.underlying334
 a25:=Tryz.isAgg334
 z25:=Tryz.sizeOf334
 v25:=Tryz.zeroValue334
 i25:=by kernel_rfl
 t34:=Tryz.underlying438
 a34:=Tryz.isAgg438
 z34:=Tryz.sizeOf438
 v34:=Tryz.zeroValue438
 i34:=by kernel_rfl
 c34:=by kernel_rfl
 t36:=Tryz.underlying204
 a36:=Tryz.isAgg204
 z36:=Tryz.sizeOf204
 v36:=Tryz.zeroValue204
 i36:=by kernel_rfl
 t37:=Tryz.underlying159
 a37:=Tryz.isAgg159
 z37:=Tryz.sizeOf159
 v37:=Tryz.zeroValue159
 i37:=by kernel_rfl
 t39:=Tryz.underlying440
 a39:=Tryz.isAgg440
 z39:=Tryz.sizeOf440
 v39:=Tryz.zeroValue440
 i39:=by kernel_rfl
 t44:=Tryz.underlying483
 a44:=Tryz.isAgg483
 z44:=Tryz.sizeOf483
 v44:=Tryz.zeroValue483
 i44:=by kernel_rfl
 t47:=Tryz.underlying406
 a47:=Tryz.isAgg406
 z47:=Tryz.sizeOf406
 v47:=Tryz.zeroValue406
 i47:=by kernel_rfl
 t48:=Tryz.underlying498
 a48:=Tryz.isAgg498
 z48:=Tryz.sizeOf498
 v48:=Tryz.zeroValue498
 i48:=by kernel_rfl
 t50:=Tryz.underlying500
 a50:=Tryz.isAgg500
 z50:=Tryz.sizeOf500
 v50:=Tryz.zeroValue500
 i50:=by kernel_rfl
 t52:=Tryz.underlying443
 a52:=Tryz.isAgg443
 z52:=Tryz.sizeOf443
 v52:=Tryz.zeroValue443
 i52:=by kernel_rfl
 t55:=Tryz.underlying445
 a55:=Tryz.isAgg445
 z55:=Tryz.sizeOf445
 v55:=Tryz.zeroValue445
 i55:=by kernel_rfl
 t59:=Tryz.underlying486
 a59:=Tryz.isAgg486
 z59:=Tryz.sizeOf486
 v59:=Tryz.zeroValue486
 i59:=by kernel_rfl
 t60:=Tryz.underlying248
 a60:=Tryz.isAgg248
 z60:=Tryz.sizeOf248
 v60:=Tryz.zeroValue248
 i60:=by kernel_rfl
 t61:=Tryz.underlying487
 a61:=Tryz.isAgg487
 z61:=Tryz.sizeOf487
 t65:=Tryz.underlying504
 a65:=Tryz.isAgg504
 z65:=Tryz.sizeOf504
 v65:=Tryz.zeroValue504
 i65:=by kernel_rfl
 t66:=Tryz.underlying465
 a66:=Tryz.isAgg465
 z66:=Tryz.sizeOf465
 v66:=Tryz.zeroValue465
 i66:=by kernel_rfl
 t67:=Tryz.underlying191
 a67:=Tryz.isAgg191
 z67:=Tryz.sizeOf191
 v67:=Tryz.zeroValue191
 i67:=by kernel_rfl
 g0:=by kernel_rfl
 m0:=by kernel_rfl
 g1:=by kernel_rfl
 m1:=by kernel_rfl
 g2:=by kernel_rfl
 m2:=by kernel_rfl
 g3:=by kernel_rfl
 m3:=by kernel_rfl
 g4:=by kernel_rfl
 m4:=by kernel_rfl}
open Go.RowKit in
theorem Tryz.strconv_ParseUint_10_at32_ok (s:ByteArray) (hmax:s.size<=9223372036854775806) (u:Nat) (h:Lib.parseUintB 32 s.data.toList= .ok u) (w:World):
 Calls Tryz.prog 220 #[.string s,.int .i64 10,.int .i64 32] w λe w'=>e= .returned (.tuple #[.int .u64 u,.nilIface])/\(w'=w\/w'=Lib.bytesWorld w 5 s):=Any.strconv_ParseUint_10_at32_ok Tryz.laysPu14 s hmax u h w
def Tryz.lays217_ren:Go.Shelf.Ren:=⟨λ|217=>319|266=>371|n=>n,λ|9=>9|5=>5|3=>3|n=>n,λ|n=>n⟩
theorem Tryz.lays217:Go.Proofs.Lays.n217 Tryz.prog Tryz.lays217_ren:={
 mixed:=by kernel_rfl
 f217:=Tryz.func319.trans (congrArg some (by kernel_rfl))
 f266:=Tryz.func371.trans (congrArg some (by kernel_rfl))
 t3:=Tryz.underlying3
 a3:=Tryz.isAgg3
 z3:=Tryz.sizeOf3
 v3:=Tryz.zeroValue3
 t5:=Tryz.underlying5
 a5:=Tryz.isAgg5
 z5:=Tryz.sizeOf5
 v5:=Tryz.zeroValue5
 t9:=Tryz.underlying9
 a9:=Tryz.isAgg9
 z9:=Tryz.sizeOf9
 v9:=Tryz.zeroValue9}
open Go.RowKit Go.Lib in
theorem Tryz.stringslite_IndexByte (s:ByteArray) (c:Int) (w:World):
 Calls Tryz.prog 319 #[.string s,.int .u8 c] w λe w'=>e= .returned (.int .i64 (Lib.indexByte s.data.toList c.toNat.toUInt8))/\w'=w:=Any.stringslite_IndexByte Tryz.lays217 s c w
end Go.Proofs
