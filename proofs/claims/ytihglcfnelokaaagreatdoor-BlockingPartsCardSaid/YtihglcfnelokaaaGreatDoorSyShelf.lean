/- The shelf of contracts at this dump (printed by the kit, cut to what is used). -/
import Derived.Shelf.Small.Utf8
import Derived.Shelf.Small.Bits
import Derived.Shelf.Small.Strs
import Derived.Shelf.Strconv.Itoa0
import Derived.Ground.MpProg
import Derived.Shelf.Pu.ParseUintPublic10
import Derived.Shelf.Strings.Search1
import Derived.Shelf.Strings.Search2
import Derived.Shelf.Strings.Cut
import Derived.Shelf.LaysM
import Derived.Shelf.Strings.Shaped
import Derived.Shelf.Unicode.DecodeSlow
import Derived.Test.YtihglcfnelokaaaGreatDoorProg
namespace Go.Proofs
open Go.Shelf
def Tryz.laysPu14_ren:Go.Shelf.Ren:=⟨λ|14=>244|16=>292|17=>293|19=>332|20=>333|21=>334|22=>335|23=>336|24=>337|25=>351|27=>88|26=>352|28=>138|29=>183|30=>226|31=>227|32=>228|33=>229|35=>256|34=>281|36=>282|37=>283|38=>284|39=>323|40=>267|n=>n,λ|9=>9|3=>3|22=>171|24=>247|25=>369|4=>4|34=>437|5=>5|36=>174|37=>130|0=>0|39=>439|21=>21|44=>459|47=>307|50=>465|48=>463|2=>2|52=>351|55=>353|59=>402|60=>173|20=>20|61=>403|65=>451|66=>421|67=>120|n=>n,λ|0=>6|1=>7|2=>0|3=>3|4=>2|n=>n⟩
theorem Tryz.laysPu14:Go.Proofs.LaysPu.n14 Tryz.prog Tryz.laysPu14_ren:={
 mixed:=by kernel_rfl
 f14:=Tryz.func244.trans (congrArg some (by kernel_rfl))
 f16:=Tryz.func292.trans (congrArg some (by kernel_rfl))
 f17:=Tryz.func293.trans (congrArg some (by kernel_rfl))
 f19:=Tryz.func332.trans (congrArg some (by kernel_rfl))
 f20:=Tryz.func333.trans (congrArg some (by kernel_rfl))
 f21:=Tryz.func334.trans (congrArg some (by kernel_rfl))
 f22:=Tryz.func335.trans (congrArg some (by kernel_rfl))
 f23:=Tryz.func336.trans (congrArg some (by kernel_rfl))
 f24:=Tryz.func337.trans (congrArg some (by kernel_rfl))
 f25:=Tryz.func351.trans (congrArg some (by kernel_rfl))
 f26:=Tryz.func352.trans (congrArg some (by kernel_rfl))
 f27:=Tryz.func88.trans (congrArg some (by kernel_rfl))
 f28:=Tryz.func138.trans (congrArg some (by kernel_rfl))
 f29:=Tryz.func183.trans (congrArg some (by kernel_rfl))
 f30:=Tryz.func226.trans (congrArg some (by kernel_rfl))
 f31:=Tryz.func227.trans (congrArg some (by kernel_rfl))
 f32:=Tryz.func228.trans (congrArg some (by kernel_rfl))
 f33:=Tryz.func229.trans (congrArg some (by kernel_rfl))
 f34:=Tryz.func281.trans (congrArg some (by kernel_rfl))
 f35:=Tryz.func256.trans (congrArg some (by kernel_rfl))
 f36:=Tryz.func282.trans (congrArg some (by kernel_rfl))
 f37:=Tryz.func283.trans (congrArg some (by kernel_rfl))
 f38:=Tryz.func284.trans (congrArg some (by kernel_rfl))
 f39:=Tryz.func323.trans (congrArg some (by kernel_rfl))
 f40:=Tryz.func267.trans (congrArg some (by kernel_rfl))
 t0:=Tryz.underlying0
 a0:=Tryz.isAgg0
 z0:=Tryz.sizeOf0
 v0:=Tryz.zeroValue0
 i0:=by kernel_rfl
 t2:=Tryz.underlying2
 a2:=Tryz.isAgg2
 z2:=Tryz.sizeOf2
 v2:=Tryz.zeroValue2
 i2:=by kernel_rfl
 t3:=Tryz.underlying3
 a3:=Tryz.isAgg3
 z3:=Tryz.sizeOf3
 v3:=Tryz.zeroValue3
 i3:=by kernel_rfl
 t4:=Tryz.underlying4
 a4:=Tryz.isAgg4
 z4:=Tryz.sizeOf4
 v4:=Tryz.zeroValue4
 i4:=by kernel_rfl
 t5:=Tryz.underlying5
 a5:=Tryz.isAgg5
 z5:=Tryz.sizeOf5
 v5:=Tryz.zeroValue5
 i5:=by kernel_rfl
 t9:=Tryz.underlying9
 a9:=Tryz.isAgg9
 z9:=Tryz.sizeOf9
 v9:=Tryz.zeroValue9
 i9:=by kernel_rfl
 t20:=Tryz.underlying20
 a20:=Tryz.isAgg20
 z20:=Tryz.sizeOf20
 v20:=Tryz.zeroValue20
 i20:=by kernel_rfl
 t21:=Tryz.underlying21
 a21:=Tryz.isAgg21
 z21:=Tryz.sizeOf21
 v21:=Tryz.zeroValue21
 i21:=by kernel_rfl
 t22:=Tryz.underlying171
 a22:=Tryz.isAgg171
 z22:=Tryz.sizeOf171
 v22:=Tryz.zeroValue171
 i22:=by kernel_rfl
 t24:=Tryz.underlying247
 a24:=Tryz.isAgg247
 z24:=Tryz.sizeOf247
 v24:=Tryz.zeroValue247
 i24:=by kernel_rfl
 t25:=Tryz.underlying369
 a25:=Tryz.isAgg369
 z25:=Tryz.sizeOf369
 v25:=Tryz.zeroValue369
 i25:=by kernel_rfl
 t34:=Tryz.underlying437
 a34:=Tryz.isAgg437
 z34:=Tryz.sizeOf437
 v34:=Tryz.zeroValue437
 i34:=by kernel_rfl
 c34:=by kernel_rfl
 t36:=Tryz.underlying174
 a36:=Tryz.isAgg174
 z36:=Tryz.sizeOf174
 v36:=Tryz.zeroValue174
 i36:=by kernel_rfl
 t37:=Tryz.underlying130
 a37:=Tryz.isAgg130
 z37:=Tryz.sizeOf130
 v37:=Tryz.zeroValue130
 i37:=by kernel_rfl
 t39:=Tryz.underlying439
 a39:=Tryz.isAgg439
 z39:=Tryz.sizeOf439
 v39:=Tryz.zeroValue439
 i39:=by kernel_rfl
 t44:=Tryz.underlying459
 a44:=Tryz.isAgg459
 z44:=Tryz.sizeOf459
 v44:=Tryz.zeroValue459
 i44:=by kernel_rfl
 t47:=Tryz.underlying307
 a47:=Tryz.isAgg307
 z47:=Tryz.sizeOf307
 v47:=Tryz.zeroValue307
 i47:=by kernel_rfl
 t48:=Tryz.underlying463
 a48:=Tryz.isAgg463
 z48:=Tryz.sizeOf463
 v48:=Tryz.zeroValue463
 i48:=by kernel_rfl
 t50:=Tryz.underlying465
 a50:=Tryz.isAgg465
 z50:=Tryz.sizeOf465
 v50:=Tryz.zeroValue465
 i50:=by kernel_rfl
 t52:=Tryz.underlying351
 a52:=Tryz.isAgg351
 z52:=Tryz.sizeOf351
 v52:=Tryz.zeroValue351
 i52:=by kernel_rfl
 t55:=Tryz.underlying353
 a55:=Tryz.isAgg353
 z55:=Tryz.sizeOf353
 v55:=Tryz.zeroValue353
 i55:=by kernel_rfl
 t59:=Tryz.underlying402
 a59:=Tryz.isAgg402
 z59:=Tryz.sizeOf402
 v59:=Tryz.zeroValue402
 i59:=by kernel_rfl
 t60:=Tryz.underlying173
 a60:=Tryz.isAgg173
 z60:=Tryz.sizeOf173
 v60:=Tryz.zeroValue173
 i60:=by kernel_rfl
 t61:=Tryz.underlying403
 a61:=Tryz.isAgg403
 z61:=Tryz.sizeOf403
 t65:=Tryz.underlying451
 a65:=Tryz.isAgg451
 z65:=Tryz.sizeOf451
 v65:=Tryz.zeroValue451
 i65:=by kernel_rfl
 t66:=Tryz.underlying421
 a66:=Tryz.isAgg421
 z66:=Tryz.sizeOf421
 v66:=Tryz.zeroValue421
 i66:=by kernel_rfl
 t67:=Tryz.underlying120
 a67:=Tryz.isAgg120
 z67:=Tryz.sizeOf120
 v67:=Tryz.zeroValue120
 i67:=by kernel_rfl
 g0:=by kernel_rfl
 m0:=by kernel_rfl
 g1:=by kernel_rfl
 m1:=by kernel_rfl
 g2:=by kernel_rfl
 m2:=by kernel_rfl
 g3:=by kernel_rfl
 m3:=by kernel_rfl
 g4:=by kernel_rfl
 m4:=by kernel_rfl}
open Go.RowKit in
theorem Tryz.strconv_ParseUint_10_at32_ok (s:ByteArray) (hmax:s.size<=9223372036854775806) (u:Nat) (h:Lib.parseUintB 32 s.data.toList= .ok u) (w:World):
 Calls Tryz.prog 244 #[.string s,.int .i64 10,.int .i64 32] w λe w'=>e= .returned (.tuple #[.int .u64 u,.nilIface])/\(w'=w\/w'=Lib.bytesWorld w 5 s):=Any.strconv_ParseUint_10_at32_ok Tryz.laysPu14 s hmax u h w
def Tryz.lays217_ren:Go.Shelf.Ren:=⟨λ|217=>324|266=>347|n=>n,λ|9=>9|5=>5|3=>3|n=>n,λ|n=>n⟩
theorem Tryz.lays217:Go.Proofs.Lays.n217 Tryz.prog Tryz.lays217_ren:={
 mixed:=by kernel_rfl
 f217:=Tryz.func324.trans (congrArg some (by kernel_rfl))
 f266:=Tryz.func347.trans (congrArg some (by kernel_rfl))
 t3:=Tryz.underlying3
 a3:=Tryz.isAgg3
 z3:=Tryz.sizeOf3
 v3:=Tryz.zeroValue3
 t5:=Tryz.underlying5
 a5:=Tryz.isAgg5
 z5:=Tryz.sizeOf5
 v5:=Tryz.zeroValue5
 t9:=Tryz.underlying9
 a9:=Tryz.isAgg9
 z9:=Tryz.sizeOf9
 v9:=Tryz.zeroValue9}
open Go.RowKit Go.Lib in
theorem Tryz.stringslite_IndexByte (s:ByteArray) (c:Int) (w:World):
 Calls Tryz.prog 324 #[.string s,.int .u8 c] w λe w'=>e= .returned (.int .i64 (Lib.indexByte s.data.toList c.toNat.toUInt8))/\w'=w:=Any.stringslite_IndexByte Tryz.lays217 s c w
end Go.Proofs
