/- The shelf of contracts at this dump (printed by the kit, cut to what is used). -/
import Derived.Shelf.Strings.Builder1
import Derived.Shelf.Strings.Builder2
import Derived.Shelf.Strings.OnBuilder
import Derived.Shelf.Small.Utf8
import Derived.Shelf.Small.Bits
import Derived.Shelf.Small.Strs
import Derived.Shelf.Strings.BuilderF
import Derived.Shelf.Strconv.Itoa0
import Derived.Shelf.Strconv.Itoa1
import Derived.Shelf.LaysM
import Derived.Shelf.Strconv.Itoa2
import Derived.Shelf.Strconv.Itoa3
import Derived.Ground.MpProg
import Derived.Shelf.Pu.ParseUintPublic10
import Derived.Shelf.Strings.Search1
import Derived.Shelf.Strings.Search2
import Derived.Shelf.Strings.Cut
import Derived.Shelf.Strings.Shaped
import Derived.Shelf.Strings.Prefix
import Derived.Shelf.Strings.Runes
import Derived.Shelf.Strings.AsciiSet
import Derived.Shelf.Bits.Mul64
import Derived.Shelf.Strings.Repeat
import Derived.Shelf.Unicode.DecodeSlow
import Derived.Test.YtihglcfnelokaaaGreatDoorProg
namespace Go.Proofs
open Go.Shelf
def Tryz.lays156_ren:Go.Shelf.Ren:=⟨λ|156=>91|165=>141|166=>142|169=>144|240=>187|241=>188|276=>230|277=>231|n=>n,λ|31=>181|9=>9|3=>3|4=>4|0=>0|20=>20|72=>244|76=>248|70=>242|37=>130|75=>247|127=>307|164=>355|5=>5|80=>120|n=>n,λ|n=>n⟩
theorem Tryz.lays156:Go.Proofs.Lays.n156 Tryz.prog Tryz.lays156_ren:={
 mixed:=by kernel_rfl
 f156:=Tryz.func91.trans (congrArg some (by kernel_rfl))
 f165:=Tryz.func141.trans (congrArg some (by kernel_rfl))
 f166:=Tryz.func142.trans (congrArg some (by kernel_rfl))
 f169:=Tryz.func144.trans (congrArg some (by kernel_rfl))
 f240:=Tryz.func187.trans (congrArg some (by kernel_rfl))
 f241:=Tryz.func188.trans (congrArg some (by kernel_rfl))
 f276:=Tryz.func230.trans (congrArg some (by kernel_rfl))
 f277:=Tryz.func231.trans (congrArg some (by kernel_rfl))
 t0:=Tryz.underlying0
 a0:=Tryz.isAgg0
 z0:=Tryz.sizeOf0
 v0:=Tryz.zeroValue0
 t3:=Tryz.underlying3
 a3:=Tryz.isAgg3
 z3:=Tryz.sizeOf3
 v3:=Tryz.zeroValue3
 t4:=Tryz.underlying4
 a4:=Tryz.isAgg4
 z4:=Tryz.sizeOf4
 v4:=Tryz.zeroValue4
 t9:=Tryz.underlying9
 a9:=Tryz.isAgg9
 z9:=Tryz.sizeOf9
 v9:=Tryz.zeroValue9
 t20:=Tryz.underlying20
 a20:=Tryz.isAgg20
 z20:=Tryz.sizeOf20
 v20:=Tryz.zeroValue20
 t31:=Tryz.underlying181
 a31:=Tryz.isAgg181
 z31:=Tryz.sizeOf181
 v31:=Tryz.zeroValue181
 t37:=Tryz.underlying130
 a37:=Tryz.isAgg130
 z37:=Tryz.sizeOf130
 v37:=Tryz.zeroValue130
 t70:=Tryz.underlying242
 a70:=Tryz.isAgg242
 z70:=Tryz.sizeOf242
 v70:=Tryz.zeroValue242
 t72:=Tryz.underlying244
 a72:=Tryz.isAgg244
 z72:=Tryz.sizeOf244
 v72:=Tryz.zeroValue244
 t75:=Tryz.underlying247
 a75:=Tryz.isAgg247
 z75:=Tryz.sizeOf247
 v75:=Tryz.zeroValue247
 t76:=Tryz.underlying248
 a76:=Tryz.isAgg248
 z76:=Tryz.sizeOf248
 v76:=Tryz.zeroValue248
 t127:=Tryz.underlying307
 a127:=Tryz.isAgg307
 z127:=Tryz.sizeOf307
 v127:=Tryz.zeroValue307
 t164:=Tryz.underlying355
 a164:=Tryz.isAgg355
 z164:=Tryz.sizeOf355
 v164:=Tryz.zeroValue355}
theorem Tryz.Builder_Extra_156:Builder.Extra Tryz.prog Tryz.lays156_ren:={
 sizeBuilder:=by kernel_rfl
 liesBuilder:=by kernel_rfl
 t5:=Tryz.underlying5
 a5:=Tryz.isAgg5
 z5:=Tryz.sizeOf5
 v5:=Tryz.zeroValue5
 infoByte:=by kernel_rfl
 cellsByte:=by kernel_rfl
 sizeByte:=by kernel_rfl
 neB5:=by decide}
open Go.RowKit in
theorem Tryz.strings_Join (bk o c:Nat) (xs:List ByteArray) (sep:ByteArray) (w:World) (hcells:∀(j:Nat) x,xs[j]?=some x ->w.cell? ⟨bk,o+j,none⟩=some (.string x)) (hbk:bk<w.heap.size) (hN:xs.length<=140737488355328) (hcap:xs.length<=c) (hlen:(Lib.join (xs.map (·.data.toList)) sep.data.toList).length<=140737488355328):
 Calls Tryz.prog 91 #[.slice (some ⟨bk,o,none⟩) xs.length c,.string sep] w λe w'=>e= .returned (.string ⟨(Lib.join (xs.map (·.data.toList)) sep.data.toList).toArray⟩)/\Below w.heap.size w w':=Any.strings_Join Tryz.lays156 Tryz.Builder_Extra_156 bk o c xs sep w hcells hbk hN hcap hlen
def Tryz.laysM171_ren:Go.Shelf.Ren:=⟨λ|171=>88|243=>138|246=>183|283=>226|284=>227|285=>228|286=>229|129=>256|317=>281|318=>282|319=>283|320=>284|337=>323|338=>267|n=>n,λ|3=>3|9=>9|2=>2|4=>4|171=>351|0=>0|53=>171|37=>130|5=>5|173=>353|212=>402|51=>173|20=>20|213=>403|46=>174|232=>451|233=>421|n=>n,λ|17=>0|18=>3|19=>2|n=>n⟩
theorem Tryz.laysM171:Go.Proofs.LaysM.n171 Tryz.prog Tryz.laysM171_ren:={
 mixed:=by kernel_rfl
 f129:=Tryz.func256.trans (congrArg some (by kernel_rfl))
 f171:=Tryz.func88.trans (congrArg some (by kernel_rfl))
 f243:=Tryz.func138.trans (congrArg some (by kernel_rfl))
 f246:=Tryz.func183.trans (congrArg some (by kernel_rfl))
 f283:=Tryz.func226.trans (congrArg some (by kernel_rfl))
 f284:=Tryz.func227.trans (congrArg some (by kernel_rfl))
 f285:=Tryz.func228.trans (congrArg some (by kernel_rfl))
 f286:=Tryz.func229.trans (congrArg some (by kernel_rfl))
 f317:=Tryz.func281.trans (congrArg some (by kernel_rfl))
 f318:=Tryz.func282.trans (congrArg some (by kernel_rfl))
 f319:=Tryz.func283.trans (congrArg some (by kernel_rfl))
 f320:=Tryz.func284.trans (congrArg some (by kernel_rfl))
 f337:=Tryz.func323.trans (congrArg some (by kernel_rfl))
 f338:=Tryz.func267.trans (congrArg some (by kernel_rfl))
 t0:=Tryz.underlying0
 a0:=Tryz.isAgg0
 z0:=Tryz.sizeOf0
 v0:=Tryz.zeroValue0
 t2:=Tryz.underlying2
 a2:=Tryz.isAgg2
 z2:=Tryz.sizeOf2
 v2:=Tryz.zeroValue2
 t3:=Tryz.underlying3
 a3:=Tryz.isAgg3
 z3:=Tryz.sizeOf3
 v3:=Tryz.zeroValue3
 t4:=Tryz.underlying4
 a4:=Tryz.isAgg4
 z4:=Tryz.sizeOf4
 v4:=Tryz.zeroValue4
 t5:=Tryz.underlying5
 a5:=Tryz.isAgg5
 z5:=Tryz.sizeOf5
 v5:=Tryz.zeroValue5
 t9:=Tryz.underlying9
 a9:=Tryz.isAgg9
 z9:=Tryz.sizeOf9
 v9:=Tryz.zeroValue9
 t20:=Tryz.underlying20
 a20:=Tryz.isAgg20
 z20:=Tryz.sizeOf20
 v20:=Tryz.zeroValue20
 t37:=Tryz.underlying130
 a37:=Tryz.isAgg130
 z37:=Tryz.sizeOf130
 v37:=Tryz.zeroValue130
 t46:=Tryz.underlying174
 a46:=Tryz.isAgg174
 z46:=Tryz.sizeOf174
 v46:=Tryz.zeroValue174
 t51:=Tryz.underlying173
 a51:=Tryz.isAgg173
 z51:=Tryz.sizeOf173
 v51:=Tryz.zeroValue173
 t53:=Tryz.underlying171
 a53:=Tryz.isAgg171
 z53:=Tryz.sizeOf171
 v53:=Tryz.zeroValue171
 t171:=Tryz.underlying351
 a171:=Tryz.isAgg351
 z171:=Tryz.sizeOf351
 v171:=Tryz.zeroValue351
 t173:=Tryz.underlying353
 a173:=Tryz.isAgg353
 z173:=Tryz.sizeOf353
 v173:=Tryz.zeroValue353
 t212:=Tryz.underlying402
 a212:=Tryz.isAgg402
 z212:=Tryz.sizeOf402
 v212:=Tryz.zeroValue402
 t213:=Tryz.underlying403
 a213:=Tryz.isAgg403
 z213:=Tryz.sizeOf403
 t232:=Tryz.underlying451
 a232:=Tryz.isAgg451
 z232:=Tryz.sizeOf451
 v232:=Tryz.zeroValue451
 t233:=Tryz.underlying421
 a233:=Tryz.isAgg421
 z233:=Tryz.sizeOf421
 v233:=Tryz.zeroValue421
 g17:=by kernel_rfl
 g18:=by kernel_rfl
 g19:=by kernel_rfl
 i0:=by kernel_rfl
 i2:=by kernel_rfl
 i3:=by kernel_rfl
 i4:=by kernel_rfl
 i5:=by kernel_rfl
 i9:=by kernel_rfl
 i20:=by kernel_rfl
 i37:=by kernel_rfl
 i46:=by kernel_rfl
 i51:=by kernel_rfl
 i53:=by kernel_rfl
 i171:=by kernel_rfl
 i173:=by kernel_rfl
 i212:=by kernel_rfl
 i232:=by kernel_rfl
 i233:=by kernel_rfl
 m17:=by kernel_rfl
 m18:=by kernel_rfl
 m19:=by kernel_rfl}
open Go.RowKit Go.Sort Go.Lib in
theorem Tryz.strconv_Itoa (n:Int) (h0:-9223372036854775808<=n) (h1:n<=9223372036854775807) (w:World) (htab:Lib.TabIs Tryz.prog w "internal/strconv.uint64pow10" .u64 Lib.pow10Tab):
 Calls Tryz.prog 88 #[.int .i64 n] w λe w'=>e= .returned (.string ⟨(Lib.itoa n).toArray⟩)/\∃k os,w'=grow (w.drewN k) os:=Any.strconv_Itoa Tryz.laysM171 n h0 h1 w htab
def Tryz.lays105_ren:Go.Shelf.Ren:=⟨λ|105=>89|212=>139|99=>140|165=>141|166=>142|170=>143|169=>144|263=>184|264=>185|206=>186|240=>187|241=>188|276=>230|277=>231|n=>n,λ|9=>9|3=>3|4=>4|20=>20|0=>0|46=>174|109=>239|5=>5|72=>244|76=>248|51=>173|146=>303|53=>171|148=>305|70=>242|37=>130|75=>247|127=>307|164=>355|80=>120|n=>n,λ|n=>n⟩
theorem Tryz.lays105:Go.Proofs.Lays.n105 Tryz.prog Tryz.lays105_ren:={
 mixed:=by kernel_rfl
 f99:=Tryz.func140.trans (congrArg some (by kernel_rfl))
 f105:=Tryz.func89.trans (congrArg some (by kernel_rfl))
 f165:=Tryz.func141.trans (congrArg some (by kernel_rfl))
 f166:=Tryz.func142.trans (congrArg some (by kernel_rfl))
 f169:=Tryz.func144.trans (congrArg some (by kernel_rfl))
 f170:=Tryz.func143.trans (congrArg some (by kernel_rfl))
 f206:=Tryz.func186.trans (congrArg some (by kernel_rfl))
 f212:=Tryz.func139.trans (congrArg some (by kernel_rfl))
 f240:=Tryz.func187.trans (congrArg some (by kernel_rfl))
 f241:=Tryz.func188.trans (congrArg some (by kernel_rfl))
 f263:=Tryz.func184.trans (congrArg some (by kernel_rfl))
 f264:=Tryz.func185.trans (congrArg some (by kernel_rfl))
 f276:=Tryz.func230.trans (congrArg some (by kernel_rfl))
 f277:=Tryz.func231.trans (congrArg some (by kernel_rfl))
 t0:=Tryz.underlying0
 a0:=Tryz.isAgg0
 z0:=Tryz.sizeOf0
 v0:=Tryz.zeroValue0
 t3:=Tryz.underlying3
 a3:=Tryz.isAgg3
 z3:=Tryz.sizeOf3
 v3:=Tryz.zeroValue3
 t4:=Tryz.underlying4
 a4:=Tryz.isAgg4
 z4:=Tryz.sizeOf4
 v4:=Tryz.zeroValue4
 t5:=Tryz.underlying5
 a5:=Tryz.isAgg5
 z5:=Tryz.sizeOf5
 v5:=Tryz.zeroValue5
 t9:=Tryz.underlying9
 a9:=Tryz.isAgg9
 z9:=Tryz.sizeOf9
 v9:=Tryz.zeroValue9
 t20:=Tryz.underlying20
 a20:=Tryz.isAgg20
 z20:=Tryz.sizeOf20
 v20:=Tryz.zeroValue20
 t37:=Tryz.underlying130
 a37:=Tryz.isAgg130
 z37:=Tryz.sizeOf130
 v37:=Tryz.zeroValue130
 t46:=Tryz.underlying174
 a46:=Tryz.isAgg174
 z46:=Tryz.sizeOf174
 v46:=Tryz.zeroValue174
 t51:=Tryz.underlying173
 a51:=Tryz.isAgg173
 z51:=Tryz.sizeOf173
 v51:=Tryz.zeroValue173
 t53:=Tryz.underlying171
 a53:=Tryz.isAgg171
 z53:=Tryz.sizeOf171
 v53:=Tryz.zeroValue171
 t70:=Tryz.underlying242
 a70:=Tryz.isAgg242
 z70:=Tryz.sizeOf242
 v70:=Tryz.zeroValue242
 t72:=Tryz.underlying244
 a72:=Tryz.isAgg244
 z72:=Tryz.sizeOf244
 v72:=Tryz.zeroValue244
 t75:=Tryz.underlying247
 a75:=Tryz.isAgg247
 z75:=Tryz.sizeOf247
 v75:=Tryz.zeroValue247
 t76:=Tryz.underlying248
 a76:=Tryz.isAgg248
 z76:=Tryz.sizeOf248
 v76:=Tryz.zeroValue248
 t109:=Tryz.underlying239
 a109:=Tryz.isAgg239
 z109:=Tryz.sizeOf239
 v109:=Tryz.zeroValue239
 t127:=Tryz.underlying307
 a127:=Tryz.isAgg307
 z127:=Tryz.sizeOf307
 v127:=Tryz.zeroValue307
 t146:=Tryz.underlying303
 a146:=Tryz.isAgg303
 z146:=Tryz.sizeOf303
 v146:=Tryz.zeroValue303
 t148:=Tryz.underlying305
 a148:=Tryz.isAgg305
 z148:=Tryz.sizeOf305
 v148:=Tryz.zeroValue305
 t164:=Tryz.underlying355
 a164:=Tryz.isAgg355
 z164:=Tryz.sizeOf355
 v164:=Tryz.zeroValue355}
theorem Tryz.Builder_Extra_105:Builder.Extra Tryz.prog Tryz.lays105_ren:={
 sizeBuilder:=by kernel_rfl
 liesBuilder:=by kernel_rfl
 t5:=Tryz.underlying5
 a5:=Tryz.isAgg5
 z5:=Tryz.sizeOf5
 v5:=Tryz.zeroValue5
 infoByte:=by kernel_rfl
 cellsByte:=by kernel_rfl
 sizeByte:=by kernel_rfl
 neB5:=by decide}
open Go.RowKit Go.Lib in
theorem Tryz.strings_Repeat (s:ByteArray) (c:Nat) (w:World) (hc:c<=9223372036854775807) (hlen:s.size*c<=140737488355328):
 Calls Tryz.prog 89 #[.string s,.int .i64 c] w λe w'=>e= .returned (.string ⟨(Lib.repeatL s.data.toList c).toArray⟩)/\Below w.heap.size w w':=Any.strings_Repeat Tryz.lays105 Tryz.Builder_Extra_105 s c w hc hlen
end Go.Proofs
