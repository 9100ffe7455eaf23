/- The shelf of contracts at this dump (printed by the kit, cut to what is used). -/
import Derived.Shelf.Strings.Builder1
import Derived.Shelf.Strings.Builder2
import Derived.Shelf.Strings.OnBuilder
import Derived.Shelf.Small.Utf8
import Derived.Shelf.Small.Bits
import Derived.Shelf.Small.Strs
import Derived.Shelf.Strings.BuilderF
import Derived.Shelf.Strconv.Itoa0
import Derived.Shelf.Strconv.Itoa1
import Derived.Shelf.LaysM
import Derived.Shelf.Strconv.Itoa2
import Derived.Shelf.Strconv.Itoa3
import Derived.Ground.MpProg
import Derived.Shelf.Pu.ParseUintPublic10
import Derived.Shelf.Strings.Search1
import Derived.Shelf.Strings.Search2
import Derived.Shelf.Strings.Cut
import Derived.Shelf.Strings.Shaped
import Derived.Shelf.Strings.Prefix
import Derived.Shelf.Strings.Runes
import Derived.Shelf.Strings.AsciiSet
import Derived.Shelf.Bits.Mul64
import Derived.Shelf.Strings.Repeat
import Derived.Shelf.Unicode.DecodeSlow
import Derived.Test.YtilmgbneiikbiaaGreatDoorProg
namespace Go.Proofs
open Go.Shelf
def Tryz.lays156_ren:Go.Shelf.Ren:=⟨λ|156=>164|165=>225|166=>226|169=>228|240=>284|241=>285|276=>337|277=>338|n=>n,λ|31=>263|9=>9|3=>3|4=>4|0=>0|20=>20|72=>342|76=>344|70=>340|37=>159|75=>333|127=>406|164=>447|5=>5|80=>191|n=>n,λ|n=>n⟩
theorem Tryz.lays156:Go.Proofs.Lays.n156 Tryz.prog Tryz.lays156_ren:={
 mixed:=by kernel_rfl
 f156:=Tryz.func164.trans (congrArg some (by kernel_rfl))
 f165:=Tryz.func225.trans (congrArg some (by kernel_rfl))
 f166:=Tryz.func226.trans (congrArg some (by kernel_rfl))
 f169:=Tryz.func228.trans (congrArg some (by kernel_rfl))
 f240:=Tryz.func284.trans (congrArg some (by kernel_rfl))
 f241:=Tryz.func285.trans (congrArg some (by kernel_rfl))
 f276:=Tryz.func337.trans (congrArg some (by kernel_rfl))
 f277:=Tryz.func338.trans (congrArg some (by kernel_rfl))
 t0:=Tryz.underlying0
 a0:=Tryz.isAgg0
 z0:=Tryz.sizeOf0
 v0:=Tryz.zeroValue0
 t3:=Tryz.underlying3
 a3:=Tryz.isAgg3
 z3:=Tryz.sizeOf3
 v3:=Tryz.zeroValue3
 t4:=Tryz.underlying4
 a4:=Tryz.isAgg4
 z4:=Tryz.sizeOf4
 v4:=Tryz.zeroValue4
 t9:=Tryz.underlying9
 a9:=Tryz.isAgg9
 z9:=Tryz.sizeOf9
 v9:=Tryz.zeroValue9
 t20:=Tryz.underlying20
 a20:=Tryz.isAgg20
 z20:=Tryz.sizeOf20
 v20:=Tryz.zeroValue20
 t31:=Tryz.underlying263
 a31:=Tryz.isAgg263
 z31:=Tryz.sizeOf263
 v31:=Tryz.zeroValue263
 t37:=Tryz.underlying159
 a37:=Tryz.isAgg159
 z37:=Tryz.sizeOf159
 v37:=Tryz.zeroValue159
 t70:=Tryz.underlying340
 a70:=Tryz.isAgg340
 z70:=Tryz.sizeOf340
 v70:=Tryz.zeroValue340
 t72:=Tryz.underlying342
 a72:=Tryz.isAgg342
 z72:=Tryz.sizeOf342
 v72:=Tryz.zeroValue342
 t75:=Tryz.underlying333
 a75:=Tryz.isAgg333
 z75:=Tryz.sizeOf333
 v75:=Tryz.zeroValue333
 t76:=Tryz.underlying344
 a76:=Tryz.isAgg344
 z76:=Tryz.sizeOf344
 v76:=Tryz.zeroValue344
 t127:=Tryz.underlying406
 a127:=Tryz.isAgg406
 z127:=Tryz.sizeOf406
 v127:=Tryz.zeroValue406
 t164:=Tryz.underlying447
 a164:=Tryz.isAgg447
 z164:=Tryz.sizeOf447
 v164:=Tryz.zeroValue447}
theorem Tryz.Builder_Extra_156:Builder.Extra Tryz.prog Tryz.lays156_ren:={
 sizeBuilder:=by kernel_rfl
 liesBuilder:=by kernel_rfl
 t5:=Tryz.underlying5
 a5:=Tryz.isAgg5
 z5:=Tryz.sizeOf5
 v5:=Tryz.zeroValue5
 infoByte:=by kernel_rfl
 cellsByte:=by kernel_rfl
 sizeByte:=by kernel_rfl
 neB5:=by decide}
open Go.RowKit in
theorem Tryz.strings_Join (bk o c:Nat) (xs:List ByteArray) (sep:ByteArray) (w:World) (hcells:∀(j:Nat) x,xs[j]?=some x ->w.cell? ⟨bk,o+j,none⟩=some (.string x)) (hbk:bk<w.heap.size) (hN:xs.length<=140737488355328) (hcap:xs.length<=c) (hlen:(Lib.join (xs.map (·.data.toList)) sep.data.toList).length<=140737488355328):
 Calls Tryz.prog 164 #[.slice (some ⟨bk,o,none⟩) xs.length c,.string sep] w λe w'=>e= .returned (.string ⟨(Lib.join (xs.map (·.data.toList)) sep.data.toList).toArray⟩)/\Below w.heap.size w w':=Any.strings_Join Tryz.lays156 Tryz.Builder_Extra_156 bk o c xs sep w hcells hbk hN hcap hlen
def Tryz.laysM171_ren:Go.Shelf.Ren:=⟨λ|171=>161|243=>222|246=>281|283=>333|284=>334|285=>335|286=>336|129=>244|317=>377|318=>378|319=>379|320=>380|337=>394|338=>315|n=>n,λ|3=>3|9=>9|2=>2|4=>4|171=>443|0=>0|53=>246|37=>159|5=>5|173=>445|212=>486|51=>248|20=>20|213=>487|46=>204|232=>504|233=>465|n=>n,λ|17=>6|18=>7|19=>1|n=>n⟩
theorem Tryz.laysM171:Go.Proofs.LaysM.n171 Tryz.prog Tryz.laysM171_ren:={
 mixed:=by kernel_rfl
 f129:=Tryz.func244.trans (congrArg some (by kernel_rfl))
 f171:=Tryz.func161.trans (congrArg some (by kernel_rfl))
 f243:=Tryz.func222.trans (congrArg some (by kernel_rfl))
 f246:=Tryz.func281.trans (congrArg some (by kernel_rfl))
 f283:=Tryz.func333.trans (congrArg some (by kernel_rfl))
 f284:=Tryz.func334.trans (congrArg some (by kernel_rfl))
 f285:=Tryz.func335.trans (congrArg some (by kernel_rfl))
 f286:=Tryz.func336.trans (congrArg some (by kernel_rfl))
 f317:=Tryz.func377.trans (congrArg some (by kernel_rfl))
 f318:=Tryz.func378.trans (congrArg some (by kernel_rfl))
 f319:=Tryz.func379.trans (congrArg some (by kernel_rfl))
 f320:=Tryz.func380.trans (congrArg some (by kernel_rfl))
 f337:=Tryz.func394.trans (congrArg some (by kernel_rfl))
 f338:=Tryz.func315.trans (congrArg some (by kernel_rfl))
 t0:=Tryz.underlying0
 a0:=Tryz.isAgg0
 z0:=Tryz.sizeOf0
 v0:=Tryz.zeroValue0
 t2:=Tryz.underlying2
 a2:=Tryz.isAgg2
 z2:=Tryz.sizeOf2
 v2:=Tryz.zeroValue2
 t3:=Tryz.underlying3
 a3:=Tryz.isAgg3
 z3:=Tryz.sizeOf3
 v3:=Tryz.zeroValue3
 t4:=Tryz.underlying4
 a4:=Tryz.isAgg4
 z4:=Tryz.sizeOf4
 v4:=Tryz.zeroValue4
 t5:=Tryz.underlying5
 a5:=Tryz.isAgg5
 z5:=Tryz.sizeOf5
 v5:=Tryz.zeroValue5
 t9:=Tryz.underlying9
 a9:=Tryz.isAgg9
 z9:=Tryz.sizeOf9
 v9:=Tryz.zeroValue9
 t20:=Tryz.underlying20
 a20:=Tryz.isAgg20
 z20:=Tryz.sizeOf20
 v20:=Tryz.zeroValue20
 t37:=Tryz.underlying159
 a37:=Tryz.isAgg159
 z37:=Tryz.sizeOf159
 v37:=Tryz.zeroValue159
 t46:=Tryz.underlying204
 a46:=Tryz.isAgg204
 z46:=Tryz.sizeOf204
 v46:=Tryz.zeroValue204
 t51:=Tryz.underlying248
 a51:=Tryz.isAgg248
 z51:=Tryz.sizeOf248
 v51:=Tryz.zeroValue248
 t53:=Tryz.underlying246
 a53:=Tryz.isAgg246
 z53:=Tryz.sizeOf246
 v53:=Tryz.zeroValue246
 t171:=Tryz.underlying443
 a171:=Tryz.isAgg443
 z171:=Tryz.sizeOf443
 v171:=Tryz.zeroValue443
 t173:=Tryz.underlying445
 a173:=Tryz.isAgg445
 z173:=Tryz.sizeOf445
 v173:=Tryz.zeroValue445
 t212:=Tryz.underlying486
 a212:=Tryz.isAgg486
 z212:=Tryz.sizeOf486
 v212:=Tryz.zeroValue486
 t213:=Tryz.underlying487
 a213:=Tryz.isAgg487
 z213:=Tryz.sizeOf487
 t232:=Tryz.underlying504
 a232:=Tryz.isAgg504
 z232:=Tryz.sizeOf504
 v232:=Tryz.zeroValue504
 t233:=Tryz.underlying465
 a233:=Tryz.isAgg465
 z233:=Tryz.sizeOf465
 v233:=Tryz.zeroValue465
 g17:=by kernel_rfl
 g18:=by kernel_rfl
 g19:=by kernel_rfl
 i0:=by kernel_rfl
 i2:=by kernel_rfl
 i3:=by kernel_rfl
 i4:=by kernel_rfl
 i5:=by kernel_rfl
 i9:=by kernel_rfl
 i20:=by kernel_rfl
 i37:=by kernel_rfl
 i46:=by kernel_rfl
 i51:=by kernel_rfl
 i53:=by kernel_rfl
 i171:=by kernel_rfl
 i173:=by kernel_rfl
 i212:=by kernel_rfl
 i232:=by kernel_rfl
 i233:=by kernel_rfl
 m17:=by kernel_rfl
 m18:=by kernel_rfl
 m19:=by kernel_rfl}
open Go.RowKit Go.Sort Go.Lib in
theorem Tryz.strconv_Itoa (n:Int) (h0:-9223372036854775808<=n) (h1:n<=9223372036854775807) (w:World) (htab:Lib.TabIs Tryz.prog w "internal/strconv.uint64pow10" .u64 Lib.pow10Tab):
 Calls Tryz.prog 161 #[.int .i64 n] w λe w'=>e= .returned (.string ⟨(Lib.itoa n).toArray⟩)/\∃k os,w'=grow (w.drewN k) os:=Any.strconv_Itoa Tryz.laysM171 n h0 h1 w htab
def Tryz.lays105_ren:Go.Shelf.Ren:=⟨λ|105=>162|212=>223|99=>224|165=>225|166=>226|170=>227|169=>228|263=>282|264=>283|206=>272|240=>284|241=>285|276=>337|277=>338|n=>n,λ|9=>9|3=>3|4=>4|20=>20|0=>0|46=>204|109=>337|5=>5|72=>342|76=>344|51=>248|146=>402|53=>246|148=>404|70=>340|37=>159|75=>333|127=>406|164=>447|80=>191|n=>n,λ|n=>n⟩
theorem Tryz.lays105:Go.Proofs.Lays.n105 Tryz.prog Tryz.lays105_ren:={
 mixed:=by kernel_rfl
 f99:=Tryz.func224.trans (congrArg some (by kernel_rfl))
 f105:=Tryz.func162.trans (congrArg some (by kernel_rfl))
 f165:=Tryz.func225.trans (congrArg some (by kernel_rfl))
 f166:=Tryz.func226.trans (congrArg some (by kernel_rfl))
 f169:=Tryz.func228.trans (congrArg some (by kernel_rfl))
 f170:=Tryz.func227.trans (congrArg some (by kernel_rfl))
 f206:=Tryz.func272.trans (congrArg some (by kernel_rfl))
 f212:=Tryz.func223.trans (congrArg some (by kernel_rfl))
 f240:=Tryz.func284.trans (congrArg some (by kernel_rfl))
 f241:=Tryz.func285.trans (congrArg some (by kernel_rfl))
 f263:=Tryz.func282.trans (congrArg some (by kernel_rfl))
 f264:=Tryz.func283.trans (congrArg some (by kernel_rfl))
 f276:=Tryz.func337.trans (congrArg some (by kernel_rfl))
 f277:=Tryz.func338.trans (congrArg some (by kernel_rfl))
 t0:=Tryz.underlying0
 a0:=Tryz.isAgg0
 z0:=Tryz.sizeOf0
 v0:=Tryz.zeroValue0
 t3:=Tryz.underlying3
 a3:=Tryz.isAgg3
 z3:=Tryz.sizeOf3
 v3:=Tryz.zeroValue3
 t4:=Tryz.underlying4
 a4:=Tryz.isAgg4
 z4:=Tryz.sizeOf4
 v4:=Tryz.zeroValue4
 t5:=Tryz.underlying5
 a5:=Tryz.isAgg5
 z5:=Tryz.sizeOf5
 v5:=Tryz.zeroValue5
 t9:=Tryz.underlying9
 a9:=Tryz.isAgg9
 z9:=Tryz.sizeOf9
 v9:=Tryz.zeroValue9
 t20:=Tryz.underlying20
 a20:=Tryz.isAgg20
 z20:=Tryz.sizeOf20
 v20:=Tryz.zeroValue20
 t37:=Tryz.underlying159
 a37:=Tryz.isAgg159
 z37:=Tryz.sizeOf159
 v37:=Tryz.zeroValue159
 t46:=Tryz.underlying204
 a46:=Tryz.isAgg204
 z46:=Tryz.sizeOf204
 v46:=Tryz.zeroValue204
 t51:=Tryz.underlying248
 a51:=Tryz.isAgg248
 z51:=Tryz.sizeOf248
 v51:=Tryz.zeroValue248
 t53:=Tryz.underlying246
 a53:=Tryz.isAgg246
 z53:=Tryz.sizeOf246
 v53:=Tryz.zeroValue246
 t70:=Tryz.underlying340
 a70:=Tryz.isAgg340
 z70:=Tryz.sizeOf340
 v70:=Tryz.zeroValue340
 t72:=Tryz.underlying342
 a72:=Tryz.isAgg342
 z72:=Tryz.sizeOf342
 v72:=Tryz.zeroValue342
 t75:=Tryz.underlying333
 a75:=Tryz.isAgg333
 z75:=Tryz.sizeOf333
 v75:=Tryz.zeroValue333
 t76:=Tryz.underlying344
 a76:=Tryz.isAgg344
 z76:=Tryz.sizeOf344
 v76:=Tryz.zeroValue344
 t109:=Tryz.underlying337
 a109:=Tryz.isAgg337
 z109:=Tryz.sizeOf337
 v109:=Tryz.zeroValue337
 t127:=Tryz.underlying406
 a127:=Tryz.isAgg406
 z127:=Tryz.sizeOf406
 v127:=Tryz.zeroValue406
 t146:=Tryz.underlying402
 a146:=Tryz.isAgg402
 z146:=Tryz.sizeOf402
 v146:=Tryz.zeroValue402
 t148:=Tryz.underlying404
 a148:=Tryz.isAgg404
 z148:=Tryz.sizeOf404
 v148:=Tryz.zeroValue404
 t164:=Tryz.underlying447
 a164:=Tryz.isAgg447
 z164:=Tryz.sizeOf447
 v164:=Tryz.zeroValue447}
theorem Tryz.Builder_Extra_105:Builder.Extra Tryz.prog Tryz.lays105_ren:={
 sizeBuilder:=by kernel_rfl
 liesBuilder:=by kernel_rfl
 t5:=Tryz.underlying5
 a5:=Tryz.isAgg5
 z5:=Tryz.sizeOf5
 v5:=Tryz.zeroValue5
 infoByte:=by kernel_rfl
 cellsByte:=by kernel_rfl
 sizeByte:=by kernel_rfl
 neB5:=by decide}
open Go.RowKit Go.Lib in
theorem Tryz.strings_Repeat (s:ByteArray) (c:Nat) (w:World) (hc:c<=9223372036854775807) (hlen:s.size*c<=140737488355328):
 Calls Tryz.prog 162 #[.string s,.int .i64 c] w λe w'=>e= .returned (.string ⟨(Lib.repeatL s.data.toList c).toArray⟩)/\Below w.heap.size w w':=Any.strings_Repeat Tryz.lays105 Tryz.Builder_Extra_105 s c w hc hlen
end Go.Proofs
