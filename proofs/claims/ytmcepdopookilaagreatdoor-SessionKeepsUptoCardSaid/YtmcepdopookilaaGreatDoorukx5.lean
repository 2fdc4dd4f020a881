import Derived.Test.YtmcepdopookilaaGreatDoorukx0
import Derived.Shelf.SlSortCmp.Whole1
import Derived.Shelf.Strings.Trim
import Derived.Shelf.Utf8.RuneCount
import Derived.Shelf.Strconv.Itoa3
import Derived.Shelf.Strconv.ToError
import Derived.Shelf.Strconv.ParseUint10Any
import Derived.Shelf.Strconv.ToErrorRange
import Derived.Shelf.Strconv.ParseUint10At
import Derived.Shelf.Pu.ErrVarParseUint
import Derived.Shelf.Strings.Shaped
import Derived.Shelf.Sort.Plain
import Derived.Shelf.Strings.Prefix
import Derived.Shelf.Strings.SplitShaped
import Derived.Shelf.Unicode.Latin
import Derived.Shelf.Strings.Runes
import Derived.Shelf.Strings.AsciiSet
import Derived.Shelf.Strings.Explode
import Derived.Shelf.Unicode.DecodeLast
import Derived.Shelf.Strings.CaseAny
import Derived.Shelf.Strings.BuilderCap
import Derived.Shelf.Slices.Turned
import Derived.Shelf.Slices.Clone
import Derived.Shelf.Slices.Cells
import Derived.Shelf.Slices.In.SortNone
import Derived.Shelf.Slices.Empties2
import Derived.Shelf.SlicesE.Clone
import Derived.Test.YtmcepdopookilaaGreatDoorProg
set_option linter.unusedVariables false
set_option linter.unusedSimpArgs false
set_option linter.defProp false
namespace Go.Proofs
open Go.Shelf
def Tryz.lays159_ren:Go.Shelf.Ren:=⟨fun|159=>417|165=>87|166=>88|167=>430|169=>89|230=>431|204=>432|240=>174|241=>175|197=>408|118=>439|168=>440|270=>441|262=>442|276=>246|277=>247|260=>425|242=>459|313=>460|278=>468|274=>469|275=>470|n=>n,fun|9=>9|4=>4|3=>3|5=>5|72=>164|0=>0|76=>168|75=>167|107=>435|70=>161|20=>20|37=>162|127=>240|21=>21|105=>415|164=>287|162=>466|203=>464|119=>440|46=>255|139=>443|138=>442|51=>277|160=>470|208=>478|206=>476|80=>170|n=>n,fun|13=>8|3=>6|4=>7|n=>n⟩
def Tryz.lays159:Go.Proofs.Lays.n159 Tryz.prog Tryz.lays159_ren:={
 mixed:=by kernel_rfl
 f118:=Tryz.func439.trans qq
 f159:=Tryz.func417.trans qq
 f165:=Tryz.func87.trans qq
 f166:=Tryz.func88.trans qq
 f167:=Tryz.func430.trans qq
 f168:=Tryz.func440.trans qq
 f169:=Tryz.func89.trans qq
 f197:=Tryz.func408.trans qq
 f204:=Tryz.func432.trans qq
 f230:=Tryz.func431.trans qq
 f240:=Tryz.func174.trans qq
 f241:=Tryz.func175.trans qq
 f242:=Tryz.func459.trans qq
 f260:=Tryz.func425.trans qq
 f262:=Tryz.func442.trans qq
 f270:=Tryz.func441.trans qq
 f274:=Tryz.func469.trans qq
 f275:=Tryz.func470.trans qq
 f276:=Tryz.func246.trans qq
 f277:=Tryz.func247.trans qq
 f278:=Tryz.func468.trans qq
 f313:=Tryz.func460.trans qq
 t0:=Tryz.underlying0
 a0:=Tryz.isAgg0
 z0:=Tryz.sizeOf0
 v0:=Tryz.zeroValue0
 t3:=Tryz.underlying3
 a3:=Tryz.isAgg3
 z3:=Tryz.sizeOf3
 v3:=Tryz.zeroValue3
 t4:=Tryz.underlying4
 a4:=Tryz.isAgg4
 z4:=Tryz.sizeOf4
 v4:=Tryz.zeroValue4
 t5:=Tryz.underlying5
 a5:=Tryz.isAgg5
 z5:=Tryz.sizeOf5
 v5:=Tryz.zeroValue5
 t9:=Tryz.underlying9
 a9:=Tryz.isAgg9
 z9:=Tryz.sizeOf9
 v9:=Tryz.zeroValue9
 t20:=Tryz.underlying20
 a20:=Tryz.isAgg20
 z20:=Tryz.sizeOf20
 v20:=Tryz.zeroValue20
 t21:=Tryz.underlying21
 a21:=Tryz.isAgg21
 z21:=Tryz.sizeOf21
 v21:=Tryz.zeroValue21
 t37:=Tryz.underlying162
 a37:=Tryz.isAgg162
 z37:=Tryz.sizeOf162
 v37:=Tryz.zeroValue162
 t46:=Tryz.underlying255
 a46:=Tryz.isAgg255
 z46:=Tryz.sizeOf255
 v46:=Tryz.zeroValue255
 t51:=Tryz.underlying277
 a51:=Tryz.isAgg277
 z51:=Tryz.sizeOf277
 v51:=Tryz.zeroValue277
 t70:=Tryz.underlying161
 a70:=Tryz.isAgg161
 z70:=Tryz.sizeOf161
 v70:=Tryz.zeroValue161
 t72:=Tryz.underlying164
 a72:=Tryz.isAgg164
 z72:=Tryz.sizeOf164
 v72:=Tryz.zeroValue164
 t75:=Tryz.underlying167
 a75:=Tryz.isAgg167
 z75:=Tryz.sizeOf167
 v75:=Tryz.zeroValue167
 t76:=Tryz.underlying168
 a76:=Tryz.isAgg168
 z76:=Tryz.sizeOf168
 v76:=Tryz.zeroValue168
 t105:=Tryz.underlying415
 a105:=Tryz.isAgg415
 z105:=Tryz.sizeOf415
 v105:=Tryz.zeroValue415
 t107:=Tryz.underlying435
 a107:=Tryz.isAgg435
 z107:=Tryz.sizeOf435
 v107:=Tryz.zeroValue435
 t119:=Tryz.underlying440
 a119:=Tryz.isAgg440
 z119:=Tryz.sizeOf440
 t127:=Tryz.underlying240
 a127:=Tryz.isAgg240
 z127:=Tryz.sizeOf240
 v127:=Tryz.zeroValue240
 t138:=Tryz.underlying442
 a138:=Tryz.isAgg442
 z138:=Tryz.sizeOf442
 v138:=Tryz.zeroValue442
 t139:=Tryz.underlying443
 a139:=Tryz.isAgg443
 z139:=Tryz.sizeOf443
 v139:=Tryz.zeroValue443
 t160:=Tryz.underlying470
 a160:=Tryz.isAgg470
 z160:=Tryz.sizeOf470
 v160:=Tryz.zeroValue470
 t162:=Tryz.underlying466
 a162:=Tryz.isAgg466
 z162:=Tryz.sizeOf466
 v162:=Tryz.zeroValue466
 t164:=Tryz.underlying287
 a164:=Tryz.isAgg287
 z164:=Tryz.sizeOf287
 v164:=Tryz.zeroValue287
 t203:=Tryz.underlying464
 a203:=Tryz.isAgg464
 z203:=Tryz.sizeOf464
 v203:=Tryz.zeroValue464
 t206:=Tryz.underlying476
 a206:=Tryz.isAgg476
 z206:=Tryz.sizeOf476
 v206:=Tryz.zeroValue476
 t208:=Tryz.underlying478
 a208:=Tryz.isAgg478
 z208:=Tryz.sizeOf478
 v208:=Tryz.zeroValue478
 g3:=by kernel_rfl
 g4:=by kernel_rfl
 g13:=by kernel_rfl}
def Tryz.Builder_Extra_159:Builder.Extra Tryz.prog Tryz.lays159_ren:={
 sizeBuilder:=by kernel_rfl
 liesBuilder:=by kernel_rfl
 t5:=Tryz.underlying5
 a5:=Tryz.isAgg5
 z5:=Tryz.sizeOf5
 v5:=Tryz.zeroValue5
 infoByte:=by kernel_rfl
 cellsByte:=by kernel_rfl
 sizeByte:=by kernel_rfl
 neB5:=by decide}
open Go.RowKit in
def Tryz.strings_ToLower_ascii(s:ByteArray)(w:World)(hs:s.size<=140737488355328)(hascii:∀(j:Nat) (b:UInt8),s.data.toList[j]? =some b->b.toNat<128):
  Calls Tryz.prog 417 #[.string s] w fun e w'=>e=.returned (.string ⟨(Lib.toLowerA s.data.toList).toArray⟩)/\Below w.heap.size w w':=Any.strings_ToLower_ascii Tryz.lays159 Tryz.Builder_Extra_159 s w hs hascii
def Tryz.lays156_ren:Go.Shelf.Ren:=⟨fun|156=>41|165=>87|166=>88|169=>89|240=>174|241=>175|276=>246|277=>247|n=>n,fun|31=>34|9=>9|3=>3|4=>4|0=>0|20=>20|72=>164|76=>168|70=>161|37=>162|75=>167|127=>240|164=>287|5=>5|80=>170|n=>n,fun|n=>n⟩
def Tryz.lays156:Go.Proofs.Lays.n156 Tryz.prog Tryz.lays156_ren:={
 mixed:=by kernel_rfl
 f156:=Tryz.func41.trans qq
 f165:=Tryz.func87.trans qq
 f166:=Tryz.func88.trans qq
 f169:=Tryz.func89.trans qq
 f240:=Tryz.func174.trans qq
 f241:=Tryz.func175.trans qq
 f276:=Tryz.func246.trans qq
 f277:=Tryz.func247.trans qq
 t0:=Tryz.underlying0
 a0:=Tryz.isAgg0
 z0:=Tryz.sizeOf0
 v0:=Tryz.zeroValue0
 t3:=Tryz.underlying3
 a3:=Tryz.isAgg3
 z3:=Tryz.sizeOf3
 v3:=Tryz.zeroValue3
 t4:=Tryz.underlying4
 a4:=Tryz.isAgg4
 z4:=Tryz.sizeOf4
 v4:=Tryz.zeroValue4
 t9:=Tryz.underlying9
 a9:=Tryz.isAgg9
 z9:=Tryz.sizeOf9
 v9:=Tryz.zeroValue9
 t20:=Tryz.underlying20
 a20:=Tryz.isAgg20
 z20:=Tryz.sizeOf20
 v20:=Tryz.zeroValue20
 t31:=Tryz.underlying34
 a31:=Tryz.isAgg34
 z31:=Tryz.sizeOf34
 v31:=Tryz.zeroValue34
 t37:=Tryz.underlying162
 a37:=Tryz.isAgg162
 z37:=Tryz.sizeOf162
 v37:=Tryz.zeroValue162
 t70:=Tryz.underlying161
 a70:=Tryz.isAgg161
 z70:=Tryz.sizeOf161
 v70:=Tryz.zeroValue161
 t72:=Tryz.underlying164
 a72:=Tryz.isAgg164
 z72:=Tryz.sizeOf164
 v72:=Tryz.zeroValue164
 t75:=Tryz.underlying167
 a75:=Tryz.isAgg167
 z75:=Tryz.sizeOf167
 v75:=Tryz.zeroValue167
 t76:=Tryz.underlying168
 a76:=Tryz.isAgg168
 z76:=Tryz.sizeOf168
 v76:=Tryz.zeroValue168
 t127:=Tryz.underlying240
 a127:=Tryz.isAgg240
 z127:=Tryz.sizeOf240
 v127:=Tryz.zeroValue240
 t164:=Tryz.underlying287
 a164:=Tryz.isAgg287
 z164:=Tryz.sizeOf287
 v164:=Tryz.zeroValue287}
def Tryz.Builder_Extra_156:Builder.Extra Tryz.prog Tryz.lays156_ren:={
 sizeBuilder:=by kernel_rfl
 liesBuilder:=by kernel_rfl
 t5:=Tryz.underlying5
 a5:=Tryz.isAgg5
 z5:=Tryz.sizeOf5
 v5:=Tryz.zeroValue5
 infoByte:=by kernel_rfl
 cellsByte:=by kernel_rfl
 sizeByte:=by kernel_rfl
 neB5:=by decide}
open Go.RowKit in
def Tryz.strings_Join_none(a:Option Addr)(c:Nat)(sep:ByteArray)(w:World):
  Calls Tryz.prog 41 #[.slice a 0 c,.string sep] w fun e w'=>e=.returned (.string ⟨#[]⟩)/\w'=w:=Any.strings_Join_none Tryz.lays156 Tryz.Builder_Extra_156 a c sep w
open Go.RowKit in
def Tryz.strings_Join(bk o c:Nat)(xs:List ByteArray)(sep:ByteArray)(w:World)(hcells:∀(j:Nat) x,xs[j]? =some x->w.cell? ⟨bk,o+j,none⟩=some (.string x))(hbk:bk<w.heap.size)(hN:xs.length<=140737488355328)(hcap:xs.length<=c)(hlen:(Lib.join (xs.map (·.data.toList)) sep.data.toList).length<=140737488355328):
  Calls Tryz.prog 41 #[.slice (some ⟨bk,o,none⟩) xs.length c,.string sep] w fun e w'=>e=.returned (.string ⟨(Lib.join (xs.map (·.data.toList)) sep.data.toList).toArray⟩)/\Below w.heap.size w w':=Any.strings_Join Tryz.lays156 Tryz.Builder_Extra_156 bk o c xs sep w hcells hbk hN hcap hlen
def Tryz.lays125_ren:Go.Shelf.Ren:=⟨fun|125=>191|128=>260|129=>261|n=>n,fun|46=>255|3=>3|51=>277|53=>27|4=>4|5=>5|9=>9|n=>n,fun|n=>n⟩
def Tryz.lays125:Go.Proofs.Lays.n125 Tryz.prog Tryz.lays125_ren:={
 mixed:=by kernel_rfl
 f125:=Tryz.func191.trans qq
 f128:=Tryz.func260.trans qq
 f129:=Tryz.func261.trans qq
 t3:=Tryz.underlying3
 a3:=Tryz.isAgg3
 z3:=Tryz.sizeOf3
 v3:=Tryz.zeroValue3
 t4:=Tryz.underlying4
 a4:=Tryz.isAgg4
 z4:=Tryz.sizeOf4
 v4:=Tryz.zeroValue4
 t5:=Tryz.underlying5
 a5:=Tryz.isAgg5
 z5:=Tryz.sizeOf5
 v5:=Tryz.zeroValue5
 t9:=Tryz.underlying9
 a9:=Tryz.isAgg9
 z9:=Tryz.sizeOf9
 v9:=Tryz.zeroValue9
 t46:=Tryz.underlying255
 a46:=Tryz.isAgg255
 z46:=Tryz.sizeOf255
 v46:=Tryz.zeroValue255
 t51:=Tryz.underlying277
 a51:=Tryz.isAgg277
 z51:=Tryz.sizeOf277
 v51:=Tryz.zeroValue277
 t53:=Tryz.underlying27
 a53:=Tryz.isAgg27
 z53:=Tryz.sizeOf27
 v53:=Tryz.zeroValue27}
def Tryz.bits_Len(x:Int)(w:World)(h0:0<=x)(h1:x<=18446744073709551615):
  Calls Tryz.prog 191 #[.int .u64 x] w fun e w'=>e=.returned (.int .i64 (Lib.bitLen x.toNat))/\w'=w:=Any.bits_Len Tryz.lays125 x w h0 h1
def Tryz.lays213_ren:Go.Shelf.Ren:=⟨fun|213=>192|265=>262|n=>n,fun|9=>9|3=>3|n=>n,fun|n=>n⟩
def Tryz.lays106_ren:Go.Shelf.Ren:=⟨fun|106=>112|213=>192|265=>262|n=>n,fun|9=>9|3=>3|n=>n,fun|n=>n⟩
def Tryz.lays106:Go.Proofs.Lays.n106 Tryz.prog Tryz.lays106_ren:={
 mixed:=by kernel_rfl
 f106:=Tryz.func112.trans qq
 f213:=Tryz.func192.trans qq
 f265:=Tryz.func262.trans qq
 t3:=Tryz.underlying3
 a3:=Tryz.isAgg3
 z3:=Tryz.sizeOf3
 v3:=Tryz.zeroValue3
 t9:=Tryz.underlying9
 a9:=Tryz.isAgg9
 z9:=Tryz.sizeOf9
 v9:=Tryz.zeroValue9}
open Go.RowKit in
def Tryz.strings_Compare(a b:ByteArray)(w:World):
  Calls Tryz.prog 112 #[.string a,.string b] w fun e w'=>e=.returned (.int .i64 (Lib.compareBytes a.data.toList b.data.toList))/\w'=w:=Any.strings_Compare Tryz.lays106 a b w
def Tryz.lays137_ren:Go.Shelf.Ren:=⟨fun|137=>48|217=>100|266=>181|n=>n,fun|9=>9|5=>5|3=>3|n=>n,fun|n=>n⟩
def Tryz.lays137:Go.Proofs.Lays.n137 Tryz.prog Tryz.lays137_ren:={
 mixed:=by kernel_rfl
 f137:=Tryz.func48.trans qq
 f217:=Tryz.func100.trans qq
 f266:=Tryz.func181.trans qq
 t3:=Tryz.underlying3
 a3:=Tryz.isAgg3
 z3:=Tryz.sizeOf3
 v3:=Tryz.zeroValue3
 t5:=Tryz.underlying5
 a5:=Tryz.isAgg5
 z5:=Tryz.sizeOf5
 v5:=Tryz.zeroValue5
 t9:=Tryz.underlying9
 a9:=Tryz.isAgg9
 z9:=Tryz.sizeOf9
 v9:=Tryz.zeroValue9}
open Go.RowKit in
def Tryz.strings_IndexByte(s:ByteArray)(c:Int)(w:World):
  Calls Tryz.prog 48 #[.string s,.int .u8 c] w fun e w'=>e=.returned (.int .i64 (Lib.indexByte s.data.toList c.toNat.toUInt8))/\w'=w:=Any.strings_IndexByte Tryz.lays137 s c w
def Tryz.lays283_ren:Go.Shelf.Ren:=⟨fun|283=>241|n=>n,fun|3=>3|9=>9|4=>4|n=>n,fun|n=>n⟩
def Tryz.lays283:Go.Proofs.Lays.n283 Tryz.prog Tryz.lays283_ren:={
 mixed:=by kernel_rfl
 f283:=Tryz.func241.trans qq
 t3:=Tryz.underlying3
 a3:=Tryz.isAgg3
 z3:=Tryz.sizeOf3
 v3:=Tryz.zeroValue3
 t4:=Tryz.underlying4
 a4:=Tryz.isAgg4
 z4:=Tryz.sizeOf4
 v4:=Tryz.zeroValue4
 t9:=Tryz.underlying9
 a9:=Tryz.isAgg9
 z9:=Tryz.sizeOf9
 v9:=Tryz.zeroValue9}
open Go.Lib in
def Tryz.internal_strconv_small(i:Nat)(h:i<100)(w:World):
  Calls Tryz.prog 241 #[.int .i64 i] w fun e w'=>e=.returned (.string ⟨(Lib.decDigits i).toArray⟩)/\w'=w:=Any.internal_strconv_small Tryz.lays283 i h w
def Tryz.laysM284_ren:Go.Shelf.Ren:=⟨fun|284=>242|129=>261|317=>315|318=>316|n=>n,fun|53=>27|3=>3|212=>348|0=>0|4=>4|46=>255|5=>5|9=>9|n=>n,fun|17=>1|n=>n⟩
def Tryz.laysM284:Go.Proofs.LaysM.n284 Tryz.prog Tryz.laysM284_ren:={
 mixed:=by kernel_rfl
 f129:=Tryz.func261.trans qq
 f284:=Tryz.func242.trans qq
 f317:=Tryz.func315.trans qq
 f318:=Tryz.func316.trans qq
 t0:=Tryz.underlying0
 a0:=Tryz.isAgg0
 z0:=Tryz.sizeOf0
 v0:=Tryz.zeroValue0
 t3:=Tryz.underlying3
 a3:=Tryz.isAgg3
 z3:=Tryz.sizeOf3
 v3:=Tryz.zeroValue3
 t4:=Tryz.underlying4
 a4:=Tryz.isAgg4
 z4:=Tryz.sizeOf4
 v4:=Tryz.zeroValue4
 t5:=Tryz.underlying5
 a5:=Tryz.isAgg5
 z5:=Tryz.sizeOf5
 v5:=Tryz.zeroValue5
 t9:=Tryz.underlying9
 a9:=Tryz.isAgg9
 z9:=Tryz.sizeOf9
 v9:=Tryz.zeroValue9
 t46:=Tryz.underlying255
 a46:=Tryz.isAgg255
 z46:=Tryz.sizeOf255
 v46:=Tryz.zeroValue255
 t53:=Tryz.underlying27
 a53:=Tryz.isAgg27
 z53:=Tryz.sizeOf27
 v53:=Tryz.zeroValue27
 t212:=Tryz.underlying348
 a212:=Tryz.isAgg348
 z212:=Tryz.sizeOf348
 v212:=Tryz.zeroValue348
 g17:=by kernel_rfl
 i0:=by kernel_rfl
 i3:=by kernel_rfl
 i4:=by kernel_rfl
 i5:=by kernel_rfl
 i9:=by kernel_rfl
 i46:=by kernel_rfl
 i53:=by kernel_rfl
 i212:=by kernel_rfl
 m17:=by kernel_rfl}
open Go.Lib in
def Tryz.internal_strconv_numDigits(u:Nat)(h1:1<=u)(h2:u<18446744073709551616)(w:World)(htab:Lib.TabIs Tryz.prog w "internal/strconv.uint64pow10" .u64 Lib.pow10Tab):
  Calls Tryz.prog 242 #[.int .u64 u] w fun e w'=>e=.returned (.int .i64 (Lib.nDigits u))/\w'=w:=Any.internal_strconv_numDigits Tryz.laysM284 u h1 h2 w htab
def Tryz.lays285_ren:Go.Shelf.Ren:=⟨fun|285=>243|n=>n,fun|37=>162|53=>27|3=>3|4=>4|51=>277|9=>9|5=>5|0=>0|n=>n,fun|n=>n⟩
def Tryz.lays285:Go.Proofs.Lays.n285 Tryz.prog Tryz.lays285_ren:={
 mixed:=by kernel_rfl
 f285:=Tryz.func243.trans qq
 t0:=Tryz.underlying0
 a0:=Tryz.isAgg0
 z0:=Tryz.sizeOf0
 v0:=Tryz.zeroValue0
 t3:=Tryz.underlying3
 a3:=Tryz.isAgg3
 z3:=Tryz.sizeOf3
 v3:=Tryz.zeroValue3
 t4:=Tryz.underlying4
 a4:=Tryz.isAgg4
 z4:=Tryz.sizeOf4
 v4:=Tryz.zeroValue4
 t5:=Tryz.underlying5
 a5:=Tryz.isAgg5
 z5:=Tryz.sizeOf5
 v5:=Tryz.zeroValue5
 t9:=Tryz.underlying9
 a9:=Tryz.isAgg9
 z9:=Tryz.sizeOf9
 v9:=Tryz.zeroValue9
 t37:=Tryz.underlying162
 a37:=Tryz.isAgg162
 z37:=Tryz.sizeOf162
 v37:=Tryz.zeroValue162
 t51:=Tryz.underlying277
 a51:=Tryz.isAgg277
 z51:=Tryz.sizeOf277
 v51:=Tryz.zeroValue277
 t53:=Tryz.underlying27
 a53:=Tryz.isAgg27
 z53:=Tryz.sizeOf27
 v53:=Tryz.zeroValue27}
open Go.RowKit Go.Sort Go.Lib in
def Tryz.internal_strconv_formatBase10(blk off cap:Nat)(u:Nat)(d:Array UInt8)(w:World)(hH:Holds (fun(b:UInt8)=>Value.int .u8 (b.toNat:Int)) w blk off d)(hu:u<10^d.size)(hu64:u<18446744073709551616)(hsz:d.size<4611686018427387904):
  Calls Tryz.prog 243 #[.slice (some ⟨blk,off,none⟩) d.size cap,.int .u64 u] w fun e w'=>
   e=.returned (.tuple #[])/\∃(n v':Nat) (dk:Array UInt8),w'=(putRow (fun(b:UInt8)=>Value.int .u8 (b.toNat:Int)) w blk off dk).drewN n/\FmtInv d.size u 0 v' dk:=Any.internal_strconv_formatBase10 Tryz.lays285 blk off cap u d w hH hu hu64 hsz
def Tryz.laysC245_ren:Go.Shelf.Ren:=⟨fun|245=>322|279=>375|280=>376|281=>377|282=>378|316=>411|171=>173|205=>412|243=>245|246=>319|283=>241|284=>242|285=>243|286=>244|129=>261|317=>315|318=>316|319=>317|320=>318|337=>368|338=>369|n=>n,fun|9=>9|3=>3|75=>167|167=>386|4=>4|168=>388|210=>418|37=>162|0=>0|127=>240|145=>431|143=>429|2=>2|171=>282|53=>27|5=>5|173=>285|212=>348|51=>277|20=>20|213=>349|46=>255|232=>281|233=>414|80=>170|n=>n,fun|15=>4|16=>5|17=>1|18=>2|19=>3|n=>n⟩
def Tryz.laysC245:Go.Proofs.LaysC.n245 Tryz.prog Tryz.laysC245_ren:={
 mixed:=by kernel_rfl
 f129:=Tryz.func261.trans qq
 f171:=Tryz.func173.trans qq
 f205:=Tryz.func412.trans qq
 f243:=Tryz.func245.trans qq
 f245:=Tryz.func322.trans qq
 f246:=Tryz.func319.trans qq
 f279:=Tryz.func375.trans qq
 f280:=Tryz.func376.trans qq
 f281:=Tryz.func377.trans qq
 f282:=Tryz.func378.trans qq
 f283:=Tryz.func241.trans qq
 f284:=Tryz.func242.trans qq
 f285:=Tryz.func243.trans qq
 f286:=Tryz.func244.trans qq
 f316:=Tryz.func411.trans qq
 f317:=Tryz.func315.trans qq
 f318:=Tryz.func316.trans qq
 f319:=Tryz.func317.trans qq
 f320:=Tryz.func318.trans qq
 f337:=Tryz.func368.trans qq
 f338:=Tryz.func369.trans qq
 t0:=Tryz.underlying0
 a0:=Tryz.isAgg0
 z0:=Tryz.sizeOf0
 v0:=Tryz.zeroValue0
 t2:=Tryz.underlying2
 a2:=Tryz.isAgg2
 z2:=Tryz.sizeOf2
 v2:=Tryz.zeroValue2
 t3:=Tryz.underlying3
 a3:=Tryz.isAgg3
 z3:=Tryz.sizeOf3
 v3:=Tryz.zeroValue3
 t4:=Tryz.underlying4
 a4:=Tryz.isAgg4
 z4:=Tryz.sizeOf4
 v4:=Tryz.zeroValue4
 t5:=Tryz.underlying5
 a5:=Tryz.isAgg5
 z5:=Tryz.sizeOf5
 v5:=Tryz.zeroValue5
 t9:=Tryz.underlying9
 a9:=Tryz.isAgg9
 z9:=Tryz.sizeOf9
 v9:=Tryz.zeroValue9
 t20:=Tryz.underlying20
 a20:=Tryz.isAgg20
 z20:=Tryz.sizeOf20
 v20:=Tryz.zeroValue20
 t37:=Tryz.underlying162
 a37:=Tryz.isAgg162
 z37:=Tryz.sizeOf162
 v37:=Tryz.zeroValue162
 t46:=Tryz.underlying255
 a46:=Tryz.isAgg255
 z46:=Tryz.sizeOf255
 v46:=Tryz.zeroValue255
 t51:=Tryz.underlying277
 a51:=Tryz.isAgg277
 z51:=Tryz.sizeOf277
 v51:=Tryz.zeroValue277
 t53:=Tryz.underlying27
 a53:=Tryz.isAgg27
 z53:=Tryz.sizeOf27
 v53:=Tryz.zeroValue27
 t75:=Tryz.underlying167
 a75:=Tryz.isAgg167
 z75:=Tryz.sizeOf167
 v75:=Tryz.zeroValue167
 t127:=Tryz.underlying240
 a127:=Tryz.isAgg240
 z127:=Tryz.sizeOf240
 v127:=Tryz.zeroValue240
 t143:=Tryz.underlying429
 a143:=Tryz.isAgg429
 z143:=Tryz.sizeOf429
 v143:=Tryz.zeroValue429
 t145:=Tryz.underlying431
 a145:=Tryz.isAgg431
 z145:=Tryz.sizeOf431
 v145:=Tryz.zeroValue431
 t167:=Tryz.underlying386
 a167:=Tryz.isAgg386
 z167:=Tryz.sizeOf386
 v167:=Tryz.zeroValue386
 t168:=Tryz.underlying388
 a168:=Tryz.isAgg388
 z168:=Tryz.sizeOf388
 v168:=Tryz.zeroValue388
 t171:=Tryz.underlying282
 a171:=Tryz.isAgg282
 z171:=Tryz.sizeOf282
 v171:=Tryz.zeroValue282
 t173:=Tryz.underlying285
 a173:=Tryz.isAgg285
 z173:=Tryz.sizeOf285
 v173:=Tryz.zeroValue285
 t210:=Tryz.underlying418
 a210:=Tryz.isAgg418
 z210:=Tryz.sizeOf418
 v210:=Tryz.zeroValue418
 t212:=Tryz.underlying348
 a212:=Tryz.isAgg348
 z212:=Tryz.sizeOf348
 v212:=Tryz.zeroValue348
 t213:=Tryz.underlying349
 a213:=Tryz.isAgg349
 z213:=Tryz.sizeOf349
 t232:=Tryz.underlying281
 a232:=Tryz.isAgg281
 z232:=Tryz.sizeOf281
 v232:=Tryz.zeroValue281
 t233:=Tryz.underlying414
 a233:=Tryz.isAgg414
 z233:=Tryz.sizeOf414
 v233:=Tryz.zeroValue414
 g15:=by kernel_rfl
 g16:=by kernel_rfl
 g17:=by kernel_rfl
 g18:=by kernel_rfl
 g19:=by kernel_rfl
 t80:=Tryz.underlying170
 a80:=Tryz.isAgg170
 z80:=Tryz.sizeOf170
 v80:=Tryz.zeroValue170
 i0:=by kernel_rfl
 i2:=by kernel_rfl
 i3:=by kernel_rfl
 i4:=by kernel_rfl
 i5:=by kernel_rfl
 i9:=by kernel_rfl
 i20:=by kernel_rfl
 i37:=by kernel_rfl
 i46:=by kernel_rfl
 i51:=by kernel_rfl
 i53:=by kernel_rfl
 i75:=by kernel_rfl
 i80:=by kernel_rfl
 i127:=by kernel_rfl
 i143:=by kernel_rfl
 i145:=by kernel_rfl
 i167:=by kernel_rfl
 i168:=by kernel_rfl
 i171:=by kernel_rfl
 i173:=by kernel_rfl
 i210:=by kernel_rfl
 i212:=by kernel_rfl
 i232:=by kernel_rfl
 i233:=by kernel_rfl
 m15:=by kernel_rfl
 m16:=by kernel_rfl
 m17:=by kernel_rfl
 m18:=by kernel_rfl
 m19:=by kernel_rfl
 c0:=by kernel_rfl
 c2:=by kernel_rfl
 c3:=by kernel_rfl
 c4:=by kernel_rfl
 c5:=by kernel_rfl
 c9:=by kernel_rfl
 c20:=by kernel_rfl
 c37:=by kernel_rfl
 c46:=by kernel_rfl
 c51:=by kernel_rfl
 c53:=by kernel_rfl
 c75:=by kernel_rfl
 c80:=by kernel_rfl
 c127:=by kernel_rfl
 c143:=by kernel_rfl
 c145:=by kernel_rfl
 c167:=by kernel_rfl
 c168:=by kernel_rfl
 c171:=by kernel_rfl
 c173:=by kernel_rfl
 c210:=by kernel_rfl
 c212:=by kernel_rfl
 c213:=by kernel_rfl
 c232:=by kernel_rfl
 c233:=by kernel_rfl}
open Go.RowKit in
def Tryz.strconv_toError_syntax(fn s:ByteArray)(base bits:Int)(ev:Value)(w:World)(hlim:s.size<=281474976710656)(hv:w.cell? ⟨4,0,none⟩=some ev)(hev:ev=.nilIface\/∃te pe,ev=.iface te pe):
  Calls Tryz.prog 322 #[.string fn,.string s,.int .i64 base,.int .i64 bits,.iface 386 (.int .i64 2)] w fun e w'=>∃N,e=.returned (.iface 388 (.pointer (some ⟨N,0,none⟩)))/\w.heap.size<=N/\w'.heap[N]? =some (.cells #[.string fn,.string s,ev] 418 (0,0))/\Below w.heap.size w w':=Any.strconv_toError_syntax Tryz.laysC245 fn s base bits ev w hlim hv hev
def Tryz.lays321_ren:Go.Shelf.Ren:=⟨fun|321=>373|n=>n,fun|5=>5|n=>n,fun|n=>n⟩
def Tryz.lays321:Go.Proofs.Lays.n321 Tryz.prog Tryz.lays321_ren:={
 mixed:=by kernel_rfl
 f321:=Tryz.func373.trans qq
 t5:=Tryz.underlying5
 a5:=Tryz.isAgg5
 z5:=Tryz.sizeOf5
 v5:=Tryz.zeroValue5}
open Go.RowKit in
def Tryz.internal_strconv_lower(c:Int)(w:World):
  Calls Tryz.prog 373 #[.int .u8 c] w fun e w'=>e=.returned (.int .u8 (bits .or .u8 c 32))/\w'=w:=Any.internal_strconv_lower Tryz.lays321 c w
open Go.RowKit in
def Tryz.strconv_toError_range(fn s:ByteArray)(base bits:Int)(ev:Value)(w:World)(hlim:s.size<=281474976710656)(hv:w.cell? ⟨5,0,none⟩=some ev)(hev:ev=.nilIface\/∃te pe,ev=.iface te pe):
  Calls Tryz.prog 322 #[.string fn,.string s,.int .i64 base,.int .i64 bits,.iface 386 (.int .i64 1)] w fun e w'=>∃N,e=.returned (.iface 388 (.pointer (some ⟨N,0,none⟩)))/\w.heap.size<=N/\w'.heap[N]? =some (.cells #[.string fn,.string s,ev] 418 (0,0))/\Below w.heap.size w w':=Any.strconv_toError_range Tryz.laysC245 fn s base bits ev w hlim hv hev
def Tryz.lays219_ren:Go.Shelf.Ren:=⟨fun|219=>410|217=>100|225=>426|224=>427|267=>428|266=>181|314=>438|n=>n,fun|9=>9|3=>3|4=>4|5=>5|46=>255|146=>444|51=>277|n=>n,fun|1=>0|n=>n⟩
def Tryz.lays143_ren:Go.Shelf.Ren:=⟨fun|143=>372|219=>410|217=>100|225=>426|224=>427|267=>428|266=>181|314=>438|n=>n,fun|9=>9|3=>3|4=>4|5=>5|46=>255|146=>444|51=>277|n=>n,fun|1=>0|n=>n⟩
def Tryz.lays143:Go.Proofs.Lays.n143 Tryz.prog Tryz.lays143_ren:={
 mixed:=by kernel_rfl
 f143:=Tryz.func372.trans qq
 f217:=Tryz.func100.trans qq
 f219:=Tryz.func410.trans qq
 f224:=Tryz.func427.trans qq
 f225:=Tryz.func426.trans qq
 f266:=Tryz.func181.trans qq
 f267:=Tryz.func428.trans qq
 f314:=Tryz.func438.trans qq
 t3:=Tryz.underlying3
 a3:=Tryz.isAgg3
 z3:=Tryz.sizeOf3
 v3:=Tryz.zeroValue3
 t4:=Tryz.underlying4
 a4:=Tryz.isAgg4
 z4:=Tryz.sizeOf4
 v4:=Tryz.zeroValue4
 t5:=Tryz.underlying5
 a5:=Tryz.isAgg5
 z5:=Tryz.sizeOf5
 v5:=Tryz.zeroValue5
 t9:=Tryz.underlying9
 a9:=Tryz.isAgg9
 z9:=Tryz.sizeOf9
 v9:=Tryz.zeroValue9
 t46:=Tryz.underlying255
 a46:=Tryz.isAgg255
 z46:=Tryz.sizeOf255
 v46:=Tryz.zeroValue255
 t51:=Tryz.underlying277
 a51:=Tryz.isAgg277
 z51:=Tryz.sizeOf277
 v51:=Tryz.zeroValue277
 t146:=Tryz.underlying444
 a146:=Tryz.isAgg444
 z146:=Tryz.sizeOf444
 v146:=Tryz.zeroValue444
 g1:=by kernel_rfl}
open Go.RowKit Go.Lib in
def Tryz.strings_Index(s sub:ByteArray)(m:Int)(w:World)(hs:s.size<4294967281)(hm:w.cell? ⟨0,0,none⟩=some (.int .i64 m)):
  Calls Tryz.prog 372 #[.string s,.string sub] w fun e w'=>e=.returned (.int .i64 (Lib.index s.data.toList sub.data.toList))/\w'=w:=Any.strings_Index Tryz.lays143 s sub m w hs hm
def Tryz.lays144_ren:Go.Shelf.Ren:=⟨fun|144=>348|143=>372|219=>410|217=>100|225=>426|224=>427|267=>428|266=>181|314=>438|n=>n,fun|9=>9|4=>4|3=>3|5=>5|46=>255|146=>444|51=>277|n=>n,fun|1=>0|n=>n⟩
def Tryz.lays144:Go.Proofs.Lays.n144 Tryz.prog Tryz.lays144_ren:={
 mixed:=by kernel_rfl
 f143:=Tryz.func372.trans qq
 f144:=Tryz.func348.trans qq
 f217:=Tryz.func100.trans qq
 f219:=Tryz.func410.trans qq
 f224:=Tryz.func427.trans qq
 f225:=Tryz.func426.trans qq
 f266:=Tryz.func181.trans qq
 f267:=Tryz.func428.trans qq
 f314:=Tryz.func438.trans qq
 t3:=Tryz.underlying3
 a3:=Tryz.isAgg3
 z3:=Tryz.sizeOf3
 v3:=Tryz.zeroValue3
 t4:=Tryz.underlying4
 a4:=Tryz.isAgg4
 z4:=Tryz.sizeOf4
 v4:=Tryz.zeroValue4
 t5:=Tryz.underlying5
 a5:=Tryz.isAgg5
 z5:=Tryz.sizeOf5
 v5:=Tryz.zeroValue5
 t9:=Tryz.underlying9
 a9:=Tryz.isAgg9
 z9:=Tryz.sizeOf9
 v9:=Tryz.zeroValue9
 t46:=Tryz.underlying255
 a46:=Tryz.isAgg255
 z46:=Tryz.sizeOf255
 v46:=Tryz.zeroValue255
 t51:=Tryz.underlying277
 a51:=Tryz.isAgg277
 z51:=Tryz.sizeOf277
 v51:=Tryz.zeroValue277
 t146:=Tryz.underlying444
 a146:=Tryz.isAgg444
 z146:=Tryz.sizeOf444
 v146:=Tryz.zeroValue444
 g1:=by kernel_rfl}
open Go.RowKit Go.Lib in
def Tryz.strings_Contains_one(s:ByteArray)(c:UInt8)(w:World):
  Calls Tryz.prog 348 #[.string s,.string ⟨#[c]⟩] w fun e w'=>e=.returned (.bool (decide (0<=Lib.indexByte s.data.toList c)))/\w'=w:=Any.strings_Contains_one Tryz.lays144 s c w
open Go.RowKit Go.Lib in
def Tryz.strings_Contains(s sub:ByteArray)(m:Int)(w:World)(hs:s.size<4294967281)(hm:w.cell? ⟨0,0,none⟩=some (.int .i64 m)):
  Calls Tryz.prog 348 #[.string s,.string sub] w fun e w'=>e=.returned (.bool (Lib.contains s.data.toList sub.data.toList))/\w'=w:=Any.strings_Contains Tryz.lays144 s sub m w hs hm
def Tryz.lays145_ren:Go.Shelf.Ren:=⟨fun|145=>394|220=>419|219=>410|217=>100|225=>426|224=>427|267=>428|266=>181|314=>438|n=>n,fun|9=>9|4=>4|59=>402|3=>3|5=>5|46=>255|146=>444|51=>277|n=>n,fun|1=>0|n=>n⟩
def Tryz.lays145:Go.Proofs.Lays.n145 Tryz.prog Tryz.lays145_ren:={
 mixed:=by kernel_rfl
 f145:=Tryz.func394.trans qq
 f217:=Tryz.func100.trans qq
 f219:=Tryz.func410.trans qq
 f220:=Tryz.func419.trans qq
 f224:=Tryz.func427.trans qq
 f225:=Tryz.func426.trans qq
 f266:=Tryz.func181.trans qq
 f267:=Tryz.func428.trans qq
 f314:=Tryz.func438.trans qq
 t3:=Tryz.underlying3
 a3:=Tryz.isAgg3
 z3:=Tryz.sizeOf3
 v3:=Tryz.zeroValue3
 t4:=Tryz.underlying4
 a4:=Tryz.isAgg4
 z4:=Tryz.sizeOf4
 v4:=Tryz.zeroValue4
 t5:=Tryz.underlying5
 a5:=Tryz.isAgg5
 z5:=Tryz.sizeOf5
 v5:=Tryz.zeroValue5
 t9:=Tryz.underlying9
 a9:=Tryz.isAgg9
 z9:=Tryz.sizeOf9
 v9:=Tryz.zeroValue9
 t46:=Tryz.underlying255
 a46:=Tryz.isAgg255
 z46:=Tryz.sizeOf255
 v46:=Tryz.zeroValue255
 t51:=Tryz.underlying277
 a51:=Tryz.isAgg277
 z51:=Tryz.sizeOf277
 v51:=Tryz.zeroValue277
 t59:=Tryz.underlying402
 a59:=Tryz.isAgg402
 z59:=Tryz.sizeOf402
 v59:=Tryz.zeroValue402
 t146:=Tryz.underlying444
 a146:=Tryz.isAgg444
 z146:=Tryz.sizeOf444
 v146:=Tryz.zeroValue444
 g1:=by kernel_rfl}
open Go.RowKit Go.Lib in
def Tryz.strings_Cut(s sep:ByteArray)(m:Int)(w:World)(hs:s.size<4294967281)(hm:w.cell? ⟨0,0,none⟩=some (.int .i64 m)):
  Calls Tryz.prog 394 #[.string s,.string sep] w fun e w'=>e=.returned (.tuple #[.string ⟨(Lib.cut s.data.toList sep.data.toList).1.toArray⟩,.string ⟨(Lib.cut s.data.toList sep.data.toList).2.1.toArray⟩,.bool (Lib.cut s.data.toList sep.data.toList).2.2])/\∃n,w'=w.drewN n:=Any.strings_Cut Tryz.lays145 s sep m w hs hm
def Tryz.lays190_ren:Go.Shelf.Ren:=⟨fun|190=>161|125=>191|258=>231|128=>260|129=>261|302=>292|303=>293|304=>294|305=>295|306=>296|307=>297|308=>298|309=>299|310=>300|333=>353|329=>332|330=>333|334=>354|335=>355|336=>356|344=>400|n=>n,fun|31=>34|9=>9|3=>3|46=>255|0=>0|51=>277|53=>27|4=>4|183=>297|182=>296|131=>301|5=>5|218=>359|222=>362|228=>393|229=>394|n=>n,fun|n=>n⟩
def Tryz.lays190:Go.Proofs.Lays.n190 Tryz.prog Tryz.lays190_ren:={
 mixed:=by kernel_rfl
 f125:=Tryz.func191.trans qq
 f128:=Tryz.func260.trans qq
 f129:=Tryz.func261.trans qq
 f190:=Tryz.func161.trans qq
 f258:=Tryz.func231.trans qq
 f302:=Tryz.func292.trans qq
 f303:=Tryz.func293.trans qq
 f304:=Tryz.func294.trans qq
 f305:=Tryz.func295.trans qq
 f306:=Tryz.func296.trans qq
 f307:=Tryz.func297.trans qq
 f308:=Tryz.func298.trans qq
 f309:=Tryz.func299.trans qq
 f310:=Tryz.func300.trans qq
 f329:=Tryz.func332.trans qq
 f330:=Tryz.func333.trans qq
 f333:=Tryz.func353.trans qq
 f334:=Tryz.func354.trans qq
 f335:=Tryz.func355.trans qq
 f336:=Tryz.func356.trans qq
 f344:=Tryz.func400.trans qq
 t0:=Tryz.underlying0
 a0:=Tryz.isAgg0
 z0:=Tryz.sizeOf0
 v0:=Tryz.zeroValue0
 t3:=Tryz.underlying3
 a3:=Tryz.isAgg3
 z3:=Tryz.sizeOf3
 v3:=Tryz.zeroValue3
 t4:=Tryz.underlying4
 a4:=Tryz.isAgg4
 z4:=Tryz.sizeOf4
 v4:=Tryz.zeroValue4
 t5:=Tryz.underlying5
 a5:=Tryz.isAgg5
 z5:=Tryz.sizeOf5
 v5:=Tryz.zeroValue5
 t9:=Tryz.underlying9
 a9:=Tryz.isAgg9
 z9:=Tryz.sizeOf9
 v9:=Tryz.zeroValue9
 t31:=Tryz.underlying34
 a31:=Tryz.isAgg34
 z31:=Tryz.sizeOf34
 v31:=Tryz.zeroValue34
 t46:=Tryz.underlying255
 a46:=Tryz.isAgg255
 z46:=Tryz.sizeOf255
 v46:=Tryz.zeroValue255
 t51:=Tryz.underlying277
 a51:=Tryz.isAgg277
 z51:=Tryz.sizeOf277
 v51:=Tryz.zeroValue277
 t53:=Tryz.underlying27
 a53:=Tryz.isAgg27
 z53:=Tryz.sizeOf27
 v53:=Tryz.zeroValue27
 t131:=Tryz.underlying301
 a131:=Tryz.isAgg301
 z131:=Tryz.sizeOf301
 v131:=Tryz.zeroValue301
 t182:=Tryz.underlying296
 a182:=Tryz.isAgg296
 z182:=Tryz.sizeOf296
 v182:=Tryz.zeroValue296
 t183:=Tryz.underlying297
 a183:=Tryz.isAgg297
 z183:=Tryz.sizeOf297
 v183:=Tryz.zeroValue297
 t218:=Tryz.underlying359
 a218:=Tryz.isAgg359
 z218:=Tryz.sizeOf359
 v218:=Tryz.zeroValue359
 t222:=Tryz.underlying362
 a222:=Tryz.isAgg362
 z222:=Tryz.sizeOf362
 v222:=Tryz.zeroValue362
 t228:=Tryz.underlying393
 a228:=Tryz.isAgg393
 z228:=Tryz.sizeOf393
 v228:=Tryz.zeroValue393
 t229:=Tryz.underlying394
 a229:=Tryz.isAgg394
 z229:=Tryz.sizeOf394
 v229:=Tryz.zeroValue394}
open Go.Sort Go.RowKit in
def Tryz.slices_Sort_string(blk off cap:Nat)(ss:List (List UInt8))(w:World)(hH:Holds encStr w blk off ss.toArray)(hblk:blk<w.heap.size)(hsz:ss.length<4611686018427387904):
  Calls Tryz.prog 161 #[.slice (some ⟨blk,off,none⟩) ss.length cap] w fun e w'=>
   e=.returned (.tuple #[])/\∃n os,w'=grow (putRow encStr (Sort.ahead w n) blk off (ss.mergeSort fun x y=>decide (x<=y)).toArray) os:=Any.slices_Sort_string Tryz.lays190 blk off cap ss w hH hblk hsz
def Tryz.lays206_ren:Go.Shelf.Ren:=⟨fun|206=>176|n=>n,fun|9=>9|4=>4|3=>3|n=>n,fun|n=>n⟩
def Tryz.lays99_ren:Go.Shelf.Ren:=⟨fun|99=>90|206=>176|n=>n,fun|9=>9|4=>4|3=>3|n=>n,fun|n=>n⟩
def Tryz.lays99:Go.Proofs.Lays.n99 Tryz.prog Tryz.lays99_ren:={
 mixed:=by kernel_rfl
 f99:=Tryz.func90.trans qq
 f206:=Tryz.func176.trans qq
 t3:=Tryz.underlying3
 a3:=Tryz.isAgg3
 z3:=Tryz.sizeOf3
 v3:=Tryz.zeroValue3
 t4:=Tryz.underlying4
 a4:=Tryz.isAgg4
 z4:=Tryz.sizeOf4
 v4:=Tryz.zeroValue4
 t9:=Tryz.underlying9
 a9:=Tryz.isAgg9
 z9:=Tryz.sizeOf9
 v9:=Tryz.zeroValue9}
open Go.RowKit Go.Lib in
def Tryz.strings_HasPrefix(s p:ByteArray)(w:World):
  Calls Tryz.prog 90 #[.string s,.string p] w fun e w'=>e=.returned (.bool (Lib.hasPrefix s.data.toList p.data.toList))/\w'=w:=Any.strings_HasPrefix Tryz.lays99 s p w
def Tryz.lays221_ren:Go.Shelf.Ren:=⟨fun|221=>320|268=>370|138=>371|143=>372|195=>407|197=>408|218=>409|219=>410|260=>425|217=>100|225=>426|224=>427|267=>428|266=>181|314=>438|n=>n,fun|9=>9|3=>3|31=>34|4=>4|0=>0|105=>415|21=>21|5=>5|46=>255|119=>440|139=>443|138=>442|146=>444|51=>277|n=>n,fun|1=>0|3=>6|4=>7|n=>n⟩
def Tryz.lays146_ren:Go.Shelf.Ren:=⟨fun|146=>248|221=>320|268=>370|138=>371|143=>372|195=>407|197=>408|218=>409|219=>410|260=>425|217=>100|225=>426|224=>427|267=>428|266=>181|314=>438|n=>n,fun|9=>9|31=>34|3=>3|4=>4|0=>0|105=>415|21=>21|5=>5|46=>255|119=>440|139=>443|138=>442|146=>444|51=>277|n=>n,fun|1=>0|3=>6|4=>7|n=>n⟩
def Tryz.lays146:Go.Proofs.Lays.n146 Tryz.prog Tryz.lays146_ren:={
 mixed:=by kernel_rfl
 f138:=Tryz.func371.trans qq
 f143:=Tryz.func372.trans qq
 f146:=Tryz.func248.trans qq
 f195:=Tryz.func407.trans qq
 f197:=Tryz.func408.trans qq
 f217:=Tryz.func100.trans qq
 f218:=Tryz.func409.trans qq
 f219:=Tryz.func410.trans qq
 f221:=Tryz.func320.trans qq
 f224:=Tryz.func427.trans qq
 f225:=Tryz.func426.trans qq
 f260:=Tryz.func425.trans qq
 f266:=Tryz.func181.trans qq
 f267:=Tryz.func428.trans qq
 f268:=Tryz.func370.trans qq
 f314:=Tryz.func438.trans qq
 t0:=Tryz.underlying0
 a0:=Tryz.isAgg0
 z0:=Tryz.sizeOf0
 v0:=Tryz.zeroValue0
 t3:=Tryz.underlying3
 a3:=Tryz.isAgg3
 z3:=Tryz.sizeOf3
 v3:=Tryz.zeroValue3
 t4:=Tryz.underlying4
 a4:=Tryz.isAgg4
 z4:=Tryz.sizeOf4
 v4:=Tryz.zeroValue4
 t5:=Tryz.underlying5
 a5:=Tryz.isAgg5
 z5:=Tryz.sizeOf5
 v5:=Tryz.zeroValue5
 t9:=Tryz.underlying9
 a9:=Tryz.isAgg9
 z9:=Tryz.sizeOf9
 v9:=Tryz.zeroValue9
 t21:=Tryz.underlying21
 a21:=Tryz.isAgg21
 z21:=Tryz.sizeOf21
 v21:=Tryz.zeroValue21
 t31:=Tryz.underlying34
 a31:=Tryz.isAgg34
 z31:=Tryz.sizeOf34
 v31:=Tryz.zeroValue34
 t46:=Tryz.underlying255
 a46:=Tryz.isAgg255
 z46:=Tryz.sizeOf255
 v46:=Tryz.zeroValue255
 t51:=Tryz.underlying277
 a51:=Tryz.isAgg277
 z51:=Tryz.sizeOf277
 v51:=Tryz.zeroValue277
 t105:=Tryz.underlying415
 a105:=Tryz.isAgg415
 z105:=Tryz.sizeOf415
 v105:=Tryz.zeroValue415
 t119:=Tryz.underlying440
 a119:=Tryz.isAgg440
 z119:=Tryz.sizeOf440
 t138:=Tryz.underlying442
 a138:=Tryz.isAgg442
 z138:=Tryz.sizeOf442
 v138:=Tryz.zeroValue442
 t139:=Tryz.underlying443
 a139:=Tryz.isAgg443
 z139:=Tryz.sizeOf443
 v139:=Tryz.zeroValue443
 t146:=Tryz.underlying444
 a146:=Tryz.isAgg444
 z146:=Tryz.sizeOf444
 v146:=Tryz.zeroValue444
 g1:=by kernel_rfl
 g3:=by kernel_rfl
 g4:=by kernel_rfl}
open Go.RowKit Go.Lib in
def Tryz.strings_Split(s sep:ByteArray)(m:Int)(w:World)(hs:s.size<4294967281)(hm:w.cell? ⟨0,0,none⟩=some (.int .i64 m))(h1:1<=sep.size):
  Calls Tryz.prog 248 #[.string s,.string sep] w fun e w'=>
   e=.returned (.slice (some ⟨w.heap.size,0,none⟩) (Lib.countB s sep+1) (Lib.countB s sep+1))/\w'=w.alloc (.cells ((Lib.splitB sep 0 (Lib.countB s sep) s).map Value.string).toArray 9):=Any.strings_Split Tryz.lays146 (by kernel_rfl) s sep m w hs hm h1
def Tryz.lays227_ren:Go.Shelf.Ren:=⟨fun|227=>454|n=>n,fun|9=>9|116=>458|4=>4|0=>0|3=>3|5=>5|n=>n,fun|n=>n⟩
def Tryz.lays227:Go.Proofs.Lays.n227 Tryz.prog Tryz.lays227_ren:={
 mixed:=by kernel_rfl
 f227:=Tryz.func454.trans qq
 t0:=Tryz.underlying0
 a0:=Tryz.isAgg0
 z0:=Tryz.sizeOf0
 v0:=Tryz.zeroValue0
 t3:=Tryz.underlying3
 a3:=Tryz.isAgg3
 z3:=Tryz.sizeOf3
 v3:=Tryz.zeroValue3
 t4:=Tryz.underlying4
 a4:=Tryz.isAgg4
 z4:=Tryz.sizeOf4
 v4:=Tryz.zeroValue4
 t5:=Tryz.underlying5
 a5:=Tryz.isAgg5
 z5:=Tryz.sizeOf5
 v5:=Tryz.zeroValue5
 t9:=Tryz.underlying9
 a9:=Tryz.isAgg9
 z9:=Tryz.sizeOf9
 v9:=Tryz.zeroValue9
 t116:=Tryz.underlying458
 a116:=Tryz.isAgg458
 z116:=Tryz.sizeOf458}
open Go.RowKit Go.Lib in
def Tryz.strings_makeASCIISet(hv116:∀w,(zeroValue 458).run Tryz.prog w=.ok (.agg (Array.replicate 256 (.bool false))) w)(chars:ByteArray)(w:World)(hs:chars.size<4294967281)(hascii:∀(j:Nat) b,chars.data.toList[j]? =some b->b.toNat<128):
  Calls Tryz.prog 454 #[.string chars] w fun e w'=>e=.returned (.tuple #[.agg (Lib.setCells chars.data.toList),.bool true])/\w'=w.alloc (.cells (Lib.setCells chars.data.toList) 458):=Any.strings_makeASCIISet Tryz.lays227 hv116 (by kernel_rfl) chars w hs hascii
def Tryz.lays228_ren:Go.Shelf.Ren:=⟨fun|228=>465|n=>n,fun|124=>462|5=>5|4=>4|0=>0|116=>458|n=>n,fun|n=>n⟩
def Tryz.lays228:Go.Proofs.Lays.n228 Tryz.prog Tryz.lays228_ren:={
 mixed:=by kernel_rfl
 f228:=Tryz.func465.trans qq
 t0:=Tryz.underlying0
 a0:=Tryz.isAgg0
 z0:=Tryz.sizeOf0
 v0:=Tryz.zeroValue0
 t4:=Tryz.underlying4
 a4:=Tryz.isAgg4
 z4:=Tryz.sizeOf4
 v4:=Tryz.zeroValue4
 t5:=Tryz.underlying5
 a5:=Tryz.isAgg5
 z5:=Tryz.sizeOf5
 v5:=Tryz.zeroValue5
 t116:=Tryz.underlying458
 a116:=Tryz.isAgg458
 z116:=Tryz.sizeOf458
 t124:=Tryz.underlying462
 a124:=Tryz.isAgg462
 z124:=Tryz.sizeOf462
 v124:=Tryz.zeroValue462}
open Go.RowKit Go.Lib in
def Tryz.asciiSet_contains(b:Nat)(x:UInt8)(v:Bool)(w:World)(hc:w.cell? ⟨b,x.toNat,none⟩=some (.bool v)):
  Calls Tryz.prog 465 #[.pointer (some ⟨b,0,none⟩),.int .u8 x.toNat] w fun e w'=>e=.returned (.bool v)/\w'=w:=Any.asciiSet_contains Tryz.lays228 b x v w hc
def Tryz.lays109_ren:Go.Shelf.Ren:=⟨fun|109=>273|n=>n,fun|31=>34|9=>9|3=>3|0=>0|4=>4|n=>n,fun|n=>n⟩
def Tryz.lays109:Go.Proofs.Lays.n109 Tryz.prog Tryz.lays109_ren:={
 mixed:=by kernel_rfl
 f109:=Tryz.func273.trans qq
 t0:=Tryz.underlying0
 a0:=Tryz.isAgg0
 z0:=Tryz.sizeOf0
 v0:=Tryz.zeroValue0
 t3:=Tryz.underlying3
 a3:=Tryz.isAgg3
 z3:=Tryz.sizeOf3
 v3:=Tryz.zeroValue3
 t4:=Tryz.underlying4
 a4:=Tryz.isAgg4
 z4:=Tryz.sizeOf4
 v4:=Tryz.zeroValue4
 t9:=Tryz.underlying9
 a9:=Tryz.isAgg9
 z9:=Tryz.sizeOf9
 v9:=Tryz.zeroValue9
 t31:=Tryz.underlying34
 a31:=Tryz.isAgg34
 z31:=Tryz.sizeOf34
 v31:=Tryz.zeroValue34}
open Go.Lib in
def Tryz.slices_Index_string(b off n c:Nat)(zs:List ByteArray)(x:ByteArray)(w:World)(hz:n<=zs.length)(hbig:n<=9223372036854775807)(hc:∀j,j<zs.length->w.cell? ⟨b,off+j,none⟩=some (.string (zs.getD j ByteArray.empty))):
  Calls Tryz.prog 273 #[.slice (some ⟨b,off,none⟩) n c,.string x] w fun e w'=>e=.returned (.int .i64 (Lib.idxOfS (zs.take n) x))/\w'=w:=Any.slices_Index_string Tryz.lays109 b off n c zs x w hz hbig hc
def Tryz.lays194_ren:Go.Shelf.Ren:=⟨fun|194=>162|n=>n,fun|31=>34|9=>9|3=>3|4=>4|0=>0|n=>n,fun|n=>n⟩
def Tryz.lays194:Go.Proofs.Lays.n194 Tryz.prog Tryz.lays194_ren:={
 mixed:=by kernel_rfl
 f194:=Tryz.func162.trans qq
 t0:=Tryz.underlying0
 a0:=Tryz.isAgg0
 z0:=Tryz.sizeOf0
 v0:=Tryz.zeroValue0
 t3:=Tryz.underlying3
 a3:=Tryz.isAgg3
 z3:=Tryz.sizeOf3
 v3:=Tryz.zeroValue3
 t4:=Tryz.underlying4
 a4:=Tryz.isAgg4
 z4:=Tryz.sizeOf4
 v4:=Tryz.zeroValue4
 t9:=Tryz.underlying9
 a9:=Tryz.isAgg9
 z9:=Tryz.sizeOf9
 v9:=Tryz.zeroValue9
 t31:=Tryz.underlying34
 a31:=Tryz.isAgg34
 z31:=Tryz.sizeOf34
 v31:=Tryz.zeroValue34}
open Go.RowKit Go.Lib Go.Sort in
def Tryz.slices_Compact_string(blk off cap:Nat)(zs:List (List UInt8))(w:World)(hH:Holds encStr w blk off zs.toArray)(hsz:zs.length<=9223372036854775807)(hcap:zs.length<=cap):
  Calls Tryz.prog 162 #[.slice (some ⟨blk,off,none⟩) zs.length cap] w fun e w'=>e=.returned (.slice (some ⟨blk,off,none⟩) (Lib.compact zs).length cap)/\∃q,w'=putRow encStr (Sort.ahead w q) blk off (Lib.compact zs++List.replicate (zs.length-(Lib.compact zs).length) []).toArray:=Any.slices_Compact_string Tryz.lays194 blk off cap zs w hH hsz hcap
open Go.RowKit Go.Lib Go.Sort in
def Tryz.slices_Compact_string_empty(a:Option Addr)(cap:Nat)(w:World):
  Calls Tryz.prog 162 #[.slice a 0 cap] w fun e w'=>e=.returned (.slice a 0 cap)/\w'=w:=Any.slices_Compact_string_empty Tryz.lays194 a cap w
open Go.RowKit Go.Sort in
def Tryz.slices_Sort_string_none(p:Option Addr)(cap:Nat)(w:World):
  Calls Tryz.prog 161 #[.slice p 0 cap] w fun e w'=>e=.returned (.tuple #[])/\w'=w:=Any.slices_Sort_string_none Tryz.lays190 p cap w
def Tryz.laysSlF6_f265_ren:Go.Shelf.Ren:=⟨fun|6=>265|15=>191|14=>336|28=>260|29=>261|20=>383|21=>384|22=>385|23=>386|24=>387|25=>388|26=>389|27=>390|46=>414|47=>332|48=>333|49=>415|50=>416|57=>429|n=>n,fun|22=>34|24=>9|25=>187|3=>3|39=>255|0=>0|53=>277|55=>27|4=>4|46=>297|45=>296|50=>301|5=>5|9=>9|66=>359|70=>362|76=>393|77=>394|n=>n,fun|n=>n⟩
def Tryz.laysSlF6_f265:Go.Proofs.SlLaysF.n6 Tryz.prog Tryz.laysSlF6_f265_ren:={
 mixed:=by kernel_rfl
 f6:=⟨Tryz.f265.name,by decide,Tryz.func265.trans qq⟩
 f14:=⟨Tryz.f336.name,by decide,Tryz.func336.trans qq⟩
 f15:=Tryz.func191.trans qq
 f20:=⟨Tryz.f383.name,by decide,Tryz.func383.trans qq⟩
 f21:=⟨Tryz.f384.name,by decide,Tryz.func384.trans qq⟩
 f22:=⟨Tryz.f385.name,by decide,Tryz.func385.trans qq⟩
 f23:=⟨Tryz.f386.name,by decide,Tryz.func386.trans qq⟩
 f24:=⟨Tryz.f387.name,by decide,Tryz.func387.trans qq⟩
 f25:=⟨Tryz.f388.name,by decide,Tryz.func388.trans qq⟩
 f26:=⟨Tryz.f389.name,by decide,Tryz.func389.trans qq⟩
 f27:=⟨Tryz.f390.name,by decide,Tryz.func390.trans qq⟩
 f28:=Tryz.func260.trans qq
 f29:=Tryz.func261.trans qq
 f46:=⟨Tryz.f414.name,by decide,Tryz.func414.trans qq⟩
 f47:=Tryz.func332.trans qq
 f48:=Tryz.func333.trans qq
 f49:=⟨Tryz.f415.name,by decide,Tryz.func415.trans qq⟩
 f50:=⟨Tryz.f416.name,by decide,Tryz.func416.trans qq⟩
 f57:=⟨Tryz.f429.name,by decide,Tryz.func429.trans qq⟩
 t0:=Tryz.underlying0
 a0:=Tryz.isAgg0
 z0:=Tryz.sizeOf0
 v0:=Tryz.zeroValue0
 t3:=Tryz.underlying3
 a3:=Tryz.isAgg3
 z3:=Tryz.sizeOf3
 v3:=Tryz.zeroValue3
 t4:=Tryz.underlying4
 a4:=Tryz.isAgg4
 z4:=Tryz.sizeOf4
 v4:=Tryz.zeroValue4
 t5:=Tryz.underlying5
 a5:=Tryz.isAgg5
 z5:=Tryz.sizeOf5
 v5:=Tryz.zeroValue5
 t9:=Tryz.underlying9
 a9:=Tryz.isAgg9
 z9:=Tryz.sizeOf9
 v9:=Tryz.zeroValue9
 t22:=Tryz.underlying34
 a22:=Tryz.isAgg34
 z22:=Tryz.sizeOf34
 v22:=Tryz.zeroValue34
 a24:=Tryz.isAgg9
 z24:=Tryz.sizeOf9
 t25:=Tryz.underlying187
 a25:=Tryz.isAgg187
 z25:=Tryz.sizeOf187
 v25:=Tryz.zeroValue187
 t39:=Tryz.underlying255
 a39:=Tryz.isAgg255
 z39:=Tryz.sizeOf255
 v39:=Tryz.zeroValue255
 t45:=Tryz.underlying296
 a45:=Tryz.isAgg296
 z45:=Tryz.sizeOf296
 v45:=Tryz.zeroValue296
 t46:=Tryz.underlying297
 a46:=Tryz.isAgg297
 z46:=Tryz.sizeOf297
 v46:=Tryz.zeroValue297
 t50:=Tryz.underlying301
 a50:=Tryz.isAgg301
 z50:=Tryz.sizeOf301
 v50:=Tryz.zeroValue301
 t53:=Tryz.underlying277
 a53:=Tryz.isAgg277
 z53:=Tryz.sizeOf277
 v53:=Tryz.zeroValue277
 t55:=Tryz.underlying27
 a55:=Tryz.isAgg27
 z55:=Tryz.sizeOf27
 v55:=Tryz.zeroValue27
 t66:=Tryz.underlying359
 a66:=Tryz.isAgg359
 z66:=Tryz.sizeOf359
 v66:=Tryz.zeroValue359
 t70:=Tryz.underlying362
 a70:=Tryz.isAgg362
 z70:=Tryz.sizeOf362
 v70:=Tryz.zeroValue362
 t76:=Tryz.underlying393
 a76:=Tryz.isAgg393
 z76:=Tryz.sizeOf393
 v76:=Tryz.zeroValue393
 t77:=Tryz.underlying394
 a77:=Tryz.isAgg394
 z77:=Tryz.sizeOf394
 v77:=Tryz.zeroValue394}
open Go.RowKit Go.Lib Go.Sort in
def Tryz.slices_SortFunc{α:Type}[Inhabited α](enc:α->Value)(h1:OneCell enc)(cf:α->α->Int)(hO:SWO (ltOf cf))(g:Nat)(cb:Array Value)(blk off cap:Nat)(d:Array α)(w:World)(eg:∀args w,(callFunc g args).run Tryz.prog w=.ok (.enter g args) w)(hcmp:CmpLays1 Tryz.prog g cb enc cf blk off d.size w)(hH:Holds enc w blk off d)(hblk:blk<w.heap.size)(hsz:d.size<4611686018427387904):
  Calls Tryz.prog 265 #[.slice (some ⟨blk,off,none⟩) d.size cap,.func (.func g) #[] cb] w fun e w'=>
   e=.returned (.tuple #[])/\∃d' n os,PermIn 0 d.size d d'/\SortedIn (ltOf cf) 0 d.size d'/\w'=sortWorld enc w blk off n d' os:=Any.slices_SortFunc Tryz.laysSlF6_f265 enc h1 cf hO g cb blk off cap d w eg hcmp hH hblk hsz
def Tryz.sortL_ren:Go.Shelf.Ren:=⟨fun|6=>265|15=>191|14=>336|28=>260|29=>261|20=>383|21=>384|22=>385|23=>386|24=>387|25=>388|26=>389|27=>390|46=>414|47=>332|48=>333|49=>415|50=>416|57=>429|n=>n,fun|22=>34|24=>9|25=>187|3=>3|39=>255|0=>0|53=>277|55=>27|4=>4|46=>297|45=>296|50=>301|5=>5|9=>9|66=>359|70=>362|76=>393|77=>394|n=>n,fun|n=>n⟩
def Tryz.sortL:Go.Proofs.SlLaysF.n6 Tryz.prog Tryz.sortL_ren:={
 mixed:=by kernel_rfl
 f6:=⟨Tryz.f265.name,by decide,Tryz.func265.trans qq⟩
 f14:=⟨Tryz.f336.name,by decide,Tryz.func336.trans qq⟩
 f15:=Tryz.func191.trans qq
 f20:=⟨Tryz.f383.name,by decide,Tryz.func383.trans qq⟩
 f21:=⟨Tryz.f384.name,by decide,Tryz.func384.trans qq⟩
 f22:=⟨Tryz.f385.name,by decide,Tryz.func385.trans qq⟩
 f23:=⟨Tryz.f386.name,by decide,Tryz.func386.trans qq⟩
 f24:=⟨Tryz.f387.name,by decide,Tryz.func387.trans qq⟩
 f25:=⟨Tryz.f388.name,by decide,Tryz.func388.trans qq⟩
 f26:=⟨Tryz.f389.name,by decide,Tryz.func389.trans qq⟩
 f27:=⟨Tryz.f390.name,by decide,Tryz.func390.trans qq⟩
 f28:=Tryz.func260.trans qq
 f29:=Tryz.func261.trans qq
 f46:=⟨Tryz.f414.name,by decide,Tryz.func414.trans qq⟩
 f47:=Tryz.func332.trans qq
 f48:=Tryz.func333.trans qq
 f49:=⟨Tryz.f415.name,by decide,Tryz.func415.trans qq⟩
 f50:=⟨Tryz.f416.name,by decide,Tryz.func416.trans qq⟩
 f57:=⟨Tryz.f429.name,by decide,Tryz.func429.trans qq⟩
 t0:=Tryz.underlying0
 a0:=Tryz.isAgg0
 z0:=Tryz.sizeOf0
 v0:=Tryz.zeroValue0
 t3:=Tryz.underlying3
 a3:=Tryz.isAgg3
 z3:=Tryz.sizeOf3
 v3:=Tryz.zeroValue3
 t4:=Tryz.underlying4
 a4:=Tryz.isAgg4
 z4:=Tryz.sizeOf4
 v4:=Tryz.zeroValue4
 t5:=Tryz.underlying5
 a5:=Tryz.isAgg5
 z5:=Tryz.sizeOf5
 v5:=Tryz.zeroValue5
 t9:=Tryz.underlying9
 a9:=Tryz.isAgg9
 z9:=Tryz.sizeOf9
 v9:=Tryz.zeroValue9
 t22:=Tryz.underlying34
 a22:=Tryz.isAgg34
 z22:=Tryz.sizeOf34
 v22:=Tryz.zeroValue34
 a24:=Tryz.isAgg9
 z24:=Tryz.sizeOf9
 t25:=Tryz.underlying187
 a25:=Tryz.isAgg187
 z25:=Tryz.sizeOf187
 v25:=Tryz.zeroValue187
 t39:=Tryz.underlying255
 a39:=Tryz.isAgg255
 z39:=Tryz.sizeOf255
 v39:=Tryz.zeroValue255
 t45:=Tryz.underlying296
 a45:=Tryz.isAgg296
 z45:=Tryz.sizeOf296
 v45:=Tryz.zeroValue296
 t46:=Tryz.underlying297
 a46:=Tryz.isAgg297
 z46:=Tryz.sizeOf297
 v46:=Tryz.zeroValue297
 t50:=Tryz.underlying301
 a50:=Tryz.isAgg301
 z50:=Tryz.sizeOf301
 v50:=Tryz.zeroValue301
 t53:=Tryz.underlying277
 a53:=Tryz.isAgg277
 z53:=Tryz.sizeOf277
 v53:=Tryz.zeroValue277
 t55:=Tryz.underlying27
 a55:=Tryz.isAgg27
 z55:=Tryz.sizeOf27
 v55:=Tryz.zeroValue27
 t66:=Tryz.underlying359
 a66:=Tryz.isAgg359
 z66:=Tryz.sizeOf359
 v66:=Tryz.zeroValue359
 t70:=Tryz.underlying362
 a70:=Tryz.isAgg362
 z70:=Tryz.sizeOf362
 v70:=Tryz.zeroValue362
 t76:=Tryz.underlying393
 a76:=Tryz.isAgg393
 z76:=Tryz.sizeOf393
 v76:=Tryz.zeroValue393
 t77:=Tryz.underlying394
 a77:=Tryz.isAgg394
 z77:=Tryz.sizeOf394
 v77:=Tryz.zeroValue394}
end Go.Proofs
