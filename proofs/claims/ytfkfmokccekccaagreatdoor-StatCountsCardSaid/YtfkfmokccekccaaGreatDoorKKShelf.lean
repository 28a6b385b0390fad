/- The shelf: its contracts for this program, as its tools lay them. -/
import Derived.Shelf.Strings.Builder1
import Derived.Shelf.Strings.Builder2
import Derived.Shelf.Small.Bits
import Derived.Shelf.Small.Strs
import Derived.Shelf.Small.Wraps
import Derived.Shelf.Strings.BuilderF
import Derived.Shelf.Strings.BuilderK
import Derived.Shelf.Strings.Builder2Cap
import Derived.Shelf.Strconv.Itoa0
import Derived.Shelf.Strconv.Itoa1
import Derived.Shelf.LaysM
import Derived.Shelf.Strconv.Itoa2
import Derived.Shelf.Strconv.Itoa3
import Derived.Shelf.Strings.Search1
import Derived.Shelf.Strings.Search2
import Derived.Shelf.Strings.Search3
import Derived.Shelf.Strings.Count
import Derived.Shelf.Strings.Shaped
import Derived.Shelf.Strings.Prefix
import Derived.Shelf.Strings.Split
import Derived.Shelf.Bits.Mul64
import Derived.Shelf.Strings.Repeat
import Derived.Shelf.Unicode.DecodeSlow
import Derived.Shelf.Strings.BuilderCap
import Derived.Ground.Names2Prog
import Derived.Shelf.Slices.SearchI
import Derived.Shelf.SlGeneric
import Derived.Ground.SlgcProg
import Derived.Ground.SlgfProg
import Derived.Ground.SlsfProg
import Derived.Shelf.SlSortCmp.NoneTotal
import Derived.Shelf.SlicesG.Cmp
import Derived.Shelf.SlicesQ.IndexFunc
import Derived.Test.YtfkfmokccekccaaGreatDoorProg
set_option linter.unusedVariables false
set_option linter.unusedSimpArgs false
namespace Go.Proofs.Tryz
open Go.Shelf
theorem tz{i:Nat}{a b:Func}(h:prog.funcs[i]?=some a)(e:a=b:=by kernel_rfl):prog.funcs[i]?=some b:=h.trans (congrArg some e)
def Abk:Go.Shelf.Ren:=⟨fun|170=>95|n=>n,fun|70=>129|3=>3|0=>0|72=>131|37=>57|5=>5|n=>n,fun|n=>n⟩
theorem AkB:Go.Proofs.Lays.n170 prog Abk:={
 mixed:=by kernel_rfl
 f170:=tz func95
 t0:=underlying0
 a0:=isAgg0
 z0:=sizeOf0
 v0:=zeroValue0
 t3:=underlying3
 a3:=isAgg3
 z3:=sizeOf3
 v3:=zeroValue3
 t37:=underlying57
 a37:=isAgg57
 z37:=sizeOf57
 v37:=zeroValue57
 t70:=underlying129
 a70:=isAgg129
 z70:=sizeOf129
 v70:=zeroValue129
 t72:=underlying131
 a72:=isAgg131
 z72:=sizeOf131
 v72:=zeroValue131}
open Go.RowKit in
theorem Builder_Len(B b:Nat)(bs:List Value)(w:World)(h:Lib.IsBuilder 131 5 B b bs w):
  Calls prog 95 #[.pointer (some ⟨b,0,none⟩)] w fun e w'=>e=.returned (.int .i64 bs.length)∧w'=w:=Any.Builder_Len AkB B b bs w h
def SR:Go.Shelf.Ren:=⟨fun|169=>96|n=>n,fun|70=>129|9=>9|0=>0|72=>131|37=>57|127=>175|3=>3|5=>5|n=>n,fun|n=>n⟩
theorem AkA:Go.Proofs.Lays.n169 prog SR:={
 mixed:=by kernel_rfl
 f169:=tz func96
 t0:=underlying0
 a0:=isAgg0
 z0:=sizeOf0
 v0:=zeroValue0
 t3:=underlying3
 a3:=isAgg3
 z3:=sizeOf3
 v3:=zeroValue3
 t9:=underlying9
 a9:=isAgg9
 z9:=sizeOf9
 v9:=zeroValue9
 t37:=underlying57
 a37:=isAgg57
 z37:=sizeOf57
 v37:=zeroValue57
 t70:=underlying129
 a70:=isAgg129
 z70:=sizeOf129
 v70:=zeroValue129
 t72:=underlying131
 a72:=isAgg131
 z72:=sizeOf131
 v72:=zeroValue131
 t127:=underlying175
 a127:=isAgg175
 z127:=sizeOf175
 v127:=zeroValue175}
theorem P3:Builder.Extra prog SR:={
 sizeBuilder:=by kernel_rfl
 liesBuilder:=by kernel_rfl
 t5:=underlying5
 a5:=isAgg5
 z5:=sizeOf5
 v5:=zeroValue5
 infoByte:=by kernel_rfl
 cellsByte:=by kernel_rfl
 sizeByte:=by kernel_rfl
 neB5:=by decide}
open Go.RowKit in
theorem Builder_String_any(B b:Nat)(l:List UInt8)(w:World)(h:Lib.IsBuilder 131 5 B b (Lib.byteCells l) w)(hBw:B≤w.heap.size):
  Calls prog 96 #[.pointer (some ⟨b,0,none⟩)] w fun e w'=>e=.returned (.string ⟨l.toArray⟩)∧Below B w w':=Any.Builder_String_any AkA P3 B b l w h hBw
def Abg:Go.Shelf.Ren:=⟨fun|106=>39|213=>78|265=>120|n=>n,fun|9=>9|3=>3|n=>n,fun|n=>n⟩
theorem Akw:Go.Proofs.Lays.n106 prog Abg:={
 mixed:=by kernel_rfl
 f106:=tz func39
 f213:=tz func78
 f265:=tz func120
 t3:=underlying3
 a3:=isAgg3
 z3:=sizeOf3
 v3:=zeroValue3
 t9:=underlying9
 a9:=isAgg9
 z9:=sizeOf9
 v9:=zeroValue9}
open Go.RowKit in
theorem strings_Compare(a b:ByteArray)(w:World):
  Calls prog 39 #[.string a,.string b] w fun e w'=>e=.returned (.int .i64 (Lib.compareBytes a.data.toList b.data.toList))∧w'=w:=Any.strings_Compare Akw a b w
def Zv:Go.Shelf.Ren:=⟨fun|171=>133|243=>169|246=>197|283=>205|284=>206|285=>207|286=>208|129=>118|317=>215|318=>216|319=>217|320=>218|337=>221|338=>222|n=>n,fun|3=>3|9=>9|2=>2|4=>4|171=>237|0=>0|53=>107|37=>57|5=>5|173=>239|212=>242|51=>162|20=>20|213=>243|46=>79|232=>249|233=>250|n=>n,fun|17=>1|18=>4|19=>5|n=>n⟩
theorem Aiu:Go.Proofs.LaysM.n171 prog Zv:={
 mixed:=by kernel_rfl
 f129:=tz func118
 f171:=tz func133
 f243:=tz func169
 f246:=tz func197
 f283:=tz func205
 f284:=tz func206
 f285:=tz func207
 f286:=tz func208
 f317:=tz func215
 f318:=tz func216
 f319:=tz func217
 f320:=tz func218
 f337:=tz func221
 f338:=tz func222
 t0:=underlying0
 a0:=isAgg0
 z0:=sizeOf0
 v0:=zeroValue0
 t2:=underlying2
 a2:=isAgg2
 z2:=sizeOf2
 v2:=zeroValue2
 t3:=underlying3
 a3:=isAgg3
 z3:=sizeOf3
 v3:=zeroValue3
 t4:=underlying4
 a4:=isAgg4
 z4:=sizeOf4
 v4:=zeroValue4
 t5:=underlying5
 a5:=isAgg5
 z5:=sizeOf5
 v5:=zeroValue5
 t9:=underlying9
 a9:=isAgg9
 z9:=sizeOf9
 v9:=zeroValue9
 t20:=underlying20
 a20:=isAgg20
 z20:=sizeOf20
 v20:=zeroValue20
 t37:=underlying57
 a37:=isAgg57
 z37:=sizeOf57
 v37:=zeroValue57
 t46:=underlying79
 a46:=isAgg79
 z46:=sizeOf79
 v46:=zeroValue79
 t51:=underlying162
 a51:=isAgg162
 z51:=sizeOf162
 v51:=zeroValue162
 t53:=underlying107
 a53:=isAgg107
 z53:=sizeOf107
 v53:=zeroValue107
 t171:=underlying237
 a171:=isAgg237
 z171:=sizeOf237
 v171:=zeroValue237
 t173:=underlying239
 a173:=isAgg239
 z173:=sizeOf239
 v173:=zeroValue239
 t212:=underlying242
 a212:=isAgg242
 z212:=sizeOf242
 v212:=zeroValue242
 t213:=underlying243
 a213:=isAgg243
 z213:=sizeOf243
 t232:=underlying249
 a232:=isAgg249
 z232:=sizeOf249
 v232:=zeroValue249
 t233:=underlying250
 a233:=isAgg250
 z233:=sizeOf250
 v233:=zeroValue250
 g17:=by kernel_rfl
 g18:=by kernel_rfl
 g19:=by kernel_rfl
 i0:=by kernel_rfl
 i2:=by kernel_rfl
 i3:=by kernel_rfl
 i4:=by kernel_rfl
 i5:=by kernel_rfl
 i9:=by kernel_rfl
 i20:=by kernel_rfl
 i37:=by kernel_rfl
 i46:=by kernel_rfl
 i51:=by kernel_rfl
 i53:=by kernel_rfl
 i171:=by kernel_rfl
 i173:=by kernel_rfl
 i212:=by kernel_rfl
 i232:=by kernel_rfl
 i233:=by kernel_rfl
 m17:=by kernel_rfl
 m18:=by kernel_rfl
 m19:=by kernel_rfl}
open Go.RowKit Go.Sort Go.Lib in
theorem strconv_Itoa(n:Int)(h0:-9223372036854775808≤n)(h1:n≤9223372036854775807)(w:World)(htab:Lib.TabIs prog w "internal/strconv.uint64pow10" .u64 Lib.pow10Tab):
  Calls prog 133 #[.int .i64 n] w fun e w'=>e=.returned (.string ⟨(Lib.itoa n).toArray⟩)∧∃k os,w'=grow (w.drewN k) os:=Any.strconv_Itoa Aiu n h0 h1 w htab
def Abi:Go.Shelf.Ren:=⟨fun|143=>194|219=>202|217=>210|225=>211|224=>212|267=>213|266=>219|314=>220|n=>n,fun|9=>9|3=>3|4=>4|5=>5|46=>79|146=>202|51=>162|n=>n,fun|1=>0|n=>n⟩
theorem Aky:Go.Proofs.Lays.n143 prog Abi:={
 mixed:=by kernel_rfl
 f143:=tz func194
 f217:=tz func210
 f219:=tz func202
 f224:=tz func212
 f225:=tz func211
 f266:=tz func219
 f267:=tz func213
 f314:=tz func220
 t3:=underlying3
 a3:=isAgg3
 z3:=sizeOf3
 v3:=zeroValue3
 t4:=underlying4
 a4:=isAgg4
 z4:=sizeOf4
 v4:=zeroValue4
 t5:=underlying5
 a5:=isAgg5
 z5:=sizeOf5
 v5:=zeroValue5
 t9:=underlying9
 a9:=isAgg9
 z9:=sizeOf9
 v9:=zeroValue9
 t46:=underlying79
 a46:=isAgg79
 z46:=sizeOf79
 v46:=zeroValue79
 t51:=underlying162
 a51:=isAgg162
 z51:=sizeOf162
 v51:=zeroValue162
 t146:=underlying202
 a146:=isAgg202
 z146:=sizeOf202
 v146:=zeroValue202
 g1:=by kernel_rfl}
open Go.RowKit Go.Lib in
theorem strings_Index_one(s:ByteArray)(c:UInt8)(w:World):
  Calls prog 194 #[.string s,.string ⟨#[c]⟩] w fun e w'=>e=.returned (.int .i64 (Lib.indexByte s.data.toList c))∧w'=w:=Any.strings_Index_one Aky s c w
def Abj:Go.Shelf.Ren:=⟨fun|144=>185|143=>194|219=>202|217=>210|225=>211|224=>212|267=>213|266=>219|314=>220|n=>n,fun|9=>9|4=>4|3=>3|5=>5|46=>79|146=>202|51=>162|n=>n,fun|1=>0|n=>n⟩
theorem Akz:Go.Proofs.Lays.n144 prog Abj:={
 mixed:=by kernel_rfl
 f143:=tz func194
 f144:=tz func185
 f217:=tz func210
 f219:=tz func202
 f224:=tz func212
 f225:=tz func211
 f266:=tz func219
 f267:=tz func213
 f314:=tz func220
 t3:=underlying3
 a3:=isAgg3
 z3:=sizeOf3
 v3:=zeroValue3
 t4:=underlying4
 a4:=isAgg4
 z4:=sizeOf4
 v4:=zeroValue4
 t5:=underlying5
 a5:=isAgg5
 z5:=sizeOf5
 v5:=zeroValue5
 t9:=underlying9
 a9:=isAgg9
 z9:=sizeOf9
 v9:=zeroValue9
 t46:=underlying79
 a46:=isAgg79
 z46:=sizeOf79
 v46:=zeroValue79
 t51:=underlying162
 a51:=isAgg162
 z51:=sizeOf162
 v51:=zeroValue162
 t146:=underlying202
 a146:=isAgg202
 z146:=sizeOf202
 v146:=zeroValue202
 g1:=by kernel_rfl}
open Go.RowKit Go.Lib in
theorem strings_Contains_one(s:ByteArray)(c:UInt8)(w:World):
  Calls prog 185 #[.string s,.string ⟨#[c]⟩] w fun e w'=>e=.returned (.bool (decide (0≤Lib.indexByte s.data.toList c)))∧w'=w:=Any.strings_Contains_one Akz s c w
def Abh:Go.Shelf.Ren:=⟨fun|138=>165|195=>192|218=>193|143=>194|219=>202|217=>210|225=>211|224=>212|267=>213|266=>219|314=>220|n=>n,fun|9=>9|3=>3|4=>4|5=>5|0=>0|46=>79|146=>202|51=>162|n=>n,fun|1=>0|n=>n⟩
theorem Akx:Go.Proofs.Lays.n138 prog Abh:={
 mixed:=by kernel_rfl
 f138:=tz func165
 f143:=tz func194
 f195:=tz func192
 f217:=tz func210
 f218:=tz func193
 f219:=tz func202
 f224:=tz func212
 f225:=tz func211
 f266:=tz func219
 f267:=tz func213
 f314:=tz func220
 t0:=underlying0
 a0:=isAgg0
 z0:=sizeOf0
 v0:=zeroValue0
 t3:=underlying3
 a3:=isAgg3
 z3:=sizeOf3
 v3:=zeroValue3
 t4:=underlying4
 a4:=isAgg4
 z4:=sizeOf4
 v4:=zeroValue4
 t5:=underlying5
 a5:=isAgg5
 z5:=sizeOf5
 v5:=zeroValue5
 t9:=underlying9
 a9:=isAgg9
 z9:=sizeOf9
 v9:=zeroValue9
 t46:=underlying79
 a46:=isAgg79
 z46:=sizeOf79
 v46:=zeroValue79
 t51:=underlying162
 a51:=isAgg162
 z51:=sizeOf162
 v51:=zeroValue162
 t146:=underlying202
 a146:=isAgg202
 z146:=sizeOf202
 v146:=zeroValue202
 g1:=by kernel_rfl}
open Go.RowKit Go.Lib in
theorem strings_Count_one(s:ByteArray)(c:UInt8)(w:World):
  Calls prog 165 #[.string s,.string ⟨#[c]⟩] w fun e w'=>e=.returned (.int .i64 (Lib.countByte s.data.toList c))∧w'=w:=Any.strings_Count_one Akx s c w
def Abf:Go.Shelf.Ren:=⟨fun|100=>195|207=>203|n=>n,fun|9=>9|4=>4|3=>3|n=>n,fun|n=>n⟩
theorem Aku:Go.Proofs.Lays.n100 prog Abf:={
 mixed:=by kernel_rfl
 f100:=tz func195
 f207:=tz func203
 t3:=underlying3
 a3:=isAgg3
 z3:=sizeOf3
 v3:=zeroValue3
 t4:=underlying4
 a4:=isAgg4
 z4:=sizeOf4
 v4:=zeroValue4
 t9:=underlying9
 a9:=isAgg9
 z9:=sizeOf9
 v9:=zeroValue9}
open Go.RowKit Go.Lib in
theorem strings_HasSuffix(s p:ByteArray)(w:World)(hs:s.size≤9223372036854775807):
  Calls prog 195 #[.string s,.string p] w fun e w'=>e=.returned (.bool (Lib.hasSuffix s.data.toList p.data.toList))∧w'=w:=Any.strings_HasSuffix Aku s p w hs
def Abl:Go.Shelf.Ren:=⟨fun|221=>167|268=>196|138=>165|143=>194|195=>192|197=>204|218=>193|219=>202|260=>214|217=>210|225=>211|224=>212|267=>213|266=>219|314=>220|n=>n,fun|9=>9|3=>3|31=>36|4=>4|0=>0|105=>235|21=>21|5=>5|46=>79|119=>245|139=>248|138=>247|146=>202|51=>162|n=>n,fun|1=>0|3=>2|4=>3|n=>n⟩
theorem AkC:Go.Proofs.Lays.n221 prog Abl:={
 mixed:=by kernel_rfl
 f138:=tz func165
 f143:=tz func194
 f195:=tz func192
 f197:=tz func204
 f217:=tz func210
 f218:=tz func193
 f219:=tz func202
 f221:=tz func167
 f224:=tz func212
 f225:=tz func211
 f260:=tz func214
 f266:=tz func219
 f267:=tz func213
 f268:=tz func196
 f314:=tz func220
 t0:=underlying0
 a0:=isAgg0
 z0:=sizeOf0
 v0:=zeroValue0
 t3:=underlying3
 a3:=isAgg3
 z3:=sizeOf3
 v3:=zeroValue3
 t4:=underlying4
 a4:=isAgg4
 z4:=sizeOf4
 v4:=zeroValue4
 t5:=underlying5
 a5:=isAgg5
 z5:=sizeOf5
 v5:=zeroValue5
 t9:=underlying9
 a9:=isAgg9
 z9:=sizeOf9
 v9:=zeroValue9
 t21:=underlying21
 a21:=isAgg21
 z21:=sizeOf21
 v21:=zeroValue21
 t31:=underlying36
 a31:=isAgg36
 z31:=sizeOf36
 v31:=zeroValue36
 t46:=underlying79
 a46:=isAgg79
 z46:=sizeOf79
 v46:=zeroValue79
 t51:=underlying162
 a51:=isAgg162
 z51:=sizeOf162
 v51:=zeroValue162
 t105:=underlying235
 a105:=isAgg235
 z105:=sizeOf235
 v105:=zeroValue235
 t119:=underlying245
 a119:=isAgg245
 z119:=sizeOf245
 t138:=underlying247
 a138:=isAgg247
 z138:=sizeOf247
 v138:=zeroValue247
 t139:=underlying248
 a139:=isAgg248
 z139:=sizeOf248
 v139:=zeroValue248
 t146:=underlying202
 a146:=isAgg202
 z146:=sizeOf202
 v146:=zeroValue202
 g1:=by kernel_rfl
 g3:=by kernel_rfl
 g4:=by kernel_rfl}
open Go.RowKit Go.Lib in
theorem strings_genSplit(s sep:ByteArray)(sv:Nat)(n:Int)(N:Nat)(m:Int)(w:World)(hs:s.size<4294967281)(hm:w.cell? ⟨0,0,none⟩=some (.int .i64 m))(h1:1≤sep.size)(hsv:sv≤sep.size)(hn0:n≠0)(hn63:n≤9223372036854775807)(hN:(N:Int)=min (if n<0 then(Lib.countB s sep:Int)+1 else n) ((s.size:Int)+1)):
  Calls prog 167 #[.string s,.string sep,.int .i64 sv,.int .i64 n] w fun e w'=>
   e=.returned (.slice (some ⟨w.heap.size,0,none⟩) (Lib.splitB sep sv (N -1) s).length N)∧w'=w.alloc (.cells (Lib.cellsOf (Lib.splitB sep sv (N -1) s) N) 9):=Any.strings_genSplit AkC (by kernel_rfl) s sep sv n N m w hs hm h1 hsv hn0 hn63 hN
def SQ:Go.Shelf.Ren:=⟨fun|105=>94|212=>134|99=>135|165=>136|166=>91|170=>95|169=>96|263=>170|264=>171|206=>172|240=>129|241=>173|276=>168|277=>198|n=>n,fun|9=>9|3=>3|4=>4|20=>20|0=>0|46=>79|109=>172|5=>5|72=>131|76=>134|51=>162|146=>202|53=>107|148=>204|70=>129|37=>57|75=>133|127=>175|164=>200|80=>139|n=>n,fun|n=>n⟩
theorem Akv:Go.Proofs.Lays.n105 prog SQ:={
 mixed:=by kernel_rfl
 f99:=tz func135
 f105:=tz func94
 f165:=tz func136
 f166:=tz func91
 f169:=tz func96
 f170:=tz func95
 f206:=tz func172
 f212:=tz func134
 f240:=tz func129
 f241:=tz func173
 f263:=tz func170
 f264:=tz func171
 f276:=tz func168
 f277:=tz func198
 t0:=underlying0
 a0:=isAgg0
 z0:=sizeOf0
 v0:=zeroValue0
 t3:=underlying3
 a3:=isAgg3
 z3:=sizeOf3
 v3:=zeroValue3
 t4:=underlying4
 a4:=isAgg4
 z4:=sizeOf4
 v4:=zeroValue4
 t5:=underlying5
 a5:=isAgg5
 z5:=sizeOf5
 v5:=zeroValue5
 t9:=underlying9
 a9:=isAgg9
 z9:=sizeOf9
 v9:=zeroValue9
 t20:=underlying20
 a20:=isAgg20
 z20:=sizeOf20
 v20:=zeroValue20
 t37:=underlying57
 a37:=isAgg57
 z37:=sizeOf57
 v37:=zeroValue57
 t46:=underlying79
 a46:=isAgg79
 z46:=sizeOf79
 v46:=zeroValue79
 t51:=underlying162
 a51:=isAgg162
 z51:=sizeOf162
 v51:=zeroValue162
 t53:=underlying107
 a53:=isAgg107
 z53:=sizeOf107
 v53:=zeroValue107
 t70:=underlying129
 a70:=isAgg129
 z70:=sizeOf129
 v70:=zeroValue129
 t72:=underlying131
 a72:=isAgg131
 z72:=sizeOf131
 v72:=zeroValue131
 t75:=underlying133
 a75:=isAgg133
 z75:=sizeOf133
 v75:=zeroValue133
 t76:=underlying134
 a76:=isAgg134
 z76:=sizeOf134
 v76:=zeroValue134
 t109:=underlying172
 a109:=isAgg172
 z109:=sizeOf172
 v109:=zeroValue172
 t127:=underlying175
 a127:=isAgg175
 z127:=sizeOf175
 v127:=zeroValue175
 t146:=underlying202
 a146:=isAgg202
 z146:=sizeOf202
 v146:=zeroValue202
 t148:=underlying204
 a148:=isAgg204
 z148:=sizeOf204
 v148:=zeroValue204
 t164:=underlying200
 a164:=isAgg200
 z164:=sizeOf200
 v164:=zeroValue200}
theorem P2:Builder.Extra prog SQ:={
 sizeBuilder:=by kernel_rfl
 liesBuilder:=by kernel_rfl
 t5:=underlying5
 a5:=isAgg5
 z5:=sizeOf5
 v5:=zeroValue5
 infoByte:=by kernel_rfl
 cellsByte:=by kernel_rfl
 sizeByte:=by kernel_rfl
 neB5:=by decide}
open Go.RowKit Go.Lib in
theorem strings_Repeat(s:ByteArray)(c:Nat)(w:World)(hc:c≤9223372036854775807)(hlen:s.size*c≤140737488355328):
  Calls prog 94 #[.string s,.int .i64 c] w fun e w'=>e=.returned (.string ⟨(Lib.repeatL s.data.toList c).toArray⟩)∧Below w.heap.size w w':=Any.strings_Repeat Akv P2 s c w hc hlen
def YB:Go.Shelf.Ren:=⟨fun|6=>72|15=>75|14=>108|28=>117|29=>118|20=>152|21=>153|22=>154|23=>155|24=>156|25=>157|26=>158|27=>159|46=>188|47=>161|48=>162|49=>189|50=>190|57=>201|n=>n,fun|22=>45|24=>73|25=>113|3=>3|39=>79|0=>0|53=>162|55=>107|4=>4|46=>155|45=>154|50=>159|5=>5|9=>9|66=>192|70=>196|76=>226|77=>102|n=>n,fun|n=>n⟩
theorem AlQ:Go.Proofs.SlLaysF0.n6 prog YB:={
 mixed:=by kernel_rfl
 f6:=⟨f72.name,by decide,tz func72⟩
 f14:=⟨f108.name,by decide,tz func108⟩
 f15:=tz func75
 f20:=⟨f152.name,by decide,tz func152⟩
 f21:=⟨f153.name,by decide,tz func153⟩
 f22:=⟨f154.name,by decide,tz func154⟩
 f23:=⟨f155.name,by decide,tz func155⟩
 f24:=⟨f156.name,by decide,tz func156⟩
 f25:=⟨f157.name,by decide,tz func157⟩
 f26:=⟨f158.name,by decide,tz func158⟩
 f27:=⟨f159.name,by decide,tz func159⟩
 f28:=tz func117
 f29:=tz func118
 f46:=⟨f188.name,by decide,tz func188⟩
 f47:=tz func161
 f48:=tz func162
 f49:=⟨f189.name,by decide,tz func189⟩
 f50:=⟨f190.name,by decide,tz func190⟩
 f57:=⟨f201.name,by decide,tz func201⟩
 t0:=underlying0
 a0:=isAgg0
 z0:=sizeOf0
 v0:=zeroValue0
 t3:=underlying3
 a3:=isAgg3
 z3:=sizeOf3
 v3:=zeroValue3
 t4:=underlying4
 a4:=isAgg4
 z4:=sizeOf4
 v4:=zeroValue4
 t5:=underlying5
 a5:=isAgg5
 z5:=sizeOf5
 v5:=zeroValue5
 t9:=underlying9
 a9:=isAgg9
 z9:=sizeOf9
 v9:=zeroValue9
 t22:=underlying45
 a22:=isAgg45
 z22:=sizeOf45
 v22:=zeroValue45
 t25:=underlying113
 a25:=isAgg113
 z25:=sizeOf113
 v25:=zeroValue113
 t39:=underlying79
 a39:=isAgg79
 z39:=sizeOf79
 v39:=zeroValue79
 t45:=underlying154
 a45:=isAgg154
 z45:=sizeOf154
 v45:=zeroValue154
 t46:=underlying155
 a46:=isAgg155
 z46:=sizeOf155
 v46:=zeroValue155
 t50:=underlying159
 a50:=isAgg159
 z50:=sizeOf159
 v50:=zeroValue159
 t53:=underlying162
 a53:=isAgg162
 z53:=sizeOf162
 v53:=zeroValue162
 t55:=underlying107
 a55:=isAgg107
 z55:=sizeOf107
 v55:=zeroValue107
 t66:=underlying192
 a66:=isAgg192
 z66:=sizeOf192
 v66:=zeroValue192
 t70:=underlying196
 a70:=isAgg196
 z70:=sizeOf196
 v70:=zeroValue196
 t76:=underlying226
 a76:=isAgg226
 z76:=sizeOf226
 v76:=zeroValue226
 t77:=underlying102
 a77:=isAgg102
 z77:=sizeOf102
 v77:=zeroValue102}
end Go.Proofs.Tryz
