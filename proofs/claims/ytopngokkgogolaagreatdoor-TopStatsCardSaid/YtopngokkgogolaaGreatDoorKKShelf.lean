/- The shelf: its contracts for this program, as its tools lay them. -/
import Derived.Shelf.Strings.Builder1
import Derived.Shelf.Strings.Builder2
import Derived.Shelf.Small.Bits
import Derived.Shelf.Small.Strs
import Derived.Shelf.Small.Wraps
import Derived.Shelf.Strings.BuilderF
import Derived.Shelf.Strings.BuilderK
import Derived.Shelf.Utf8.RuneCount
import Derived.Shelf.Strings.Builder2Cap
import Derived.Shelf.Strconv.Itoa0
import Derived.Shelf.Strconv.Itoa1
import Derived.Shelf.LaysM
import Derived.Shelf.Strconv.Itoa2
import Derived.Shelf.Strconv.Itoa3
import Derived.Shelf.Strings.Search1
import Derived.Shelf.Strings.Search2
import Derived.Shelf.Strings.Search3
import Derived.Shelf.Strings.Cut
import Derived.Shelf.Strings.Count
import Derived.Shelf.Strings.Shaped
import Derived.Shelf.Strings.Prefix
import Derived.Shelf.Strings.Split
import Derived.Shelf.Unicode.Decode
import Derived.Shelf.Strings.RuneCount
import Derived.Shelf.Strings.Explode
import Derived.Shelf.Bits.Mul64
import Derived.Shelf.Strings.Repeat
import Derived.Shelf.Unicode.DecodeSlow
import Derived.Shelf.Unicode.DecodeAny
import Derived.Shelf.Strings.BuilderCap
import Derived.Shelf.Slices.Turned
import Derived.Ground.Names2Prog
import Derived.Shelf.Slices.Clone
import Derived.Ground.SlgnProg
import Derived.Shelf.SlicesE.Clone
import Derived.Ground.SlgfProg
import Derived.Shelf.SlicesQ.IndexFunc
import Derived.Shelf.SlGeneric
import Derived.Ground.SlsfProg
import Derived.Shelf.SlSortCmp.NoneTotal
import Derived.Shelf.SlicesG.Clone
import Derived.Test.YtopngokkgogolaaGreatDoorProg
set_option linter.unusedVariables false
set_option linter.unusedSimpArgs false
namespace Go.Proofs.Tryz
open Go.Shelf
theorem tz{i:Nat}{a b:Func}(h:prog.funcs[i]?=some a)(e:a=b:=by kernel_rfl):prog.funcs[i]?=some b:=h.trans (congrArg some e)
def U0:Go.Shelf.Ren:=⟨fun|169=>46|n=>n,fun|70=>100|9=>9|0=>0|72=>103|37=>101|127=>214|3=>3|5=>5|n=>n,fun|n=>n⟩
theorem Anc:Go.Proofs.Lays.n169 prog U0:={
 mixed:=by kernel_rfl
 f169:=tz func46
 t0:=underlying0
 a0:=isAgg0
 z0:=sizeOf0
 v0:=zeroValue0
 t3:=underlying3
 a3:=isAgg3
 z3:=sizeOf3
 v3:=zeroValue3
 t9:=underlying9
 a9:=isAgg9
 z9:=sizeOf9
 v9:=zeroValue9
 t37:=underlying101
 a37:=isAgg101
 z37:=sizeOf101
 v37:=zeroValue101
 t70:=underlying100
 a70:=isAgg100
 z70:=sizeOf100
 v70:=zeroValue100
 t72:=underlying103
 a72:=isAgg103
 z72:=sizeOf103
 v72:=zeroValue103
 t127:=underlying214
 a127:=isAgg214
 z127:=sizeOf214
 v127:=zeroValue214}
theorem Ro:Builder.Extra prog U0:={
 sizeBuilder:=by kernel_rfl
 liesBuilder:=by kernel_rfl
 t5:=underlying5
 a5:=isAgg5
 z5:=sizeOf5
 v5:=zeroValue5
 infoByte:=by kernel_rfl
 cellsByte:=by kernel_rfl
 sizeByte:=by kernel_rfl
 neB5:=by decide}
open Go.RowKit in
theorem Builder_String_any(B b:Nat)(l:List UInt8)(w:World)(h:Lib.IsBuilder 103 5 B b (Lib.byteCells l) w)(hBw:B≤w.heap.size):
  Calls prog 46 #[.pointer (some ⟨b,0,none⟩)] w fun e w'=>e=.returned (.string ⟨l.toArray⟩)∧Below B w w':=Any.Builder_String_any Anc Ro B b l w h hBw
def Ac5:Go.Shelf.Ren:=⟨fun|106=>214|213=>277|265=>307|n=>n,fun|9=>9|3=>3|n=>n,fun|n=>n⟩
theorem Am8:Go.Proofs.Lays.n106 prog Ac5:={
 mixed:=by kernel_rfl
 f106:=tz func214
 f213:=tz func277
 f265:=tz func307
 t3:=underlying3
 a3:=isAgg3
 z3:=sizeOf3
 v3:=zeroValue3
 t9:=underlying9
 a9:=isAgg9
 z9:=sizeOf9
 v9:=zeroValue9}
open Go.RowKit in
theorem strings_Compare(a b:ByteArray)(w:World):
  Calls prog 214 #[.string a,.string b] w fun e w'=>e=.returned (.int .i64 (Lib.compareBytes a.data.toList b.data.toList))∧w'=w:=Any.strings_Compare Am8 a b w
def Abe:Go.Shelf.Ren:=⟨fun|171=>172|243=>238|246=>282|283=>312|284=>313|285=>314|286=>315|129=>306|317=>331|318=>332|319=>333|320=>334|337=>345|338=>346|n=>n,fun|3=>3|9=>9|2=>2|4=>4|171=>410|0=>0|53=>201|37=>101|5=>5|173=>412|212=>427|51=>110|20=>20|213=>428|46=>93|232=>441|233=>442|n=>n,fun|17=>1|18=>4|19=>5|n=>n⟩
theorem Ak2:Go.Proofs.LaysM.n171 prog Abe:={
 mixed:=by kernel_rfl
 f129:=tz func306
 f171:=tz func172
 f243:=tz func238
 f246:=tz func282
 f283:=tz func312
 f284:=tz func313
 f285:=tz func314
 f286:=tz func315
 f317:=tz func331
 f318:=tz func332
 f319:=tz func333
 f320:=tz func334
 f337:=tz func345
 f338:=tz func346
 t0:=underlying0
 a0:=isAgg0
 z0:=sizeOf0
 v0:=zeroValue0
 t2:=underlying2
 a2:=isAgg2
 z2:=sizeOf2
 v2:=zeroValue2
 t3:=underlying3
 a3:=isAgg3
 z3:=sizeOf3
 v3:=zeroValue3
 t4:=underlying4
 a4:=isAgg4
 z4:=sizeOf4
 v4:=zeroValue4
 t5:=underlying5
 a5:=isAgg5
 z5:=sizeOf5
 v5:=zeroValue5
 t9:=underlying9
 a9:=isAgg9
 z9:=sizeOf9
 v9:=zeroValue9
 t20:=underlying20
 a20:=isAgg20
 z20:=sizeOf20
 v20:=zeroValue20
 t37:=underlying101
 a37:=isAgg101
 z37:=sizeOf101
 v37:=zeroValue101
 t46:=underlying93
 a46:=isAgg93
 z46:=sizeOf93
 v46:=zeroValue93
 t51:=underlying110
 a51:=isAgg110
 z51:=sizeOf110
 v51:=zeroValue110
 t53:=underlying201
 a53:=isAgg201
 z53:=sizeOf201
 v53:=zeroValue201
 t171:=underlying410
 a171:=isAgg410
 z171:=sizeOf410
 v171:=zeroValue410
 t173:=underlying412
 a173:=isAgg412
 z173:=sizeOf412
 v173:=zeroValue412
 t212:=underlying427
 a212:=isAgg427
 z212:=sizeOf427
 v212:=zeroValue427
 t213:=underlying428
 a213:=isAgg428
 z213:=sizeOf428
 t232:=underlying441
 a232:=isAgg441
 z232:=sizeOf441
 v232:=zeroValue441
 t233:=underlying442
 a233:=isAgg442
 z233:=sizeOf442
 v233:=zeroValue442
 g17:=by kernel_rfl
 g18:=by kernel_rfl
 g19:=by kernel_rfl
 i0:=by kernel_rfl
 i2:=by kernel_rfl
 i3:=by kernel_rfl
 i4:=by kernel_rfl
 i5:=by kernel_rfl
 i9:=by kernel_rfl
 i20:=by kernel_rfl
 i37:=by kernel_rfl
 i46:=by kernel_rfl
 i51:=by kernel_rfl
 i53:=by kernel_rfl
 i171:=by kernel_rfl
 i173:=by kernel_rfl
 i212:=by kernel_rfl
 i232:=by kernel_rfl
 i233:=by kernel_rfl
 m17:=by kernel_rfl
 m18:=by kernel_rfl
 m19:=by kernel_rfl}
open Go.RowKit Go.Sort Go.Lib in
theorem strconv_Itoa(n:Int)(h0:-9223372036854775808≤n)(h1:n≤9223372036854775807)(w:World)(htab:Lib.TabIs prog w "internal/strconv.uint64pow10" .u64 Lib.pow10Tab):
  Calls prog 172 #[.int .i64 n] w fun e w'=>e=.returned (.string ⟨(Lib.itoa n).toArray⟩)∧∃k os,w'=grow (w.drewN k) os:=Any.strconv_Itoa Ak2 n h0 h1 w htab
def Ac7:Go.Shelf.Ren:=⟨fun|143=>222|219=>278|217=>286|225=>308|224=>309|267=>310|266=>318|314=>330|n=>n,fun|9=>9|3=>3|4=>4|5=>5|46=>93|146=>353|51=>110|n=>n,fun|1=>0|n=>n⟩
theorem Ana:Go.Proofs.Lays.n143 prog Ac7:={
 mixed:=by kernel_rfl
 f143:=tz func222
 f217:=tz func286
 f219:=tz func278
 f224:=tz func309
 f225:=tz func308
 f266:=tz func318
 f267:=tz func310
 f314:=tz func330
 t3:=underlying3
 a3:=isAgg3
 z3:=sizeOf3
 v3:=zeroValue3
 t4:=underlying4
 a4:=isAgg4
 z4:=sizeOf4
 v4:=zeroValue4
 t5:=underlying5
 a5:=isAgg5
 z5:=sizeOf5
 v5:=zeroValue5
 t9:=underlying9
 a9:=isAgg9
 z9:=sizeOf9
 v9:=zeroValue9
 t46:=underlying93
 a46:=isAgg93
 z46:=sizeOf93
 v46:=zeroValue93
 t51:=underlying110
 a51:=isAgg110
 z51:=sizeOf110
 v51:=zeroValue110
 t146:=underlying353
 a146:=isAgg353
 z146:=sizeOf353
 v146:=zeroValue353
 g1:=by kernel_rfl}
open Go.RowKit Go.Lib in
theorem strings_Index_one(s:ByteArray)(c:UInt8)(w:World):
  Calls prog 222 #[.string s,.string ⟨#[c]⟩] w fun e w'=>e=.returned (.int .i64 (Lib.indexByte s.data.toList c))∧w'=w:=Any.strings_Index_one Ana s c w
def Ac8:Go.Shelf.Ren:=⟨fun|144=>235|143=>222|219=>278|217=>286|225=>308|224=>309|267=>310|266=>318|314=>330|n=>n,fun|9=>9|4=>4|3=>3|5=>5|46=>93|146=>353|51=>110|n=>n,fun|1=>0|n=>n⟩
theorem Anb:Go.Proofs.Lays.n144 prog Ac8:={
 mixed:=by kernel_rfl
 f143:=tz func222
 f144:=tz func235
 f217:=tz func286
 f219:=tz func278
 f224:=tz func309
 f225:=tz func308
 f266:=tz func318
 f267:=tz func310
 f314:=tz func330
 t3:=underlying3
 a3:=isAgg3
 z3:=sizeOf3
 v3:=zeroValue3
 t4:=underlying4
 a4:=isAgg4
 z4:=sizeOf4
 v4:=zeroValue4
 t5:=underlying5
 a5:=isAgg5
 z5:=sizeOf5
 v5:=zeroValue5
 t9:=underlying9
 a9:=isAgg9
 z9:=sizeOf9
 v9:=zeroValue9
 t46:=underlying93
 a46:=isAgg93
 z46:=sizeOf93
 v46:=zeroValue93
 t51:=underlying110
 a51:=isAgg110
 z51:=sizeOf110
 v51:=zeroValue110
 t146:=underlying353
 a146:=isAgg353
 z146:=sizeOf353
 v146:=zeroValue353
 g1:=by kernel_rfl}
open Go.RowKit Go.Lib in
theorem strings_Contains_one(s:ByteArray)(c:UInt8)(w:World):
  Calls prog 235 #[.string s,.string ⟨#[c]⟩] w fun e w'=>e=.returned (.bool (decide (0≤Lib.indexByte s.data.toList c)))∧w'=w:=Any.strings_Contains_one Anb s c w
def Ac6:Go.Shelf.Ren:=⟨fun|138=>186|195=>250|218=>251|143=>222|219=>278|217=>286|225=>308|224=>309|267=>310|266=>318|314=>330|n=>n,fun|9=>9|3=>3|4=>4|5=>5|0=>0|46=>93|146=>353|51=>110|n=>n,fun|1=>0|n=>n⟩
theorem Am9:Go.Proofs.Lays.n138 prog Ac6:={
 mixed:=by kernel_rfl
 f138:=tz func186
 f143:=tz func222
 f195:=tz func250
 f217:=tz func286
 f218:=tz func251
 f219:=tz func278
 f224:=tz func309
 f225:=tz func308
 f266:=tz func318
 f267:=tz func310
 f314:=tz func330
 t0:=underlying0
 a0:=isAgg0
 z0:=sizeOf0
 v0:=zeroValue0
 t3:=underlying3
 a3:=isAgg3
 z3:=sizeOf3
 v3:=zeroValue3
 t4:=underlying4
 a4:=isAgg4
 z4:=sizeOf4
 v4:=zeroValue4
 t5:=underlying5
 a5:=isAgg5
 z5:=sizeOf5
 v5:=zeroValue5
 t9:=underlying9
 a9:=isAgg9
 z9:=sizeOf9
 v9:=zeroValue9
 t46:=underlying93
 a46:=isAgg93
 z46:=sizeOf93
 v46:=zeroValue93
 t51:=underlying110
 a51:=isAgg110
 z51:=sizeOf110
 v51:=zeroValue110
 t146:=underlying353
 a146:=isAgg353
 z146:=sizeOf353
 v146:=zeroValue353
 g1:=by kernel_rfl}
open Go.RowKit Go.Lib in
theorem strings_Count_one(s:ByteArray)(c:UInt8)(w:World):
  Calls prog 186 #[.string s,.string ⟨#[c]⟩] w fun e w'=>e=.returned (.int .i64 (Lib.countByte s.data.toList c))∧w'=w:=Any.strings_Count_one Am9 s c w
def Ac3:Go.Shelf.Ren:=⟨fun|100=>177|207=>243|n=>n,fun|9=>9|4=>4|3=>3|n=>n,fun|n=>n⟩
theorem Am6:Go.Proofs.Lays.n100 prog Ac3:={
 mixed:=by kernel_rfl
 f100:=tz func177
 f207:=tz func243
 t3:=underlying3
 a3:=isAgg3
 z3:=sizeOf3
 v3:=zeroValue3
 t4:=underlying4
 a4:=isAgg4
 z4:=sizeOf4
 v4:=zeroValue4
 t9:=underlying9
 a9:=isAgg9
 z9:=sizeOf9
 v9:=zeroValue9}
open Go.RowKit Go.Lib in
theorem strings_HasSuffix(s p:ByteArray)(w:World)(hs:s.size≤9223372036854775807):
  Calls prog 177 #[.string s,.string p] w fun e w'=>e=.returned (.bool (Lib.hasSuffix s.data.toList p.data.toList))∧w'=w:=Any.strings_HasSuffix Am6 s p w hs
def Ac4:Go.Shelf.Ren:=⟨fun|102=>184|209=>249|207=>243|n=>n,fun|9=>9|4=>4|3=>3|n=>n,fun|n=>n⟩
theorem Am7:Go.Proofs.Lays.n102 prog Ac4:={
 mixed:=by kernel_rfl
 f102:=tz func184
 f207:=tz func243
 f209:=tz func249
 t3:=underlying3
 a3:=isAgg3
 z3:=sizeOf3
 v3:=zeroValue3
 t4:=underlying4
 a4:=isAgg4
 z4:=sizeOf4
 v4:=zeroValue4
 t9:=underlying9
 a9:=isAgg9
 z9:=sizeOf9
 v9:=zeroValue9}
open Go.RowKit Go.Lib in
theorem strings_TrimSuffix(s p:ByteArray)(w:World)(hs:s.size≤9223372036854775807):
  Calls prog 184 #[.string s,.string p] w fun e w'=>e=.returned (.string ⟨(Lib.trimSuffix s.data.toList p.data.toList).toArray⟩)∧w'=w:=Any.strings_TrimSuffix Am7 s p w hs
def Ac9:Go.Shelf.Ren:=⟨fun|221=>179|268=>244|138=>186|143=>222|195=>250|197=>284|218=>251|219=>278|260=>316|217=>286|225=>308|224=>309|267=>310|266=>318|314=>330|n=>n,fun|9=>9|3=>3|31=>23|4=>4|0=>0|105=>391|21=>21|5=>5|46=>93|119=>429|139=>432|138=>431|146=>353|51=>110|n=>n,fun|1=>0|3=>2|4=>3|n=>n⟩
theorem Ane:Go.Proofs.Lays.n221 prog Ac9:={
 mixed:=by kernel_rfl
 f138:=tz func186
 f143:=tz func222
 f195:=tz func250
 f197:=tz func284
 f217:=tz func286
 f218:=tz func251
 f219:=tz func278
 f221:=tz func179
 f224:=tz func309
 f225:=tz func308
 f260:=tz func316
 f266:=tz func318
 f267:=tz func310
 f268:=tz func244
 f314:=tz func330
 t0:=underlying0
 a0:=isAgg0
 z0:=sizeOf0
 v0:=zeroValue0
 t3:=underlying3
 a3:=isAgg3
 z3:=sizeOf3
 v3:=zeroValue3
 t4:=underlying4
 a4:=isAgg4
 z4:=sizeOf4
 v4:=zeroValue4
 t5:=underlying5
 a5:=isAgg5
 z5:=sizeOf5
 v5:=zeroValue5
 t9:=underlying9
 a9:=isAgg9
 z9:=sizeOf9
 v9:=zeroValue9
 t21:=underlying21
 a21:=isAgg21
 z21:=sizeOf21
 v21:=zeroValue21
 t31:=underlying23
 a31:=isAgg23
 z31:=sizeOf23
 v31:=zeroValue23
 t46:=underlying93
 a46:=isAgg93
 z46:=sizeOf93
 v46:=zeroValue93
 t51:=underlying110
 a51:=isAgg110
 z51:=sizeOf110
 v51:=zeroValue110
 t105:=underlying391
 a105:=isAgg391
 z105:=sizeOf391
 v105:=zeroValue391
 t119:=underlying429
 a119:=isAgg429
 z119:=sizeOf429
 t138:=underlying431
 a138:=isAgg431
 z138:=sizeOf431
 v138:=zeroValue431
 t139:=underlying432
 a139:=isAgg432
 z139:=sizeOf432
 v139:=zeroValue432
 t146:=underlying353
 a146:=isAgg353
 z146:=sizeOf353
 v146:=zeroValue353
 g1:=by kernel_rfl
 g3:=by kernel_rfl
 g4:=by kernel_rfl}
open Go.RowKit Go.Lib in
theorem strings_genSplit(s sep:ByteArray)(sv:Nat)(n:Int)(N:Nat)(m:Int)(w:World)(hs:s.size<4294967281)(hm:w.cell? ⟨0,0,none⟩=some (.int .i64 m))(h1:1≤sep.size)(hsv:sv≤sep.size)(hn0:n≠0)(hn63:n≤9223372036854775807)(hN:(N:Int)=min (if n<0 then(Lib.countB s sep:Int)+1 else n) ((s.size:Int)+1)):
  Calls prog 179 #[.string s,.string sep,.int .i64 sv,.int .i64 n] w fun e w'=>
   e=.returned (.slice (some ⟨w.heap.size,0,none⟩) (Lib.splitB sep sv (N -1) s).length N)∧w'=w.alloc (.cells (Lib.cellsOf (Lib.splitB sep sv (N -1) s) N) 9):=Any.strings_genSplit Ane (by kernel_rfl) s sep sv n N m w hs hm h1 hsv hn0 hn63 hN
def Zf:Go.Shelf.Ren:=⟨fun|15=>103|n=>n,fun|22=>22|3=>3|4=>4|n=>n,fun|n=>n⟩
theorem Ui:Go.Proofs.Lays2.n15 prog Zf:={
 mixed:=by kernel_rfl
 f15:=tz func103
 t3:=underlying3
 a3:=isAgg3
 z3:=sizeOf3
 v3:=zeroValue3
 t4:=underlying4
 a4:=isAgg4
 z4:=sizeOf4
 v4:=zeroValue4
 t22:=underlying22
 a22:=isAgg22
 z22:=sizeOf22
 v22:=zeroValue22
 i3:=by kernel_rfl}
open Go.RowKit Go.Lib in
theorem slices_Clone_int(b off n c:Nat)(zs:List Int)(w:World)(hz:n≤zs.length)(hbig:n*8≤140737488355328)(hc:∀j,j<zs.length→w.cell? ⟨b,off+j,none⟩=some (.int .i64 (zs.getD j 0))):
  Calls prog 103 #[.slice (some ⟨b,off,none⟩) n c] w fun e w'=>∃v',e=.returned v'∧w'.ownsRow w.heap.size 3 1 v' n ((zs.take n).map (Value.int .i64))∧v'≠.slice none 0 0∧Below w.heap.size w w':=Any.slices_Clone_int Ui b off n c zs w hz hbig hc
open Go.RowKit Go.Lib in
theorem slices_Clone_int_nil(n c:Nat)(w:World):
  Calls prog 103 #[.slice none n c] w fun e w'=>e=.returned (.slice none 0 0)∧w'=w:=Any.slices_Clone_int_nil Ui n c w
open Go.RowKit Go.Lib in
theorem slices_Clone_int_zero(a:Addr)(c:Nat)(w:World):
  Calls prog 103 #[.slice (some a) 0 c] w fun e w'=>∃v',e=.returned v'∧w'.ownsRow w.heap.size 3 1 v' 0 []∧v'≠.slice none 0 0∧Below w.heap.size w w':=Any.slices_Clone_int_zero Ui a c w
def Aao:Go.Shelf.Ren:=⟨fun|6=>212|15=>276|14=>275|28=>305|29=>306|20=>297|21=>298|22=>299|23=>300|24=>301|25=>302|26=>303|27=>304|46=>325|47=>326|48=>327|49=>328|50=>329|57=>344|n=>n,fun|22=>59|24=>63|25=>334|3=>3|39=>93|0=>0|53=>110|55=>201|4=>4|46=>403|45=>402|50=>260|5=>5|9=>9|66=>419|70=>423|76=>433|77=>83|n=>n,fun|n=>n⟩
theorem Ao0:Go.Proofs.SlLaysF0.n6 prog Aao:={
 mixed:=by kernel_rfl
 f6:=⟨f212.name,by decide,tz func212⟩
 f14:=⟨f275.name,by decide,tz func275⟩
 f15:=tz func276
 f20:=⟨f297.name,by decide,tz func297⟩
 f21:=⟨f298.name,by decide,tz func298⟩
 f22:=⟨f299.name,by decide,tz func299⟩
 f23:=⟨f300.name,by decide,tz func300⟩
 f24:=⟨f301.name,by decide,tz func301⟩
 f25:=⟨f302.name,by decide,tz func302⟩
 f26:=⟨f303.name,by decide,tz func303⟩
 f27:=⟨f304.name,by decide,tz func304⟩
 f28:=tz func305
 f29:=tz func306
 f46:=⟨f325.name,by decide,tz func325⟩
 f47:=tz func326
 f48:=tz func327
 f49:=⟨f328.name,by decide,tz func328⟩
 f50:=⟨f329.name,by decide,tz func329⟩
 f57:=⟨f344.name,by decide,tz func344⟩
 t0:=underlying0
 a0:=isAgg0
 z0:=sizeOf0
 v0:=zeroValue0
 t3:=underlying3
 a3:=isAgg3
 z3:=sizeOf3
 v3:=zeroValue3
 t4:=underlying4
 a4:=isAgg4
 z4:=sizeOf4
 v4:=zeroValue4
 t5:=underlying5
 a5:=isAgg5
 z5:=sizeOf5
 v5:=zeroValue5
 t9:=underlying9
 a9:=isAgg9
 z9:=sizeOf9
 v9:=zeroValue9
 t22:=underlying59
 a22:=isAgg59
 z22:=sizeOf59
 v22:=zeroValue59
 t25:=underlying334
 a25:=isAgg334
 z25:=sizeOf334
 v25:=zeroValue334
 t39:=underlying93
 a39:=isAgg93
 z39:=sizeOf93
 v39:=zeroValue93
 t45:=underlying402
 a45:=isAgg402
 z45:=sizeOf402
 v45:=zeroValue402
 t46:=underlying403
 a46:=isAgg403
 z46:=sizeOf403
 v46:=zeroValue403
 t50:=underlying260
 a50:=isAgg260
 z50:=sizeOf260
 v50:=zeroValue260
 t53:=underlying110
 a53:=isAgg110
 z53:=sizeOf110
 v53:=zeroValue110
 t55:=underlying201
 a55:=isAgg201
 z55:=sizeOf201
 v55:=zeroValue201
 t66:=underlying419
 a66:=isAgg419
 z66:=sizeOf419
 v66:=zeroValue419
 t70:=underlying423
 a70:=isAgg423
 z70:=sizeOf423
 v70:=zeroValue423
 t76:=underlying433
 a76:=isAgg433
 z76:=sizeOf433
 v76:=zeroValue433
 t77:=underlying83
 a77:=isAgg83
 z77:=sizeOf83
 v77:=zeroValue83}
def Afd:Go.Shelf.Ren:=⟨fun|41=>103|n=>n,fun|22=>22|23=>3|4=>4|n=>n,fun|n=>n⟩
theorem Afc:Go.Proofs.SlLaysN.n41 prog Afd:={
 mixed:=by kernel_rfl
 f41:=⟨f103.name,by decide,tz func103⟩
 t4:=underlying4
 a4:=isAgg4
 z4:=sizeOf4
 v4:=zeroValue4
 t22:=underlying22
 a22:=isAgg22
 z22:=sizeOf22
 v22:=zeroValue22
 t23:=underlying3
 a23:=isAgg3
 z23:=sizeOf3
 v23:=zeroValue3
 i23:=by kernel_rfl}
end Go.Proofs.Tryz
