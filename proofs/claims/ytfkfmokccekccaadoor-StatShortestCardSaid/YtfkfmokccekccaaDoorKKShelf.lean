/-
 DERIVED: THE SHELF's CONTRACTS AT THIS DUMP, IN PLAIN WORDS (tools/lay-plain.mjs out of 'TrydShelf.lean', which tools/lay-shelf.mjs wrote): THE SAME DECLARATIONS UNDER THE SAME NAMES: 'import', 'namespace', 'open', 'def', 'theorem' AND NOTHING ELSE: no command of the shelf's: FOR A HAND-IN. Each laying: the table of numbers ('.._ren') and one theorem, a field a fact of the dump's own or the kernel's comparison; each contract: ONE APPLICATION.
-/
import Derived.Shelf.Strings.Builder1
import Derived.Shelf.Strings.Builder2
import Derived.Shelf.Small.Bits
import Derived.Shelf.Small.Strs
import Derived.Shelf.Small.Wraps
import Derived.Shelf.Strings.BuilderF
import Derived.Shelf.Strings.BuilderK
import Derived.Shelf.Strings.Builder2Cap
import Derived.Shelf.Strconv.Itoa0
import Derived.Shelf.Strconv.Itoa1
import Derived.Shelf.LaysM
import Derived.Shelf.Strconv.Itoa2
import Derived.Shelf.Strconv.Itoa3
import Derived.Shelf.Strings.Search1
import Derived.Shelf.Strings.Search2
import Derived.Shelf.Strings.Search3
import Derived.Shelf.Strings.Count
import Derived.Shelf.Strings.Shaped
import Derived.Shelf.Strings.Prefix
import Derived.Shelf.Strings.Split
import Derived.Shelf.Bits.Mul64
import Derived.Shelf.Strings.Repeat
import Derived.Shelf.Unicode.DecodeSlow
import Derived.Shelf.Strings.BuilderCap
import Derived.Ground.Names2Prog
import Derived.Shelf.Slices.SearchI
import Derived.Shelf.SlGeneric
import Derived.Ground.SlgcProg
import Derived.Ground.SlsfProg
import Derived.Shelf.SlSortCmp.NoneTotal
import Derived.Shelf.SlicesG.Cmp
import Derived.Test.YtfkfmokccekccaaDoorProg
set_option linter.unusedVariables false
set_option linter.unusedSimpArgs false
namespace Go.Proofs
open Go.Shelf
def Tryd.Rs:Go.Shelf.Ren:=⟨fun|170=>52|n=>n,fun|70=>99|3=>3|0=>0|72=>101|37=>54|5=>5|n=>n,fun|n=>n⟩
theorem Tryd.Yh:Go.Proofs.Lays.n170 Tryd.prog Tryd.Rs:={
 mixed:=by kernel_rfl
 f170:=Tryd.func52.trans (congrArg some (by kernel_rfl))
 t0:=Tryd.underlying0
 a0:=Tryd.isAgg0
 z0:=Tryd.sizeOf0
 v0:=Tryd.zeroValue0
 t3:=Tryd.underlying3
 a3:=Tryd.isAgg3
 z3:=Tryd.sizeOf3
 v3:=Tryd.zeroValue3
 t37:=Tryd.underlying54
 a37:=Tryd.isAgg54
 z37:=Tryd.sizeOf54
 v37:=Tryd.zeroValue54
 t70:=Tryd.underlying99
 a70:=Tryd.isAgg99
 z70:=Tryd.sizeOf99
 v70:=Tryd.zeroValue99
 t72:=Tryd.underlying101
 a72:=Tryd.isAgg101
 z72:=Tryd.sizeOf101
 v72:=Tryd.zeroValue101}
open Go.RowKit in
theorem Tryd.Builder_Len(B b:Nat)(bs:List Value)(w:World)(h:Lib.IsBuilder 101 5 B b bs w):
  Calls Tryd.prog 52 #[.pointer (some ⟨b,0,none⟩)] w fun e w'=>e=.returned (.int .i64 bs.length)∧w'=w:=Any.Builder_Len Tryd.Yh B b bs w h
def Tryd.L7:Go.Shelf.Ren:=⟨fun|169=>53|n=>n,fun|70=>99|9=>9|0=>0|72=>101|37=>54|127=>139|3=>3|5=>5|n=>n,fun|n=>n⟩
theorem Tryd.Yg:Go.Proofs.Lays.n169 Tryd.prog Tryd.L7:={
 mixed:=by kernel_rfl
 f169:=Tryd.func53.trans (congrArg some (by kernel_rfl))
 t0:=Tryd.underlying0
 a0:=Tryd.isAgg0
 z0:=Tryd.sizeOf0
 v0:=Tryd.zeroValue0
 t3:=Tryd.underlying3
 a3:=Tryd.isAgg3
 z3:=Tryd.sizeOf3
 v3:=Tryd.zeroValue3
 t9:=Tryd.underlying9
 a9:=Tryd.isAgg9
 z9:=Tryd.sizeOf9
 v9:=Tryd.zeroValue9
 t37:=Tryd.underlying54
 a37:=Tryd.isAgg54
 z37:=Tryd.sizeOf54
 v37:=Tryd.zeroValue54
 t70:=Tryd.underlying99
 a70:=Tryd.isAgg99
 z70:=Tryd.sizeOf99
 v70:=Tryd.zeroValue99
 t72:=Tryd.underlying101
 a72:=Tryd.isAgg101
 z72:=Tryd.sizeOf101
 v72:=Tryd.zeroValue101
 t127:=Tryd.underlying139
 a127:=Tryd.isAgg139
 z127:=Tryd.sizeOf139
 v127:=Tryd.zeroValue139}
theorem Tryd.JK:Builder.Extra Tryd.prog Tryd.L7:={
 sizeBuilder:=by kernel_rfl
 liesBuilder:=by kernel_rfl
 t5:=Tryd.underlying5
 a5:=Tryd.isAgg5
 z5:=Tryd.sizeOf5
 v5:=Tryd.zeroValue5
 infoByte:=by kernel_rfl
 cellsByte:=by kernel_rfl
 sizeByte:=by kernel_rfl
 neB5:=by decide}
open Go.RowKit in
theorem Tryd.Builder_String_any(B b:Nat)(l:List UInt8)(w:World)(h:Lib.IsBuilder 101 5 B b (Lib.byteCells l) w)(hBw:B≤w.heap.size):
  Calls Tryd.prog 53 #[.pointer (some ⟨b,0,none⟩)] w fun e w'=>e=.returned (.string ⟨l.toArray⟩)∧Below B w w':=Any.Builder_String_any Tryd.Yg Tryd.JK B b l w h hBw
def Tryd.Qc:Go.Shelf.Ren:=⟨fun|171=>81|243=>115|246=>132|283=>141|284=>142|285=>143|286=>144|129=>70|317=>148|318=>149|319=>150|320=>151|337=>152|338=>153|n=>n,fun|3=>3|9=>9|2=>2|4=>4|171=>189|0=>0|53=>82|37=>54|5=>5|173=>191|212=>199|51=>128|20=>20|213=>200|46=>56|232=>201|233=>202|n=>n,fun|17=>3|18=>4|19=>5|n=>n⟩
theorem Tryd.Xa:Go.Proofs.LaysM.n171 Tryd.prog Tryd.Qc:={
 mixed:=by kernel_rfl
 f129:=Tryd.func70.trans (congrArg some (by kernel_rfl))
 f171:=Tryd.func81.trans (congrArg some (by kernel_rfl))
 f243:=Tryd.func115.trans (congrArg some (by kernel_rfl))
 f246:=Tryd.func132.trans (congrArg some (by kernel_rfl))
 f283:=Tryd.func141.trans (congrArg some (by kernel_rfl))
 f284:=Tryd.func142.trans (congrArg some (by kernel_rfl))
 f285:=Tryd.func143.trans (congrArg some (by kernel_rfl))
 f286:=Tryd.func144.trans (congrArg some (by kernel_rfl))
 f317:=Tryd.func148.trans (congrArg some (by kernel_rfl))
 f318:=Tryd.func149.trans (congrArg some (by kernel_rfl))
 f319:=Tryd.func150.trans (congrArg some (by kernel_rfl))
 f320:=Tryd.func151.trans (congrArg some (by kernel_rfl))
 f337:=Tryd.func152.trans (congrArg some (by kernel_rfl))
 f338:=Tryd.func153.trans (congrArg some (by kernel_rfl))
 t0:=Tryd.underlying0
 a0:=Tryd.isAgg0
 z0:=Tryd.sizeOf0
 v0:=Tryd.zeroValue0
 t2:=Tryd.underlying2
 a2:=Tryd.isAgg2
 z2:=Tryd.sizeOf2
 v2:=Tryd.zeroValue2
 t3:=Tryd.underlying3
 a3:=Tryd.isAgg3
 z3:=Tryd.sizeOf3
 v3:=Tryd.zeroValue3
 t4:=Tryd.underlying4
 a4:=Tryd.isAgg4
 z4:=Tryd.sizeOf4
 v4:=Tryd.zeroValue4
 t5:=Tryd.underlying5
 a5:=Tryd.isAgg5
 z5:=Tryd.sizeOf5
 v5:=Tryd.zeroValue5
 t9:=Tryd.underlying9
 a9:=Tryd.isAgg9
 z9:=Tryd.sizeOf9
 v9:=Tryd.zeroValue9
 t20:=Tryd.underlying20
 a20:=Tryd.isAgg20
 z20:=Tryd.sizeOf20
 v20:=Tryd.zeroValue20
 t37:=Tryd.underlying54
 a37:=Tryd.isAgg54
 z37:=Tryd.sizeOf54
 v37:=Tryd.zeroValue54
 t46:=Tryd.underlying56
 a46:=Tryd.isAgg56
 z46:=Tryd.sizeOf56
 v46:=Tryd.zeroValue56
 t51:=Tryd.underlying128
 a51:=Tryd.isAgg128
 z51:=Tryd.sizeOf128
 v51:=Tryd.zeroValue128
 t53:=Tryd.underlying82
 a53:=Tryd.isAgg82
 z53:=Tryd.sizeOf82
 v53:=Tryd.zeroValue82
 t171:=Tryd.underlying189
 a171:=Tryd.isAgg189
 z171:=Tryd.sizeOf189
 v171:=Tryd.zeroValue189
 t173:=Tryd.underlying191
 a173:=Tryd.isAgg191
 z173:=Tryd.sizeOf191
 v173:=Tryd.zeroValue191
 t212:=Tryd.underlying199
 a212:=Tryd.isAgg199
 z212:=Tryd.sizeOf199
 v212:=Tryd.zeroValue199
 t213:=Tryd.underlying200
 a213:=Tryd.isAgg200
 z213:=Tryd.sizeOf200
 t232:=Tryd.underlying201
 a232:=Tryd.isAgg201
 z232:=Tryd.sizeOf201
 v232:=Tryd.zeroValue201
 t233:=Tryd.underlying202
 a233:=Tryd.isAgg202
 z233:=Tryd.sizeOf202
 v233:=Tryd.zeroValue202
 g17:=by kernel_rfl
 g18:=by kernel_rfl
 g19:=by kernel_rfl
 i0:=by kernel_rfl
 i2:=by kernel_rfl
 i3:=by kernel_rfl
 i4:=by kernel_rfl
 i5:=by kernel_rfl
 i9:=by kernel_rfl
 i20:=by kernel_rfl
 i37:=by kernel_rfl
 i46:=by kernel_rfl
 i51:=by kernel_rfl
 i53:=by kernel_rfl
 i171:=by kernel_rfl
 i173:=by kernel_rfl
 i212:=by kernel_rfl
 i232:=by kernel_rfl
 i233:=by kernel_rfl
 m17:=by kernel_rfl
 m18:=by kernel_rfl
 m19:=by kernel_rfl}
open Go.RowKit Go.Sort Go.Lib in
theorem Tryd.strconv_Itoa(n:Int)(h0:-9223372036854775808≤n)(h1:n≤9223372036854775807)(w:World)(htab:Lib.TabIs Tryd.prog w "internal/strconv.uint64pow10" .u64 Lib.pow10Tab):
  Calls Tryd.prog 81 #[.int .i64 n] w fun e w'=>e=.returned (.string ⟨(Lib.itoa n).toArray⟩)∧∃k os,w'=grow (w.drewN k) os:=Any.strconv_Itoa Tryd.Xa n h0 h1 w htab
def Tryd.Rr:Go.Shelf.Ren:=⟨fun|138=>73|195=>109|218=>110|143=>111|219=>129|217=>136|225=>137|224=>138|267=>139|266=>146|314=>147|n=>n,fun|9=>9|3=>3|4=>4|5=>5|0=>0|46=>56|146=>169|51=>128|n=>n,fun|1=>0|n=>n⟩
theorem Tryd.Yf:Go.Proofs.Lays.n138 Tryd.prog Tryd.Rr:={
 mixed:=by kernel_rfl
 f138:=Tryd.func73.trans (congrArg some (by kernel_rfl))
 f143:=Tryd.func111.trans (congrArg some (by kernel_rfl))
 f195:=Tryd.func109.trans (congrArg some (by kernel_rfl))
 f217:=Tryd.func136.trans (congrArg some (by kernel_rfl))
 f218:=Tryd.func110.trans (congrArg some (by kernel_rfl))
 f219:=Tryd.func129.trans (congrArg some (by kernel_rfl))
 f224:=Tryd.func138.trans (congrArg some (by kernel_rfl))
 f225:=Tryd.func137.trans (congrArg some (by kernel_rfl))
 f266:=Tryd.func146.trans (congrArg some (by kernel_rfl))
 f267:=Tryd.func139.trans (congrArg some (by kernel_rfl))
 f314:=Tryd.func147.trans (congrArg some (by kernel_rfl))
 t0:=Tryd.underlying0
 a0:=Tryd.isAgg0
 z0:=Tryd.sizeOf0
 v0:=Tryd.zeroValue0
 t3:=Tryd.underlying3
 a3:=Tryd.isAgg3
 z3:=Tryd.sizeOf3
 v3:=Tryd.zeroValue3
 t4:=Tryd.underlying4
 a4:=Tryd.isAgg4
 z4:=Tryd.sizeOf4
 v4:=Tryd.zeroValue4
 t5:=Tryd.underlying5
 a5:=Tryd.isAgg5
 z5:=Tryd.sizeOf5
 v5:=Tryd.zeroValue5
 t9:=Tryd.underlying9
 a9:=Tryd.isAgg9
 z9:=Tryd.sizeOf9
 v9:=Tryd.zeroValue9
 t46:=Tryd.underlying56
 a46:=Tryd.isAgg56
 z46:=Tryd.sizeOf56
 v46:=Tryd.zeroValue56
 t51:=Tryd.underlying128
 a51:=Tryd.isAgg128
 z51:=Tryd.sizeOf128
 v51:=Tryd.zeroValue128
 t146:=Tryd.underlying169
 a146:=Tryd.isAgg169
 z146:=Tryd.sizeOf169
 v146:=Tryd.zeroValue169
 g1:=by kernel_rfl}
open Go.RowKit Go.Lib in
theorem Tryd.strings_Count_one(s:ByteArray)(c:UInt8)(w:World):
  Calls Tryd.prog 73 #[.string s,.string ⟨#[c]⟩] w fun e w'=>e=.returned (.int .i64 (Lib.countByte s.data.toList c))∧w'=w:=Any.strings_Count_one Tryd.Yf s c w
def Tryd.Rq:Go.Shelf.Ren:=⟨fun|100=>112|207=>130|n=>n,fun|9=>9|4=>4|3=>3|n=>n,fun|n=>n⟩
theorem Tryd.Yd:Go.Proofs.Lays.n100 Tryd.prog Tryd.Rq:={
 mixed:=by kernel_rfl
 f100:=Tryd.func112.trans (congrArg some (by kernel_rfl))
 f207:=Tryd.func130.trans (congrArg some (by kernel_rfl))
 t3:=Tryd.underlying3
 a3:=Tryd.isAgg3
 z3:=Tryd.sizeOf3
 v3:=Tryd.zeroValue3
 t4:=Tryd.underlying4
 a4:=Tryd.isAgg4
 z4:=Tryd.sizeOf4
 v4:=Tryd.zeroValue4
 t9:=Tryd.underlying9
 a9:=Tryd.isAgg9
 z9:=Tryd.sizeOf9
 v9:=Tryd.zeroValue9}
open Go.RowKit Go.Lib in
theorem Tryd.strings_HasSuffix(s p:ByteArray)(w:World)(hs:s.size≤9223372036854775807):
  Calls Tryd.prog 112 #[.string s,.string p] w fun e w'=>e=.returned (.bool (Lib.hasSuffix s.data.toList p.data.toList))∧w'=w:=Any.strings_HasSuffix Tryd.Yd s p w hs
def Tryd.Rt:Go.Shelf.Ren:=⟨fun|221=>75|268=>113|138=>73|143=>111|195=>109|197=>131|218=>110|219=>129|260=>140|217=>136|225=>137|224=>138|267=>139|266=>146|314=>147|n=>n,fun|9=>9|3=>3|31=>44|4=>4|0=>0|105=>183|21=>21|5=>5|46=>56|119=>194|139=>197|138=>196|146=>169|51=>128|n=>n,fun|1=>0|3=>1|4=>2|n=>n⟩
theorem Tryd.Yi:Go.Proofs.Lays.n221 Tryd.prog Tryd.Rt:={
 mixed:=by kernel_rfl
 f138:=Tryd.func73.trans (congrArg some (by kernel_rfl))
 f143:=Tryd.func111.trans (congrArg some (by kernel_rfl))
 f195:=Tryd.func109.trans (congrArg some (by kernel_rfl))
 f197:=Tryd.func131.trans (congrArg some (by kernel_rfl))
 f217:=Tryd.func136.trans (congrArg some (by kernel_rfl))
 f218:=Tryd.func110.trans (congrArg some (by kernel_rfl))
 f219:=Tryd.func129.trans (congrArg some (by kernel_rfl))
 f221:=Tryd.func75.trans (congrArg some (by kernel_rfl))
 f224:=Tryd.func138.trans (congrArg some (by kernel_rfl))
 f225:=Tryd.func137.trans (congrArg some (by kernel_rfl))
 f260:=Tryd.func140.trans (congrArg some (by kernel_rfl))
 f266:=Tryd.func146.trans (congrArg some (by kernel_rfl))
 f267:=Tryd.func139.trans (congrArg some (by kernel_rfl))
 f268:=Tryd.func113.trans (congrArg some (by kernel_rfl))
 f314:=Tryd.func147.trans (congrArg some (by kernel_rfl))
 t0:=Tryd.underlying0
 a0:=Tryd.isAgg0
 z0:=Tryd.sizeOf0
 v0:=Tryd.zeroValue0
 t3:=Tryd.underlying3
 a3:=Tryd.isAgg3
 z3:=Tryd.sizeOf3
 v3:=Tryd.zeroValue3
 t4:=Tryd.underlying4
 a4:=Tryd.isAgg4
 z4:=Tryd.sizeOf4
 v4:=Tryd.zeroValue4
 t5:=Tryd.underlying5
 a5:=Tryd.isAgg5
 z5:=Tryd.sizeOf5
 v5:=Tryd.zeroValue5
 t9:=Tryd.underlying9
 a9:=Tryd.isAgg9
 z9:=Tryd.sizeOf9
 v9:=Tryd.zeroValue9
 t21:=Tryd.underlying21
 a21:=Tryd.isAgg21
 z21:=Tryd.sizeOf21
 v21:=Tryd.zeroValue21
 t31:=Tryd.underlying44
 a31:=Tryd.isAgg44
 z31:=Tryd.sizeOf44
 v31:=Tryd.zeroValue44
 t46:=Tryd.underlying56
 a46:=Tryd.isAgg56
 z46:=Tryd.sizeOf56
 v46:=Tryd.zeroValue56
 t51:=Tryd.underlying128
 a51:=Tryd.isAgg128
 z51:=Tryd.sizeOf128
 v51:=Tryd.zeroValue128
 t105:=Tryd.underlying183
 a105:=Tryd.isAgg183
 z105:=Tryd.sizeOf183
 v105:=Tryd.zeroValue183
 t119:=Tryd.underlying194
 a119:=Tryd.isAgg194
 z119:=Tryd.sizeOf194
 t138:=Tryd.underlying196
 a138:=Tryd.isAgg196
 z138:=Tryd.sizeOf196
 v138:=Tryd.zeroValue196
 t139:=Tryd.underlying197
 a139:=Tryd.isAgg197
 z139:=Tryd.sizeOf197
 v139:=Tryd.zeroValue197
 t146:=Tryd.underlying169
 a146:=Tryd.isAgg169
 z146:=Tryd.sizeOf169
 v146:=Tryd.zeroValue169
 g1:=by kernel_rfl
 g3:=by kernel_rfl
 g4:=by kernel_rfl}
open Go.RowKit Go.Lib in
theorem Tryd.strings_genSplit(s sep:ByteArray)(sv:Nat)(n:Int)(N:Nat)(m:Int)(w:World)(hs:s.size<4294967281)(hm:w.cell? ⟨0,0,none⟩=some (.int .i64 m))(h1:1≤sep.size)(hsv:sv≤sep.size)(hn0:n≠0)(hn63:n≤9223372036854775807)(hN:(N:Int)=min (if n<0 then(Lib.countB s sep:Int)+1 else n) ((s.size:Int)+1)):
  Calls Tryd.prog 75 #[.string s,.string sep,.int .i64 sv,.int .i64 n] w fun e w'=>
   e=.returned (.slice (some ⟨w.heap.size,0,none⟩) (Lib.splitB sep sv (N -1) s).length N)∧w'=w.alloc (.cells (Lib.cellsOf (Lib.splitB sep sv (N -1) s) N) 9):=Any.strings_genSplit Tryd.Yi (by kernel_rfl) s sep sv n N m w hs hm h1 hsv hn0 hn63 hN
def Tryd.L6:Go.Shelf.Ren:=⟨fun|105=>51|212=>82|99=>83|165=>84|166=>48|170=>52|169=>53|263=>116|264=>117|206=>118|240=>77|241=>119|276=>114|277=>133|n=>n,fun|9=>9|3=>3|4=>4|20=>20|0=>0|46=>56|109=>135|5=>5|72=>101|76=>104|51=>128|146=>169|53=>82|148=>171|70=>99|37=>54|75=>103|127=>139|164=>167|80=>109|n=>n,fun|n=>n⟩
theorem Tryd.Ye:Go.Proofs.Lays.n105 Tryd.prog Tryd.L6:={
 mixed:=by kernel_rfl
 f99:=Tryd.func83.trans (congrArg some (by kernel_rfl))
 f105:=Tryd.func51.trans (congrArg some (by kernel_rfl))
 f165:=Tryd.func84.trans (congrArg some (by kernel_rfl))
 f166:=Tryd.func48.trans (congrArg some (by kernel_rfl))
 f169:=Tryd.func53.trans (congrArg some (by kernel_rfl))
 f170:=Tryd.func52.trans (congrArg some (by kernel_rfl))
 f206:=Tryd.func118.trans (congrArg some (by kernel_rfl))
 f212:=Tryd.func82.trans (congrArg some (by kernel_rfl))
 f240:=Tryd.func77.trans (congrArg some (by kernel_rfl))
 f241:=Tryd.func119.trans (congrArg some (by kernel_rfl))
 f263:=Tryd.func116.trans (congrArg some (by kernel_rfl))
 f264:=Tryd.func117.trans (congrArg some (by kernel_rfl))
 f276:=Tryd.func114.trans (congrArg some (by kernel_rfl))
 f277:=Tryd.func133.trans (congrArg some (by kernel_rfl))
 t0:=Tryd.underlying0
 a0:=Tryd.isAgg0
 z0:=Tryd.sizeOf0
 v0:=Tryd.zeroValue0
 t3:=Tryd.underlying3
 a3:=Tryd.isAgg3
 z3:=Tryd.sizeOf3
 v3:=Tryd.zeroValue3
 t4:=Tryd.underlying4
 a4:=Tryd.isAgg4
 z4:=Tryd.sizeOf4
 v4:=Tryd.zeroValue4
 t5:=Tryd.underlying5
 a5:=Tryd.isAgg5
 z5:=Tryd.sizeOf5
 v5:=Tryd.zeroValue5
 t9:=Tryd.underlying9
 a9:=Tryd.isAgg9
 z9:=Tryd.sizeOf9
 v9:=Tryd.zeroValue9
 t20:=Tryd.underlying20
 a20:=Tryd.isAgg20
 z20:=Tryd.sizeOf20
 v20:=Tryd.zeroValue20
 t37:=Tryd.underlying54
 a37:=Tryd.isAgg54
 z37:=Tryd.sizeOf54
 v37:=Tryd.zeroValue54
 t46:=Tryd.underlying56
 a46:=Tryd.isAgg56
 z46:=Tryd.sizeOf56
 v46:=Tryd.zeroValue56
 t51:=Tryd.underlying128
 a51:=Tryd.isAgg128
 z51:=Tryd.sizeOf128
 v51:=Tryd.zeroValue128
 t53:=Tryd.underlying82
 a53:=Tryd.isAgg82
 z53:=Tryd.sizeOf82
 v53:=Tryd.zeroValue82
 t70:=Tryd.underlying99
 a70:=Tryd.isAgg99
 z70:=Tryd.sizeOf99
 v70:=Tryd.zeroValue99
 t72:=Tryd.underlying101
 a72:=Tryd.isAgg101
 z72:=Tryd.sizeOf101
 v72:=Tryd.zeroValue101
 t75:=Tryd.underlying103
 a75:=Tryd.isAgg103
 z75:=Tryd.sizeOf103
 v75:=Tryd.zeroValue103
 t76:=Tryd.underlying104
 a76:=Tryd.isAgg104
 z76:=Tryd.sizeOf104
 v76:=Tryd.zeroValue104
 t109:=Tryd.underlying135
 a109:=Tryd.isAgg135
 z109:=Tryd.sizeOf135
 v109:=Tryd.zeroValue135
 t127:=Tryd.underlying139
 a127:=Tryd.isAgg139
 z127:=Tryd.sizeOf139
 v127:=Tryd.zeroValue139
 t146:=Tryd.underlying169
 a146:=Tryd.isAgg169
 z146:=Tryd.sizeOf169
 v146:=Tryd.zeroValue169
 t148:=Tryd.underlying171
 a148:=Tryd.isAgg171
 z148:=Tryd.sizeOf171
 v148:=Tryd.zeroValue171
 t164:=Tryd.underlying167
 a164:=Tryd.isAgg167
 z164:=Tryd.sizeOf167
 v164:=Tryd.zeroValue167}
theorem Tryd.JJ:Builder.Extra Tryd.prog Tryd.L6:={
 sizeBuilder:=by kernel_rfl
 liesBuilder:=by kernel_rfl
 t5:=Tryd.underlying5
 a5:=Tryd.isAgg5
 z5:=Tryd.sizeOf5
 v5:=Tryd.zeroValue5
 infoByte:=by kernel_rfl
 cellsByte:=by kernel_rfl
 sizeByte:=by kernel_rfl
 neB5:=by decide}
open Go.RowKit Go.Lib in
theorem Tryd.strings_Repeat(s:ByteArray)(c:Nat)(w:World)(hc:c≤9223372036854775807)(hlen:s.size*c≤140737488355328):
  Calls Tryd.prog 51 #[.string s,.int .i64 c] w fun e w'=>e=.returned (.string ⟨(Lib.repeatL s.data.toList c).toArray⟩)∧Below w.heap.size w w':=Any.strings_Repeat Tryd.Ye Tryd.JJ s c w hc hlen
end Go.Proofs
