/-
 DERIVED: THE SHELF's CONTRACTS AT THIS DUMP, IN PLAIN WORDS (tools/lay-plain.mjs out of 'TrydShelf.lean', which tools/lay-shelf.mjs wrote): THE SAME DECLARATIONS UNDER THE SAME NAMES: 'import', 'namespace', 'open', 'def', 'theorem' AND NOTHING ELSE: no command of the shelf's: FOR A HAND-IN. Each laying: the table of numbers ('.._ren') and one theorem, a field a fact of the dump's own or the kernel's comparison; each contract: ONE APPLICATION.
-/
import Derived.Shelf.Strings.Builder1
import Derived.Shelf.Strings.Builder2
import Derived.Shelf.Small.Bits
import Derived.Shelf.Small.Strs
import Derived.Shelf.Small.Wraps
import Derived.Shelf.Strings.BuilderF
import Derived.Shelf.Strings.BuilderK
import Derived.Shelf.Strings.Builder2Cap
import Derived.Shelf.Strconv.Itoa0
import Derived.Shelf.Strconv.Itoa1
import Derived.Shelf.LaysM
import Derived.Shelf.Strconv.Itoa2
import Derived.Shelf.Strconv.Itoa3
import Derived.Shelf.Strings.Search1
import Derived.Shelf.Strings.Search2
import Derived.Shelf.Strings.Search3
import Derived.Shelf.Strings.Count
import Derived.Shelf.Strings.Shaped
import Derived.Shelf.Strings.Prefix
import Derived.Shelf.Strings.Split
import Derived.Shelf.Bits.Mul64
import Derived.Shelf.Strings.Repeat
import Derived.Shelf.Unicode.DecodeSlow
import Derived.Shelf.Strings.BuilderCap
import Derived.Ground.Names2Prog
import Derived.Shelf.Slices.SearchI
import Derived.Shelf.SlGeneric
import Derived.Ground.SlgcProg
import Derived.Ground.SlsfProg
import Derived.Shelf.SlSortCmp.NoneTotal
import Derived.Shelf.SlicesG.Cmp
import Derived.Test.YtfkfmokccekccaaDoorProg
set_option linter.unusedVariables false
set_option linter.unusedSimpArgs false
namespace Go.Proofs
open Go.Shelf
def Tryd.AeH:Go.Shelf.Ren:=⟨fun|106=>24|213=>42|265=>72|n=>n,fun|9=>9|3=>3|n=>n,fun|n=>n⟩
theorem Tryd.AgF:Go.Proofs.Lays.n106 Tryd.prog Tryd.AeH:={
 mixed:=by kernel_rfl
 f106:=Tryd.func24.trans (congrArg some (by kernel_rfl))
 f213:=Tryd.func42.trans (congrArg some (by kernel_rfl))
 f265:=Tryd.func72.trans (congrArg some (by kernel_rfl))
 t3:=Tryd.underlying3
 a3:=Tryd.isAgg3
 z3:=Tryd.sizeOf3
 v3:=Tryd.zeroValue3
 t9:=Tryd.underlying9
 a9:=Tryd.isAgg9
 z9:=Tryd.sizeOf9
 v9:=Tryd.zeroValue9}
open Go.RowKit in
theorem Tryd.strings_Compare(a b:ByteArray)(w:World):
  Calls Tryd.prog 24 #[.string a,.string b] w fun e w'=>e=.returned (.int .i64 (Lib.compareBytes a.data.toList b.data.toList))∧w'=w:=Any.strings_Compare Tryd.AgF a b w
def Tryd.AeI:Go.Shelf.Ren:=⟨fun|122=>41|215=>71|n=>n,fun|3=>3|4=>4|n=>n,fun|n=>n⟩
theorem Tryd.AgG:Go.Proofs.Lays.n122 Tryd.prog Tryd.AeI:={
 mixed:=by kernel_rfl
 f122:=Tryd.func41.trans (congrArg some (by kernel_rfl))
 f215:=Tryd.func71.trans (congrArg some (by kernel_rfl))
 t3:=Tryd.underlying3
 a3:=Tryd.isAgg3
 z3:=Tryd.sizeOf3
 v3:=Tryd.zeroValue3
 t4:=Tryd.underlying4
 a4:=Tryd.isAgg4
 z4:=Tryd.sizeOf4
 v4:=Tryd.zeroValue4}
open Go.RowKit in
theorem Tryd.cmp_Compare_int(x y:Int)(w:World):
  Calls Tryd.prog 41 #[.int .i64 x,.int .i64 y] w fun e w'=>e=.returned (.int .i64 (Lib.compareInt x y))∧w'=w:=Any.cmp_Compare_int Tryd.AgG x y w
def Tryd.AeJ:Go.Shelf.Ren:=⟨fun|143=>111|219=>129|217=>136|225=>137|224=>138|267=>139|266=>146|314=>147|n=>n,fun|9=>9|3=>3|4=>4|5=>5|46=>56|146=>169|51=>128|n=>n,fun|1=>0|n=>n⟩
theorem Tryd.AgH:Go.Proofs.Lays.n143 Tryd.prog Tryd.AeJ:={
 mixed:=by kernel_rfl
 f143:=Tryd.func111.trans (congrArg some (by kernel_rfl))
 f217:=Tryd.func136.trans (congrArg some (by kernel_rfl))
 f219:=Tryd.func129.trans (congrArg some (by kernel_rfl))
 f224:=Tryd.func138.trans (congrArg some (by kernel_rfl))
 f225:=Tryd.func137.trans (congrArg some (by kernel_rfl))
 f266:=Tryd.func146.trans (congrArg some (by kernel_rfl))
 f267:=Tryd.func139.trans (congrArg some (by kernel_rfl))
 f314:=Tryd.func147.trans (congrArg some (by kernel_rfl))
 t3:=Tryd.underlying3
 a3:=Tryd.isAgg3
 z3:=Tryd.sizeOf3
 v3:=Tryd.zeroValue3
 t4:=Tryd.underlying4
 a4:=Tryd.isAgg4
 z4:=Tryd.sizeOf4
 v4:=Tryd.zeroValue4
 t5:=Tryd.underlying5
 a5:=Tryd.isAgg5
 z5:=Tryd.sizeOf5
 v5:=Tryd.zeroValue5
 t9:=Tryd.underlying9
 a9:=Tryd.isAgg9
 z9:=Tryd.sizeOf9
 v9:=Tryd.zeroValue9
 t46:=Tryd.underlying56
 a46:=Tryd.isAgg56
 z46:=Tryd.sizeOf56
 v46:=Tryd.zeroValue56
 t51:=Tryd.underlying128
 a51:=Tryd.isAgg128
 z51:=Tryd.sizeOf128
 v51:=Tryd.zeroValue128
 t146:=Tryd.underlying169
 a146:=Tryd.isAgg169
 z146:=Tryd.sizeOf169
 v146:=Tryd.zeroValue169
 g1:=by kernel_rfl}
open Go.RowKit Go.Lib in
theorem Tryd.strings_Index_one(s:ByteArray)(c:UInt8)(w:World):
  Calls Tryd.prog 111 #[.string s,.string ⟨#[c]⟩] w fun e w'=>e=.returned (.int .i64 (Lib.indexByte s.data.toList c))∧w'=w:=Any.strings_Index_one Tryd.AgH s c w
def Tryd.AeK:Go.Shelf.Ren:=⟨fun|144=>122|143=>111|219=>129|217=>136|225=>137|224=>138|267=>139|266=>146|314=>147|n=>n,fun|9=>9|4=>4|3=>3|5=>5|46=>56|146=>169|51=>128|n=>n,fun|1=>0|n=>n⟩
theorem Tryd.AgI:Go.Proofs.Lays.n144 Tryd.prog Tryd.AeK:={
 mixed:=by kernel_rfl
 f143:=Tryd.func111.trans (congrArg some (by kernel_rfl))
 f144:=Tryd.func122.trans (congrArg some (by kernel_rfl))
 f217:=Tryd.func136.trans (congrArg some (by kernel_rfl))
 f219:=Tryd.func129.trans (congrArg some (by kernel_rfl))
 f224:=Tryd.func138.trans (congrArg some (by kernel_rfl))
 f225:=Tryd.func137.trans (congrArg some (by kernel_rfl))
 f266:=Tryd.func146.trans (congrArg some (by kernel_rfl))
 f267:=Tryd.func139.trans (congrArg some (by kernel_rfl))
 f314:=Tryd.func147.trans (congrArg some (by kernel_rfl))
 t3:=Tryd.underlying3
 a3:=Tryd.isAgg3
 z3:=Tryd.sizeOf3
 v3:=Tryd.zeroValue3
 t4:=Tryd.underlying4
 a4:=Tryd.isAgg4
 z4:=Tryd.sizeOf4
 v4:=Tryd.zeroValue4
 t5:=Tryd.underlying5
 a5:=Tryd.isAgg5
 z5:=Tryd.sizeOf5
 v5:=Tryd.zeroValue5
 t9:=Tryd.underlying9
 a9:=Tryd.isAgg9
 z9:=Tryd.sizeOf9
 v9:=Tryd.zeroValue9
 t46:=Tryd.underlying56
 a46:=Tryd.isAgg56
 z46:=Tryd.sizeOf56
 v46:=Tryd.zeroValue56
 t51:=Tryd.underlying128
 a51:=Tryd.isAgg128
 z51:=Tryd.sizeOf128
 v51:=Tryd.zeroValue128
 t146:=Tryd.underlying169
 a146:=Tryd.isAgg169
 z146:=Tryd.sizeOf169
 v146:=Tryd.zeroValue169
 g1:=by kernel_rfl}
open Go.RowKit Go.Lib in
theorem Tryd.strings_Contains_one(s:ByteArray)(c:UInt8)(w:World):
  Calls Tryd.prog 122 #[.string s,.string ⟨#[c]⟩] w fun e w'=>e=.returned (.bool (decide (0≤Lib.indexByte s.data.toList c)))∧w'=w:=Any.strings_Contains_one Tryd.AgI s c w
def Tryd.Rr:Go.Shelf.Ren:=⟨fun|138=>73|195=>109|218=>110|143=>111|219=>129|217=>136|225=>137|224=>138|267=>139|266=>146|314=>147|n=>n,fun|9=>9|3=>3|4=>4|5=>5|0=>0|46=>56|146=>169|51=>128|n=>n,fun|1=>0|n=>n⟩
theorem Tryd.Yf:Go.Proofs.Lays.n138 Tryd.prog Tryd.Rr:={
 mixed:=by kernel_rfl
 f138:=Tryd.func73.trans (congrArg some (by kernel_rfl))
 f143:=Tryd.func111.trans (congrArg some (by kernel_rfl))
 f195:=Tryd.func109.trans (congrArg some (by kernel_rfl))
 f217:=Tryd.func136.trans (congrArg some (by kernel_rfl))
 f218:=Tryd.func110.trans (congrArg some (by kernel_rfl))
 f219:=Tryd.func129.trans (congrArg some (by kernel_rfl))
 f224:=Tryd.func138.trans (congrArg some (by kernel_rfl))
 f225:=Tryd.func137.trans (congrArg some (by kernel_rfl))
 f266:=Tryd.func146.trans (congrArg some (by kernel_rfl))
 f267:=Tryd.func139.trans (congrArg some (by kernel_rfl))
 f314:=Tryd.func147.trans (congrArg some (by kernel_rfl))
 t0:=Tryd.underlying0
 a0:=Tryd.isAgg0
 z0:=Tryd.sizeOf0
 v0:=Tryd.zeroValue0
 t3:=Tryd.underlying3
 a3:=Tryd.isAgg3
 z3:=Tryd.sizeOf3
 v3:=Tryd.zeroValue3
 t4:=Tryd.underlying4
 a4:=Tryd.isAgg4
 z4:=Tryd.sizeOf4
 v4:=Tryd.zeroValue4
 t5:=Tryd.underlying5
 a5:=Tryd.isAgg5
 z5:=Tryd.sizeOf5
 v5:=Tryd.zeroValue5
 t9:=Tryd.underlying9
 a9:=Tryd.isAgg9
 z9:=Tryd.sizeOf9
 v9:=Tryd.zeroValue9
 t46:=Tryd.underlying56
 a46:=Tryd.isAgg56
 z46:=Tryd.sizeOf56
 v46:=Tryd.zeroValue56
 t51:=Tryd.underlying128
 a51:=Tryd.isAgg128
 z51:=Tryd.sizeOf128
 v51:=Tryd.zeroValue128
 t146:=Tryd.underlying169
 a146:=Tryd.isAgg169
 z146:=Tryd.sizeOf169
 v146:=Tryd.zeroValue169
 g1:=by kernel_rfl}
open Go.RowKit Go.Lib in
theorem Tryd.strings_Count_one(s:ByteArray)(c:UInt8)(w:World):
  Calls Tryd.prog 73 #[.string s,.string ⟨#[c]⟩] w fun e w'=>e=.returned (.int .i64 (Lib.countByte s.data.toList c))∧w'=w:=Any.strings_Count_one Tryd.Yf s c w
def Tryd.Rq:Go.Shelf.Ren:=⟨fun|100=>112|207=>130|n=>n,fun|9=>9|4=>4|3=>3|n=>n,fun|n=>n⟩
theorem Tryd.Yd:Go.Proofs.Lays.n100 Tryd.prog Tryd.Rq:={
 mixed:=by kernel_rfl
 f100:=Tryd.func112.trans (congrArg some (by kernel_rfl))
 f207:=Tryd.func130.trans (congrArg some (by kernel_rfl))
 t3:=Tryd.underlying3
 a3:=Tryd.isAgg3
 z3:=Tryd.sizeOf3
 v3:=Tryd.zeroValue3
 t4:=Tryd.underlying4
 a4:=Tryd.isAgg4
 z4:=Tryd.sizeOf4
 v4:=Tryd.zeroValue4
 t9:=Tryd.underlying9
 a9:=Tryd.isAgg9
 z9:=Tryd.sizeOf9
 v9:=Tryd.zeroValue9}
open Go.RowKit Go.Lib in
theorem Tryd.strings_HasSuffix(s p:ByteArray)(w:World)(hs:s.size≤9223372036854775807):
  Calls Tryd.prog 112 #[.string s,.string p] w fun e w'=>e=.returned (.bool (Lib.hasSuffix s.data.toList p.data.toList))∧w'=w:=Any.strings_HasSuffix Tryd.Yd s p w hs
def Tryd.Rt:Go.Shelf.Ren:=⟨fun|221=>75|268=>113|138=>73|143=>111|195=>109|197=>131|218=>110|219=>129|260=>140|217=>136|225=>137|224=>138|267=>139|266=>146|314=>147|n=>n,fun|9=>9|3=>3|31=>44|4=>4|0=>0|105=>183|21=>21|5=>5|46=>56|119=>194|139=>197|138=>196|146=>169|51=>128|n=>n,fun|1=>0|3=>1|4=>2|n=>n⟩
theorem Tryd.Yi:Go.Proofs.Lays.n221 Tryd.prog Tryd.Rt:={
 mixed:=by kernel_rfl
 f138:=Tryd.func73.trans (congrArg some (by kernel_rfl))
 f143:=Tryd.func111.trans (congrArg some (by kernel_rfl))
 f195:=Tryd.func109.trans (congrArg some (by kernel_rfl))
 f197:=Tryd.func131.trans (congrArg some (by kernel_rfl))
 f217:=Tryd.func136.trans (congrArg some (by kernel_rfl))
 f218:=Tryd.func110.trans (congrArg some (by kernel_rfl))
 f219:=Tryd.func129.trans (congrArg some (by kernel_rfl))
 f221:=Tryd.func75.trans (congrArg some (by kernel_rfl))
 f224:=Tryd.func138.trans (congrArg some (by kernel_rfl))
 f225:=Tryd.func137.trans (congrArg some (by kernel_rfl))
 f260:=Tryd.func140.trans (congrArg some (by kernel_rfl))
 f266:=Tryd.func146.trans (congrArg some (by kernel_rfl))
 f267:=Tryd.func139.trans (congrArg some (by kernel_rfl))
 f268:=Tryd.func113.trans (congrArg some (by kernel_rfl))
 f314:=Tryd.func147.trans (congrArg some (by kernel_rfl))
 t0:=Tryd.underlying0
 a0:=Tryd.isAgg0
 z0:=Tryd.sizeOf0
 v0:=Tryd.zeroValue0
 t3:=Tryd.underlying3
 a3:=Tryd.isAgg3
 z3:=Tryd.sizeOf3
 v3:=Tryd.zeroValue3
 t4:=Tryd.underlying4
 a4:=Tryd.isAgg4
 z4:=Tryd.sizeOf4
 v4:=Tryd.zeroValue4
 t5:=Tryd.underlying5
 a5:=Tryd.isAgg5
 z5:=Tryd.sizeOf5
 v5:=Tryd.zeroValue5
 t9:=Tryd.underlying9
 a9:=Tryd.isAgg9
 z9:=Tryd.sizeOf9
 v9:=Tryd.zeroValue9
 t21:=Tryd.underlying21
 a21:=Tryd.isAgg21
 z21:=Tryd.sizeOf21
 v21:=Tryd.zeroValue21
 t31:=Tryd.underlying44
 a31:=Tryd.isAgg44
 z31:=Tryd.sizeOf44
 v31:=Tryd.zeroValue44
 t46:=Tryd.underlying56
 a46:=Tryd.isAgg56
 z46:=Tryd.sizeOf56
 v46:=Tryd.zeroValue56
 t51:=Tryd.underlying128
 a51:=Tryd.isAgg128
 z51:=Tryd.sizeOf128
 v51:=Tryd.zeroValue128
 t105:=Tryd.underlying183
 a105:=Tryd.isAgg183
 z105:=Tryd.sizeOf183
 v105:=Tryd.zeroValue183
 t119:=Tryd.underlying194
 a119:=Tryd.isAgg194
 z119:=Tryd.sizeOf194
 t138:=Tryd.underlying196
 a138:=Tryd.isAgg196
 z138:=Tryd.sizeOf196
 v138:=Tryd.zeroValue196
 t139:=Tryd.underlying197
 a139:=Tryd.isAgg197
 z139:=Tryd.sizeOf197
 v139:=Tryd.zeroValue197
 t146:=Tryd.underlying169
 a146:=Tryd.isAgg169
 z146:=Tryd.sizeOf169
 v146:=Tryd.zeroValue169
 g1:=by kernel_rfl
 g3:=by kernel_rfl
 g4:=by kernel_rfl}
open Go.RowKit Go.Lib in
theorem Tryd.strings_genSplit(s sep:ByteArray)(sv:Nat)(n:Int)(N:Nat)(m:Int)(w:World)(hs:s.size<4294967281)(hm:w.cell? ⟨0,0,none⟩=some (.int .i64 m))(h1:1≤sep.size)(hsv:sv≤sep.size)(hn0:n≠0)(hn63:n≤9223372036854775807)(hN:(N:Int)=min (if n<0 then(Lib.countB s sep:Int)+1 else n) ((s.size:Int)+1)):
  Calls Tryd.prog 75 #[.string s,.string sep,.int .i64 sv,.int .i64 n] w fun e w'=>
   e=.returned (.slice (some ⟨w.heap.size,0,none⟩) (Lib.splitB sep sv (N -1) s).length N)∧w'=w.alloc (.cells (Lib.cellsOf (Lib.splitB sep sv (N -1) s) N) 9):=Any.strings_genSplit Tryd.Yi (by kernel_rfl) s sep sv n N m w hs hm h1 hsv hn0 hn63 hN
def Tryd.Aeh:Go.Shelf.Ren:=⟨fun|6=>35|15=>39|14=>60|28=>69|29=>70|20=>96|21=>97|22=>98|23=>99|24=>100|25=>101|26=>102|27=>103|46=>125|47=>105|48=>106|49=>126|50=>127|57=>135|n=>n,fun|22=>57|24=>87|25=>89|3=>3|39=>56|0=>0|53=>128|55=>82|4=>4|46=>121|45=>120|50=>125|5=>5|9=>9|66=>159|70=>163|76=>181|77=>76|n=>n,fun|n=>n⟩
theorem Tryd.Ag2:Go.Proofs.SlLaysF0.n6 Tryd.prog Tryd.Aeh:={
 mixed:=by kernel_rfl
 f6:=⟨Tryd.f35.name,by decide,Tryd.func35.trans (congrArg some (by kernel_rfl))⟩
 f14:=⟨Tryd.f60.name,by decide,Tryd.func60.trans (congrArg some (by kernel_rfl))⟩
 f15:=Tryd.func39.trans (congrArg some (by kernel_rfl))
 f20:=⟨Tryd.f96.name,by decide,Tryd.func96.trans (congrArg some (by kernel_rfl))⟩
 f21:=⟨Tryd.f97.name,by decide,Tryd.func97.trans (congrArg some (by kernel_rfl))⟩
 f22:=⟨Tryd.f98.name,by decide,Tryd.func98.trans (congrArg some (by kernel_rfl))⟩
 f23:=⟨Tryd.f99.name,by decide,Tryd.func99.trans (congrArg some (by kernel_rfl))⟩
 f24:=⟨Tryd.f100.name,by decide,Tryd.func100.trans (congrArg some (by kernel_rfl))⟩
 f25:=⟨Tryd.f101.name,by decide,Tryd.func101.trans (congrArg some (by kernel_rfl))⟩
 f26:=⟨Tryd.f102.name,by decide,Tryd.func102.trans (congrArg some (by kernel_rfl))⟩
 f27:=⟨Tryd.f103.name,by decide,Tryd.func103.trans (congrArg some (by kernel_rfl))⟩
 f28:=Tryd.func69.trans (congrArg some (by kernel_rfl))
 f29:=Tryd.func70.trans (congrArg some (by kernel_rfl))
 f46:=⟨Tryd.f125.name,by decide,Tryd.func125.trans (congrArg some (by kernel_rfl))⟩
 f47:=Tryd.func105.trans (congrArg some (by kernel_rfl))
 f48:=Tryd.func106.trans (congrArg some (by kernel_rfl))
 f49:=⟨Tryd.f126.name,by decide,Tryd.func126.trans (congrArg some (by kernel_rfl))⟩
 f50:=⟨Tryd.f127.name,by decide,Tryd.func127.trans (congrArg some (by kernel_rfl))⟩
 f57:=⟨Tryd.f135.name,by decide,Tryd.func135.trans (congrArg some (by kernel_rfl))⟩
 t0:=Tryd.underlying0
 a0:=Tryd.isAgg0
 z0:=Tryd.sizeOf0
 v0:=Tryd.zeroValue0
 t3:=Tryd.underlying3
 a3:=Tryd.isAgg3
 z3:=Tryd.sizeOf3
 v3:=Tryd.zeroValue3
 t4:=Tryd.underlying4
 a4:=Tryd.isAgg4
 z4:=Tryd.sizeOf4
 v4:=Tryd.zeroValue4
 t5:=Tryd.underlying5
 a5:=Tryd.isAgg5
 z5:=Tryd.sizeOf5
 v5:=Tryd.zeroValue5
 t9:=Tryd.underlying9
 a9:=Tryd.isAgg9
 z9:=Tryd.sizeOf9
 v9:=Tryd.zeroValue9
 t22:=Tryd.underlying57
 a22:=Tryd.isAgg57
 z22:=Tryd.sizeOf57
 v22:=Tryd.zeroValue57
 t25:=Tryd.underlying89
 a25:=Tryd.isAgg89
 z25:=Tryd.sizeOf89
 v25:=Tryd.zeroValue89
 t39:=Tryd.underlying56
 a39:=Tryd.isAgg56
 z39:=Tryd.sizeOf56
 v39:=Tryd.zeroValue56
 t45:=Tryd.underlying120
 a45:=Tryd.isAgg120
 z45:=Tryd.sizeOf120
 v45:=Tryd.zeroValue120
 t46:=Tryd.underlying121
 a46:=Tryd.isAgg121
 z46:=Tryd.sizeOf121
 v46:=Tryd.zeroValue121
 t50:=Tryd.underlying125
 a50:=Tryd.isAgg125
 z50:=Tryd.sizeOf125
 v50:=Tryd.zeroValue125
 t53:=Tryd.underlying128
 a53:=Tryd.isAgg128
 z53:=Tryd.sizeOf128
 v53:=Tryd.zeroValue128
 t55:=Tryd.underlying82
 a55:=Tryd.isAgg82
 z55:=Tryd.sizeOf82
 v55:=Tryd.zeroValue82
 t66:=Tryd.underlying159
 a66:=Tryd.isAgg159
 z66:=Tryd.sizeOf159
 v66:=Tryd.zeroValue159
 t70:=Tryd.underlying163
 a70:=Tryd.isAgg163
 z70:=Tryd.sizeOf163
 v70:=Tryd.zeroValue163
 t76:=Tryd.underlying181
 a76:=Tryd.isAgg181
 z76:=Tryd.sizeOf181
 v76:=Tryd.zeroValue181
 t77:=Tryd.underlying76
 a77:=Tryd.isAgg76
 z77:=Tryd.sizeOf76
 v77:=Tryd.zeroValue76}
def Tryd.Aei:Go.Shelf.Ren:=⟨fun|6=>21|15=>39|14=>38|28=>69|29=>70|20=>61|21=>62|22=>63|23=>64|24=>65|25=>66|26=>67|27=>68|46=>104|47=>105|48=>106|49=>107|50=>108|57=>128|n=>n,fun|22=>27|24=>34|25=>62|3=>3|39=>56|0=>0|53=>128|55=>82|4=>4|46=>121|45=>120|50=>125|5=>5|9=>9|66=>159|70=>163|76=>181|77=>76|n=>n,fun|n=>n⟩
theorem Tryd.Ago:Go.Proofs.SlLaysF0.n6 Tryd.prog Tryd.Aei:={
 mixed:=by kernel_rfl
 f6:=⟨Tryd.f21.name,by decide,Tryd.func21.trans (congrArg some (by kernel_rfl))⟩
 f14:=⟨Tryd.f38.name,by decide,Tryd.func38.trans (congrArg some (by kernel_rfl))⟩
 f15:=Tryd.func39.trans (congrArg some (by kernel_rfl))
 f20:=⟨Tryd.f61.name,by decide,Tryd.func61.trans (congrArg some (by kernel_rfl))⟩
 f21:=⟨Tryd.f62.name,by decide,Tryd.func62.trans (congrArg some (by kernel_rfl))⟩
 f22:=⟨Tryd.f63.name,by decide,Tryd.func63.trans (congrArg some (by kernel_rfl))⟩
 f23:=⟨Tryd.f64.name,by decide,Tryd.func64.trans (congrArg some (by kernel_rfl))⟩
 f24:=⟨Tryd.f65.name,by decide,Tryd.func65.trans (congrArg some (by kernel_rfl))⟩
 f25:=⟨Tryd.f66.name,by decide,Tryd.func66.trans (congrArg some (by kernel_rfl))⟩
 f26:=⟨Tryd.f67.name,by decide,Tryd.func67.trans (congrArg some (by kernel_rfl))⟩
 f27:=⟨Tryd.f68.name,by decide,Tryd.func68.trans (congrArg some (by kernel_rfl))⟩
 f28:=Tryd.func69.trans (congrArg some (by kernel_rfl))
 f29:=Tryd.func70.trans (congrArg some (by kernel_rfl))
 f46:=⟨Tryd.f104.name,by decide,Tryd.func104.trans (congrArg some (by kernel_rfl))⟩
 f47:=Tryd.func105.trans (congrArg some (by kernel_rfl))
 f48:=Tryd.func106.trans (congrArg some (by kernel_rfl))
 f49:=⟨Tryd.f107.name,by decide,Tryd.func107.trans (congrArg some (by kernel_rfl))⟩
 f50:=⟨Tryd.f108.name,by decide,Tryd.func108.trans (congrArg some (by kernel_rfl))⟩
 f57:=⟨Tryd.f128.name,by decide,Tryd.func128.trans (congrArg some (by kernel_rfl))⟩
 t0:=Tryd.underlying0
 a0:=Tryd.isAgg0
 z0:=Tryd.sizeOf0
 v0:=Tryd.zeroValue0
 t3:=Tryd.underlying3
 a3:=Tryd.isAgg3
 z3:=Tryd.sizeOf3
 v3:=Tryd.zeroValue3
 t4:=Tryd.underlying4
 a4:=Tryd.isAgg4
 z4:=Tryd.sizeOf4
 v4:=Tryd.zeroValue4
 t5:=Tryd.underlying5
 a5:=Tryd.isAgg5
 z5:=Tryd.sizeOf5
 v5:=Tryd.zeroValue5
 t9:=Tryd.underlying9
 a9:=Tryd.isAgg9
 z9:=Tryd.sizeOf9
 v9:=Tryd.zeroValue9
 t22:=Tryd.underlying27
 a22:=Tryd.isAgg27
 z22:=Tryd.sizeOf27
 v22:=Tryd.zeroValue27
 t25:=Tryd.underlying62
 a25:=Tryd.isAgg62
 z25:=Tryd.sizeOf62
 v25:=Tryd.zeroValue62
 t39:=Tryd.underlying56
 a39:=Tryd.isAgg56
 z39:=Tryd.sizeOf56
 v39:=Tryd.zeroValue56
 t45:=Tryd.underlying120
 a45:=Tryd.isAgg120
 z45:=Tryd.sizeOf120
 v45:=Tryd.zeroValue120
 t46:=Tryd.underlying121
 a46:=Tryd.isAgg121
 z46:=Tryd.sizeOf121
 v46:=Tryd.zeroValue121
 t50:=Tryd.underlying125
 a50:=Tryd.isAgg125
 z50:=Tryd.sizeOf125
 v50:=Tryd.zeroValue125
 t53:=Tryd.underlying128
 a53:=Tryd.isAgg128
 z53:=Tryd.sizeOf128
 v53:=Tryd.zeroValue128
 t55:=Tryd.underlying82
 a55:=Tryd.isAgg82
 z55:=Tryd.sizeOf82
 v55:=Tryd.zeroValue82
 t66:=Tryd.underlying159
 a66:=Tryd.isAgg159
 z66:=Tryd.sizeOf159
 v66:=Tryd.zeroValue159
 t70:=Tryd.underlying163
 a70:=Tryd.isAgg163
 z70:=Tryd.sizeOf163
 v70:=Tryd.zeroValue163
 t76:=Tryd.underlying181
 a76:=Tryd.isAgg181
 z76:=Tryd.sizeOf181
 v76:=Tryd.zeroValue181
 t77:=Tryd.underlying76
 a77:=Tryd.isAgg76
 z77:=Tryd.sizeOf76
 v77:=Tryd.zeroValue76}
end Go.Proofs
