/-
 DERIVED: THE SHELF's CONTRACTS AT THIS DUMP, IN PLAIN WORDS (tools/lay-plain.mjs out of 'TrydShelf.lean', which tools/lay-shelf.mjs wrote): THE SAME DECLARATIONS UNDER THE SAME NAMES: 'import', 'namespace', 'open', 'def', 'theorem' AND NOTHING ELSE: no command of the shelf's: FOR A HAND-IN. Each laying: the table of numbers ('.._ren') and one theorem, a field a fact of the dump's own or the kernel's comparison; each contract: ONE APPLICATION.
-/
import Derived.Shelf.Strings.Builder1
import Derived.Shelf.Strings.Builder2
import Derived.Shelf.Strings.BuilderF
import Derived.Shelf.Strings.BuilderK
import Derived.Shelf.Strings.Builder2Cap
import Derived.Shelf.Strconv.Itoa0
import Derived.Shelf.Strconv.Itoa1
import Derived.Shelf.LaysM
import Derived.Shelf.Strconv.Itoa2
import Derived.Shelf.Strconv.Itoa3
import Derived.Shelf.Strings.Search1
import Derived.Shelf.Strings.Search2
import Derived.Shelf.Strings.Search3
import Derived.Shelf.Strings.Count
import Derived.Shelf.Strings.Shaped
import Derived.Shelf.Strings.Prefix
import Derived.Shelf.Strings.Split
import Derived.Shelf.Bits.Mul64
import Derived.Shelf.Strings.Repeat
import Derived.Shelf.Unicode.DecodeSlow
import Derived.Shelf.Strings.BuilderCap
import Derived.Test.YtcaandgkdmidkaaDoorProg
set_option linter.unusedVariables false
set_option linter.unusedSimpArgs false
namespace Go.Proofs
open Go.Shelf
def Tryd.K7 : Go.Shelf.Ren := ⟨fun | 169 => 46 | n => n, fun | 70 => 74 | 9 => 9 | 0 => 0 | 72 => 77 | 37 => 75 | 127 => 119 | 3 => 3 | 5 => 5 | n => n, fun | n => n⟩
theorem Tryd.Wa : Go.Proofs.Lays.n169 Tryd.prog Tryd.K7 := {
 mixed := by kernel_rfl
 f169 := Tryd.func46.trans (congrArg some (by kernel_rfl))
 t0 := Tryd.underlying0
 a0 := Tryd.isAgg0
 z0 := Tryd.sizeOf0
 v0 := Tryd.zeroValue0
 t3 := Tryd.underlying3
 a3 := Tryd.isAgg3
 z3 := Tryd.sizeOf3
 v3 := Tryd.zeroValue3
 t9 := Tryd.underlying9
 a9 := Tryd.isAgg9
 z9 := Tryd.sizeOf9
 v9 := Tryd.zeroValue9
 t37 := Tryd.underlying75
 a37 := Tryd.isAgg75
 z37 := Tryd.sizeOf75
 v37 := Tryd.zeroValue75
 t70 := Tryd.underlying74
 a70 := Tryd.isAgg74
 z70 := Tryd.sizeOf74
 v70 := Tryd.zeroValue74
 t72 := Tryd.underlying77
 a72 := Tryd.isAgg77
 z72 := Tryd.sizeOf77
 v72 := Tryd.zeroValue77
 t127 := Tryd.underlying119
 a127 := Tryd.isAgg119
 z127 := Tryd.sizeOf119
 v127 := Tryd.zeroValue119 }
theorem Tryd.Ja : Builder.Extra Tryd.prog Tryd.K7 := {
 sizeBuilder := by kernel_rfl
 liesBuilder := by kernel_rfl
 t5 := Tryd.underlying5
 a5 := Tryd.isAgg5
 z5 := Tryd.sizeOf5
 v5 := Tryd.zeroValue5
 infoByte := by kernel_rfl
 cellsByte := by kernel_rfl
 sizeByte := by kernel_rfl
 neB5 := by decide }
open Go.RowKit in
theorem Tryd.Builder_String_any (B b : Nat) (l : List UInt8) (w : World) (h : Lib.IsBuilder 77 5 B b (Lib.byteCells l) w) (hBw : B ≤ w.heap.size) :
  Calls Tryd.prog 46 #[.pointer (some ⟨b, 0, none⟩)] w fun e w' => e = .returned (.string ⟨l.toArray⟩) ∧ Below B w w' := Any.Builder_String_any Tryd.Wa Tryd.Ja B b l w h hBw
def Tryd.ON : Go.Shelf.Ren := ⟨fun | 171 => 70 | 243 => 89 | 246 => 107 | 283 => 118 | 284 => 119 | 285 => 120 | 286 => 121 | 129 => 126 | 317 => 125 | 318 => 127 | 319 => 128 | 320 => 129 | 337 => 135 | 338 => 136 | n => n, fun | 3 => 3 | 9 => 9 | 2 => 2 | 4 => 4 | 171 => 169 | 0 => 0 | 53 => 71 | 37 => 75 | 5 => 5 | 173 => 172 | 212 => 177 | 51 => 139 | 20 => 20 | 213 => 178 | 46 => 70 | 232 => 186 | 233 => 187 | n => n, fun | 17 => 1 | 18 => 4 | 19 => 5 | n => n⟩
theorem Tryd.U4 : Go.Proofs.LaysM.n171 Tryd.prog Tryd.ON := {
 mixed := by kernel_rfl
 f129 := Tryd.func126.trans (congrArg some (by kernel_rfl))
 f171 := Tryd.func70.trans (congrArg some (by kernel_rfl))
 f243 := Tryd.func89.trans (congrArg some (by kernel_rfl))
 f246 := Tryd.func107.trans (congrArg some (by kernel_rfl))
 f283 := Tryd.func118.trans (congrArg some (by kernel_rfl))
 f284 := Tryd.func119.trans (congrArg some (by kernel_rfl))
 f285 := Tryd.func120.trans (congrArg some (by kernel_rfl))
 f286 := Tryd.func121.trans (congrArg some (by kernel_rfl))
 f317 := Tryd.func125.trans (congrArg some (by kernel_rfl))
 f318 := Tryd.func127.trans (congrArg some (by kernel_rfl))
 f319 := Tryd.func128.trans (congrArg some (by kernel_rfl))
 f320 := Tryd.func129.trans (congrArg some (by kernel_rfl))
 f337 := Tryd.func135.trans (congrArg some (by kernel_rfl))
 f338 := Tryd.func136.trans (congrArg some (by kernel_rfl))
 t0 := Tryd.underlying0
 a0 := Tryd.isAgg0
 z0 := Tryd.sizeOf0
 v0 := Tryd.zeroValue0
 t2 := Tryd.underlying2
 a2 := Tryd.isAgg2
 z2 := Tryd.sizeOf2
 v2 := Tryd.zeroValue2
 t3 := Tryd.underlying3
 a3 := Tryd.isAgg3
 z3 := Tryd.sizeOf3
 v3 := Tryd.zeroValue3
 t4 := Tryd.underlying4
 a4 := Tryd.isAgg4
 z4 := Tryd.sizeOf4
 v4 := Tryd.zeroValue4
 t5 := Tryd.underlying5
 a5 := Tryd.isAgg5
 z5 := Tryd.sizeOf5
 v5 := Tryd.zeroValue5
 t9 := Tryd.underlying9
 a9 := Tryd.isAgg9
 z9 := Tryd.sizeOf9
 v9 := Tryd.zeroValue9
 t20 := Tryd.underlying20
 a20 := Tryd.isAgg20
 z20 := Tryd.sizeOf20
 v20 := Tryd.zeroValue20
 t37 := Tryd.underlying75
 a37 := Tryd.isAgg75
 z37 := Tryd.sizeOf75
 v37 := Tryd.zeroValue75
 t46 := Tryd.underlying70
 a46 := Tryd.isAgg70
 z46 := Tryd.sizeOf70
 v46 := Tryd.zeroValue70
 t51 := Tryd.underlying139
 a51 := Tryd.isAgg139
 z51 := Tryd.sizeOf139
 v51 := Tryd.zeroValue139
 t53 := Tryd.underlying71
 a53 := Tryd.isAgg71
 z53 := Tryd.sizeOf71
 v53 := Tryd.zeroValue71
 t171 := Tryd.underlying169
 a171 := Tryd.isAgg169
 z171 := Tryd.sizeOf169
 v171 := Tryd.zeroValue169
 t173 := Tryd.underlying172
 a173 := Tryd.isAgg172
 z173 := Tryd.sizeOf172
 v173 := Tryd.zeroValue172
 t212 := Tryd.underlying177
 a212 := Tryd.isAgg177
 z212 := Tryd.sizeOf177
 v212 := Tryd.zeroValue177
 t213 := Tryd.underlying178
 a213 := Tryd.isAgg178
 z213 := Tryd.sizeOf178
 t232 := Tryd.underlying186
 a232 := Tryd.isAgg186
 z232 := Tryd.sizeOf186
 v232 := Tryd.zeroValue186
 t233 := Tryd.underlying187
 a233 := Tryd.isAgg187
 z233 := Tryd.sizeOf187
 v233 := Tryd.zeroValue187
 g17 := by kernel_rfl
 g18 := by kernel_rfl
 g19 := by kernel_rfl
 i0 := by kernel_rfl
 i2 := by kernel_rfl
 i3 := by kernel_rfl
 i4 := by kernel_rfl
 i5 := by kernel_rfl
 i9 := by kernel_rfl
 i20 := by kernel_rfl
 i37 := by kernel_rfl
 i46 := by kernel_rfl
 i51 := by kernel_rfl
 i53 := by kernel_rfl
 i171 := by kernel_rfl
 i173 := by kernel_rfl
 i212 := by kernel_rfl
 i232 := by kernel_rfl
 i233 := by kernel_rfl
 m17 := by kernel_rfl
 m18 := by kernel_rfl
 m19 := by kernel_rfl }
open Go.RowKit Go.Sort Go.Lib in
theorem Tryd.strconv_Itoa (n : Int) (h0 : -9223372036854775808 ≤ n) (h1 : n ≤ 9223372036854775807) (w : World) (htab : Lib.TabIs Tryd.prog w "internal/strconv.uint64pow10" .u64 Lib.pow10Tab) :
  Calls Tryd.prog 70 #[.int .i64 n] w fun e w' => e = .returned (.string ⟨(Lib.itoa n).toArray⟩) ∧ ∃ k os, w' = grow (w.drewN k) os := Any.strconv_Itoa Tryd.U4 n h0 h1 w htab
end Go.Proofs
