/-
 DERIVED: THE SHELF's CONTRACTS AT THIS DUMP, IN PLAIN WORDS (tools/lay-plain.mjs out of 'TryShelf.lean', which tools/lay-shelf.mjs wrote): THE SAME DECLARATIONS UNDER THE SAME NAMES: 'import', 'namespace', 'open', 'def', 'theorem' AND NOTHING ELSE: no command of the shelf's: FOR A HAND-IN. Each laying: the table of numbers ('.._ren') and one theorem, a field a fact of the dump's own or the kernel's comparison; each contract: ONE APPLICATION.
-/
import Derived.Shelf.Strings.Builder1
import Derived.Shelf.Small.Strs
import Derived.Shelf.Small.Wraps
import Derived.Shelf.Strings.BuilderF
import Derived.Shelf.Strings.BuilderK
import Derived.Shelf.Strings.Search1
import Derived.Shelf.Strings.Search2
import Derived.Shelf.Strings.Cut
import Derived.Shelf.LaysM
import Derived.Shelf.Strings.Shaped
import Derived.Shelf.Strings.Prefix
import Derived.Shelf.Strings.BuilderCap
import Derived.Test.YtbandpkgjepklaaProg
set_option linter.unusedVariables false
set_option linter.unusedSimpArgs false
namespace Go.Proofs
open Go.Shelf
def Try.Tm : Go.Shelf.Ren := ⟨fun | 137 => 36 | 217 => 58 | 266 => 78 | n => n, fun | 9 => 9 | 5 => 5 | 3 => 3 | n => n, fun | n => n⟩
theorem Try.Zt : Go.Proofs.Lays.n137 Try.prog Try.Tm := {
 mixed := by kernel_rfl
 f137 := Try.func36.trans (congrArg some (by kernel_rfl))
 f217 := Try.func58.trans (congrArg some (by kernel_rfl))
 f266 := Try.func78.trans (congrArg some (by kernel_rfl))
 t3 := Try.underlying3
 a3 := Try.isAgg3
 z3 := Try.sizeOf3
 v3 := Try.zeroValue3
 t5 := Try.underlying5
 a5 := Try.isAgg5
 z5 := Try.sizeOf5
 v5 := Try.zeroValue5
 t9 := Try.underlying9
 a9 := Try.isAgg9
 z9 := Try.sizeOf9
 v9 := Try.zeroValue9 }
open Go.RowKit in
theorem Try.strings_IndexByte (s : ByteArray) (c : Int) (w : World) :
  Calls Try.prog 36 #[.string s, .int .u8 c] w fun e w' => e = .returned (.int .i64 (Lib.indexByte s.data.toList c.toNat.toUInt8)) ∧ w' = w := Any.strings_IndexByte Try.Zt s c w
def Try.Tl : Go.Shelf.Ren := ⟨fun | 103 => 102 | 210 => 109 | 206 => 112 | n => n, fun | 9 => 9 | 4 => 4 | 24 => 145 | 3 => 3 | n => n, fun | n => n⟩
theorem Try.Zs : Go.Proofs.Lays.n103 Try.prog Try.Tl := {
 mixed := by kernel_rfl
 f103 := Try.func102.trans (congrArg some (by kernel_rfl))
 f206 := Try.func112.trans (congrArg some (by kernel_rfl))
 f210 := Try.func109.trans (congrArg some (by kernel_rfl))
 t3 := Try.underlying3
 a3 := Try.isAgg3
 z3 := Try.sizeOf3
 v3 := Try.zeroValue3
 t4 := Try.underlying4
 a4 := Try.isAgg4
 z4 := Try.sizeOf4
 v4 := Try.zeroValue4
 t9 := Try.underlying9
 a9 := Try.isAgg9
 z9 := Try.sizeOf9
 v9 := Try.zeroValue9
 t24 := Try.underlying145
 a24 := Try.isAgg145
 z24 := Try.sizeOf145
 v24 := Try.zeroValue145 }
open Go.RowKit in
theorem Try.strings_CutPrefix (s p : ByteArray) (w : World) :
  Calls Try.prog 102 #[.string s, .string p] w fun e w' => e = .returned (.tuple #[.string ⟨(Lib.trimPrefix s.data.toList p.data.toList).toArray⟩, .bool (Lib.hasPrefix s.data.toList p.data.toList)]) ∧ w' = w := Any.strings_CutPrefix Try.Zs s p w
def Try.Tn : Go.Shelf.Ren := ⟨fun | 145 => 103 | 220 => 110 | 219 => 113 | 217 => 58 | 225 => 114 | 224 => 115 | 267 => 116 | 266 => 78 | 314 => 117 | n => n, fun | 9 => 9 | 4 => 4 | 59 => 147 | 3 => 3 | 5 => 5 | 46 => 74 | 146 => 155 | 51 => 154 | n => n, fun | 1 => 0 | n => n⟩
theorem Try.Zu : Go.Proofs.Lays.n145 Try.prog Try.Tn := {
 mixed := by kernel_rfl
 f145 := Try.func103.trans (congrArg some (by kernel_rfl))
 f217 := Try.func58.trans (congrArg some (by kernel_rfl))
 f219 := Try.func113.trans (congrArg some (by kernel_rfl))
 f220 := Try.func110.trans (congrArg some (by kernel_rfl))
 f224 := Try.func115.trans (congrArg some (by kernel_rfl))
 f225 := Try.func114.trans (congrArg some (by kernel_rfl))
 f266 := Try.func78.trans (congrArg some (by kernel_rfl))
 f267 := Try.func116.trans (congrArg some (by kernel_rfl))
 f314 := Try.func117.trans (congrArg some (by kernel_rfl))
 t3 := Try.underlying3
 a3 := Try.isAgg3
 z3 := Try.sizeOf3
 v3 := Try.zeroValue3
 t4 := Try.underlying4
 a4 := Try.isAgg4
 z4 := Try.sizeOf4
 v4 := Try.zeroValue4
 t5 := Try.underlying5
 a5 := Try.isAgg5
 z5 := Try.sizeOf5
 v5 := Try.zeroValue5
 t9 := Try.underlying9
 a9 := Try.isAgg9
 z9 := Try.sizeOf9
 v9 := Try.zeroValue9
 t46 := Try.underlying74
 a46 := Try.isAgg74
 z46 := Try.sizeOf74
 v46 := Try.zeroValue74
 t51 := Try.underlying154
 a51 := Try.isAgg154
 z51 := Try.sizeOf154
 v51 := Try.zeroValue154
 t59 := Try.underlying147
 a59 := Try.isAgg147
 z59 := Try.sizeOf147
 v59 := Try.zeroValue147
 t146 := Try.underlying155
 a146 := Try.isAgg155
 z146 := Try.sizeOf155
 v146 := Try.zeroValue155
 g1 := by kernel_rfl }
open Go.RowKit Go.Lib in
theorem Try.strings_Cut (s sep : ByteArray) (m : Int) (w : World) (hs : s.size < 4294967281) (hm : w.cell? ⟨0, 0, none⟩ = some (.int .i64 m)) :
  Calls Try.prog 103 #[.string s, .string sep] w fun e w' => e = .returned (.tuple #[.string ⟨(Lib.cut s.data.toList sep.data.toList).1.toArray⟩, .string ⟨(Lib.cut s.data.toList sep.data.toList).2.1.toArray⟩, .bool (Lib.cut s.data.toList sep.data.toList).2.2]) ∧ ∃ n, w' = w.drewN n := Any.strings_Cut Try.Zu s sep m w hs hm
end Go.Proofs
