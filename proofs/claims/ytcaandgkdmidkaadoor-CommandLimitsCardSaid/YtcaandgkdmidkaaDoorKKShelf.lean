/-
 DERIVED: THE SHELF's CONTRACTS AT THIS DUMP, IN PLAIN WORDS (tools/lay-plain.mjs out of 'TrydShelf.lean', which tools/lay-shelf.mjs wrote): THE SAME DECLARATIONS UNDER THE SAME NAMES: 'import', 'namespace', 'open', 'def', 'theorem' AND NOTHING ELSE: no command of the shelf's: FOR A HAND-IN. Each laying: the table of numbers ('.._ren') and one theorem, a field a fact of the dump's own or the kernel's comparison; each contract: ONE APPLICATION.
-/
import Derived.Shelf.Strings.Builder1
import Derived.Shelf.Strings.Builder2
import Derived.Shelf.Strings.BuilderF
import Derived.Shelf.Strings.BuilderK
import Derived.Shelf.Strings.Builder2Cap
import Derived.Shelf.Strconv.Itoa0
import Derived.Shelf.Strconv.Itoa1
import Derived.Shelf.LaysM
import Derived.Shelf.Strconv.Itoa2
import Derived.Shelf.Strconv.Itoa3
import Derived.Shelf.Strings.Search1
import Derived.Shelf.Strings.Search2
import Derived.Shelf.Strings.Search3
import Derived.Shelf.Strings.Count
import Derived.Shelf.Strings.Shaped
import Derived.Shelf.Strings.Prefix
import Derived.Shelf.Strings.Split
import Derived.Shelf.Bits.Mul64
import Derived.Shelf.Strings.Repeat
import Derived.Shelf.Unicode.DecodeSlow
import Derived.Shelf.Strings.BuilderCap
import Derived.Test.YtcaandgkdmidkaaDoorProg
set_option linter.unusedVariables false
set_option linter.unusedSimpArgs false
namespace Go.Proofs
open Go.Shelf
def Tryd.K7 : Go.Shelf.Ren := ⟨fun | 169 => 46 | n => n, fun | 70 => 74 | 9 => 9 | 0 => 0 | 72 => 77 | 37 => 75 | 127 => 119 | 3 => 3 | 5 => 5 | n => n, fun | n => n⟩
theorem Tryd.Wa : Go.Proofs.Lays.n169 Tryd.prog Tryd.K7 := {
 mixed := by kernel_rfl
 f169 := Tryd.func46.trans (congrArg some (by kernel_rfl))
 t0 := Tryd.underlying0
 a0 := Tryd.isAgg0
 z0 := Tryd.sizeOf0
 v0 := Tryd.zeroValue0
 t3 := Tryd.underlying3
 a3 := Tryd.isAgg3
 z3 := Tryd.sizeOf3
 v3 := Tryd.zeroValue3
 t9 := Tryd.underlying9
 a9 := Tryd.isAgg9
 z9 := Tryd.sizeOf9
 v9 := Tryd.zeroValue9
 t37 := Tryd.underlying75
 a37 := Tryd.isAgg75
 z37 := Tryd.sizeOf75
 v37 := Tryd.zeroValue75
 t70 := Tryd.underlying74
 a70 := Tryd.isAgg74
 z70 := Tryd.sizeOf74
 v70 := Tryd.zeroValue74
 t72 := Tryd.underlying77
 a72 := Tryd.isAgg77
 z72 := Tryd.sizeOf77
 v72 := Tryd.zeroValue77
 t127 := Tryd.underlying119
 a127 := Tryd.isAgg119
 z127 := Tryd.sizeOf119
 v127 := Tryd.zeroValue119 }
theorem Tryd.Ja : Builder.Extra Tryd.prog Tryd.K7 := {
 sizeBuilder := by kernel_rfl
 liesBuilder := by kernel_rfl
 t5 := Tryd.underlying5
 a5 := Tryd.isAgg5
 z5 := Tryd.sizeOf5
 v5 := Tryd.zeroValue5
 infoByte := by kernel_rfl
 cellsByte := by kernel_rfl
 sizeByte := by kernel_rfl
 neB5 := by decide }
open Go.RowKit in
theorem Tryd.Builder_String_any (B b : Nat) (l : List UInt8) (w : World) (h : Lib.IsBuilder 77 5 B b (Lib.byteCells l) w) (hBw : B ≤ w.heap.size) :
  Calls Tryd.prog 46 #[.pointer (some ⟨b, 0, none⟩)] w fun e w' => e = .returned (.string ⟨l.toArray⟩) ∧ Below B w w' := Any.Builder_String_any Tryd.Wa Tryd.Ja B b l w h hBw
def Tryd.Abb : Go.Shelf.Ren := ⟨fun | 138 => 99 | 195 => 112 | 218 => 113 | 143 => 114 | 219 => 123 | 217 => 130 | 225 => 131 | 224 => 132 | 267 => 133 | 266 => 137 | 314 => 138 | n => n, fun | 9 => 9 | 3 => 3 | 4 => 4 | 5 => 5 | 0 => 0 | 46 => 70 | 146 => 140 | 51 => 139 | n => n, fun | 1 => 0 | n => n⟩
theorem Tryd.Aco : Go.Proofs.Lays.n138 Tryd.prog Tryd.Abb := {
 mixed := by kernel_rfl
 f138 := Tryd.func99.trans (congrArg some (by kernel_rfl))
 f143 := Tryd.func114.trans (congrArg some (by kernel_rfl))
 f195 := Tryd.func112.trans (congrArg some (by kernel_rfl))
 f217 := Tryd.func130.trans (congrArg some (by kernel_rfl))
 f218 := Tryd.func113.trans (congrArg some (by kernel_rfl))
 f219 := Tryd.func123.trans (congrArg some (by kernel_rfl))
 f224 := Tryd.func132.trans (congrArg some (by kernel_rfl))
 f225 := Tryd.func131.trans (congrArg some (by kernel_rfl))
 f266 := Tryd.func137.trans (congrArg some (by kernel_rfl))
 f267 := Tryd.func133.trans (congrArg some (by kernel_rfl))
 f314 := Tryd.func138.trans (congrArg some (by kernel_rfl))
 t0 := Tryd.underlying0
 a0 := Tryd.isAgg0
 z0 := Tryd.sizeOf0
 v0 := Tryd.zeroValue0
 t3 := Tryd.underlying3
 a3 := Tryd.isAgg3
 z3 := Tryd.sizeOf3
 v3 := Tryd.zeroValue3
 t4 := Tryd.underlying4
 a4 := Tryd.isAgg4
 z4 := Tryd.sizeOf4
 v4 := Tryd.zeroValue4
 t5 := Tryd.underlying5
 a5 := Tryd.isAgg5
 z5 := Tryd.sizeOf5
 v5 := Tryd.zeroValue5
 t9 := Tryd.underlying9
 a9 := Tryd.isAgg9
 z9 := Tryd.sizeOf9
 v9 := Tryd.zeroValue9
 t46 := Tryd.underlying70
 a46 := Tryd.isAgg70
 z46 := Tryd.sizeOf70
 v46 := Tryd.zeroValue70
 t51 := Tryd.underlying139
 a51 := Tryd.isAgg139
 z51 := Tryd.sizeOf139
 v51 := Tryd.zeroValue139
 t146 := Tryd.underlying140
 a146 := Tryd.isAgg140
 z146 := Tryd.sizeOf140
 v146 := Tryd.zeroValue140
 g1 := by kernel_rfl }
open Go.RowKit Go.Lib in
theorem Tryd.strings_Count_one (s : ByteArray) (c : UInt8) (w : World) :
  Calls Tryd.prog 99 #[.string s, .string ⟨#[c]⟩] w fun e w' => e = .returned (.int .i64 (Lib.countByte s.data.toList c)) ∧ w' = w := Any.strings_Count_one Tryd.Aco s c w
def Tryd.Aa9 : Go.Shelf.Ren := ⟨fun | 100 => 115 | 207 => 110 | n => n, fun | 9 => 9 | 4 => 4 | 3 => 3 | n => n, fun | n => n⟩
theorem Tryd.Acm : Go.Proofs.Lays.n100 Tryd.prog Tryd.Aa9 := {
 mixed := by kernel_rfl
 f100 := Tryd.func115.trans (congrArg some (by kernel_rfl))
 f207 := Tryd.func110.trans (congrArg some (by kernel_rfl))
 t3 := Tryd.underlying3
 a3 := Tryd.isAgg3
 z3 := Tryd.sizeOf3
 v3 := Tryd.zeroValue3
 t4 := Tryd.underlying4
 a4 := Tryd.isAgg4
 z4 := Tryd.sizeOf4
 v4 := Tryd.zeroValue4
 t9 := Tryd.underlying9
 a9 := Tryd.isAgg9
 z9 := Tryd.sizeOf9
 v9 := Tryd.zeroValue9 }
open Go.RowKit Go.Lib in
theorem Tryd.strings_HasSuffix (s p : ByteArray) (w : World) (hs : s.size ≤ 9223372036854775807) :
  Calls Tryd.prog 115 #[.string s, .string p] w fun e w' => e = .returned (.bool (Lib.hasSuffix s.data.toList p.data.toList)) ∧ w' = w := Any.strings_HasSuffix Tryd.Acm s p w hs
def Tryd.Aba : Go.Shelf.Ren := ⟨fun | 102 => 77 | 209 => 96 | 207 => 110 | n => n, fun | 9 => 9 | 4 => 4 | 3 => 3 | n => n, fun | n => n⟩
theorem Tryd.Acn : Go.Proofs.Lays.n102 Tryd.prog Tryd.Aba := {
 mixed := by kernel_rfl
 f102 := Tryd.func77.trans (congrArg some (by kernel_rfl))
 f207 := Tryd.func110.trans (congrArg some (by kernel_rfl))
 f209 := Tryd.func96.trans (congrArg some (by kernel_rfl))
 t3 := Tryd.underlying3
 a3 := Tryd.isAgg3
 z3 := Tryd.sizeOf3
 v3 := Tryd.zeroValue3
 t4 := Tryd.underlying4
 a4 := Tryd.isAgg4
 z4 := Tryd.sizeOf4
 v4 := Tryd.zeroValue4
 t9 := Tryd.underlying9
 a9 := Tryd.isAgg9
 z9 := Tryd.sizeOf9
 v9 := Tryd.zeroValue9 }
open Go.RowKit Go.Lib in
theorem Tryd.strings_TrimSuffix (s p : ByteArray) (w : World) (hs : s.size ≤ 9223372036854775807) :
  Calls Tryd.prog 77 #[.string s, .string p] w fun e w' => e = .returned (.string ⟨(Lib.trimSuffix s.data.toList p.data.toList).toArray⟩) ∧ w' = w := Any.strings_TrimSuffix Tryd.Acn s p w hs
def Tryd.Abc : Go.Shelf.Ren := ⟨fun | 221 => 101 | 268 => 116 | 138 => 99 | 143 => 114 | 195 => 112 | 197 => 124 | 218 => 113 | 219 => 123 | 260 => 134 | 217 => 130 | 225 => 131 | 224 => 132 | 267 => 133 | 266 => 137 | 314 => 138 | n => n, fun | 9 => 9 | 3 => 3 | 31 => 37 | 4 => 4 | 0 => 0 | 105 => 174 | 21 => 21 | 5 => 5 | 46 => 70 | 119 => 182 | 139 => 185 | 138 => 184 | 146 => 140 | 51 => 139 | n => n, fun | 1 => 0 | 3 => 2 | 4 => 3 | n => n⟩
theorem Tryd.Acp : Go.Proofs.Lays.n221 Tryd.prog Tryd.Abc := {
 mixed := by kernel_rfl
 f138 := Tryd.func99.trans (congrArg some (by kernel_rfl))
 f143 := Tryd.func114.trans (congrArg some (by kernel_rfl))
 f195 := Tryd.func112.trans (congrArg some (by kernel_rfl))
 f197 := Tryd.func124.trans (congrArg some (by kernel_rfl))
 f217 := Tryd.func130.trans (congrArg some (by kernel_rfl))
 f218 := Tryd.func113.trans (congrArg some (by kernel_rfl))
 f219 := Tryd.func123.trans (congrArg some (by kernel_rfl))
 f221 := Tryd.func101.trans (congrArg some (by kernel_rfl))
 f224 := Tryd.func132.trans (congrArg some (by kernel_rfl))
 f225 := Tryd.func131.trans (congrArg some (by kernel_rfl))
 f260 := Tryd.func134.trans (congrArg some (by kernel_rfl))
 f266 := Tryd.func137.trans (congrArg some (by kernel_rfl))
 f267 := Tryd.func133.trans (congrArg some (by kernel_rfl))
 f268 := Tryd.func116.trans (congrArg some (by kernel_rfl))
 f314 := Tryd.func138.trans (congrArg some (by kernel_rfl))
 t0 := Tryd.underlying0
 a0 := Tryd.isAgg0
 z0 := Tryd.sizeOf0
 v0 := Tryd.zeroValue0
 t3 := Tryd.underlying3
 a3 := Tryd.isAgg3
 z3 := Tryd.sizeOf3
 v3 := Tryd.zeroValue3
 t4 := Tryd.underlying4
 a4 := Tryd.isAgg4
 z4 := Tryd.sizeOf4
 v4 := Tryd.zeroValue4
 t5 := Tryd.underlying5
 a5 := Tryd.isAgg5
 z5 := Tryd.sizeOf5
 v5 := Tryd.zeroValue5
 t9 := Tryd.underlying9
 a9 := Tryd.isAgg9
 z9 := Tryd.sizeOf9
 v9 := Tryd.zeroValue9
 t21 := Tryd.underlying21
 a21 := Tryd.isAgg21
 z21 := Tryd.sizeOf21
 v21 := Tryd.zeroValue21
 t31 := Tryd.underlying37
 a31 := Tryd.isAgg37
 z31 := Tryd.sizeOf37
 v31 := Tryd.zeroValue37
 t46 := Tryd.underlying70
 a46 := Tryd.isAgg70
 z46 := Tryd.sizeOf70
 v46 := Tryd.zeroValue70
 t51 := Tryd.underlying139
 a51 := Tryd.isAgg139
 z51 := Tryd.sizeOf139
 v51 := Tryd.zeroValue139
 t105 := Tryd.underlying174
 a105 := Tryd.isAgg174
 z105 := Tryd.sizeOf174
 v105 := Tryd.zeroValue174
 t119 := Tryd.underlying182
 a119 := Tryd.isAgg182
 z119 := Tryd.sizeOf182
 t138 := Tryd.underlying184
 a138 := Tryd.isAgg184
 z138 := Tryd.sizeOf184
 v138 := Tryd.zeroValue184
 t139 := Tryd.underlying185
 a139 := Tryd.isAgg185
 z139 := Tryd.sizeOf185
 v139 := Tryd.zeroValue185
 t146 := Tryd.underlying140
 a146 := Tryd.isAgg140
 z146 := Tryd.sizeOf140
 v146 := Tryd.zeroValue140
 g1 := by kernel_rfl
 g3 := by kernel_rfl
 g4 := by kernel_rfl }
open Go.RowKit Go.Lib in
theorem Tryd.strings_genSplit (s sep : ByteArray) (sv : Nat) (n : Int) (N : Nat) (m : Int) (w : World) (hs : s.size < 4294967281) (hm : w.cell? ⟨0, 0, none⟩ = some (.int .i64 m)) (h1 : 1 ≤ sep.size) (hsv : sv ≤ sep.size) (hn0 : n ≠ 0) (hn63 : n ≤ 9223372036854775807) (hN : (N : Int) = min (if n < 0 then (Lib.countB s sep : Int) + 1 else n) ((s.size : Int) + 1)) :
  Calls Tryd.prog 101 #[.string s, .string sep, .int .i64 sv, .int .i64 n] w fun e w' =>
   e = .returned (.slice (some ⟨w.heap.size, 0, none⟩) (Lib.splitB sep sv (N - 1) s).length N) ∧ w' = w.alloc (.cells (Lib.cellsOf (Lib.splitB sep sv (N - 1) s) N) 9) := Any.strings_genSplit Tryd.Acp (by kernel_rfl) s sep sv n N m w hs hm h1 hsv hn0 hn63 hN
end Go.Proofs
