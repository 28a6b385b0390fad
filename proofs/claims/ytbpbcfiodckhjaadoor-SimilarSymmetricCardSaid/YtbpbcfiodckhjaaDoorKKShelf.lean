/-
 DERIVED: THE SHELF's CONTRACTS AT THIS DUMP, IN PLAIN WORDS (tools/lay-plain.mjs out of 'TrydShelf.lean', which tools/lay-shelf.mjs wrote): THE SAME DECLARATIONS UNDER THE SAME NAMES: 'import', 'namespace', 'open', 'def', 'theorem' AND NOTHING ELSE: no command of the shelf's: FOR A HAND-IN. Each laying: the table of numbers ('.._ren') and one theorem, a field a fact of the dump's own or the kernel's comparison; each contract: ONE APPLICATION.
-/
import Derived.Shelf.Small.Bits
import Derived.Shelf.Small.Strs
import Derived.Shelf.Small.Wraps
import Derived.Shelf.Utf8.RuneCount
import Derived.Shelf.Strconv.Itoa0
import Derived.Shelf.Strings.Search1
import Derived.Shelf.Strings.Search2
import Derived.Shelf.Strings.Search3
import Derived.Shelf.Strings.Count
import Derived.Shelf.LaysM
import Derived.Shelf.Strings.Shaped
import Derived.Shelf.Sort.Plain
import Derived.Shelf.Strings.Prefix
import Derived.Shelf.Strings.Split
import Derived.Shelf.Unicode.Decode
import Derived.Shelf.Strings.RuneCount
import Derived.Shelf.Strings.Explode
import Derived.Shelf.Unicode.DecodeSlow
import Derived.Shelf.Unicode.DecodeAny
import Derived.Ground.Names2Prog
import Derived.Shelf.Slices.SearchI
import Derived.Shelf.Slices.In.SortNone
import Derived.Test.YtbpbcfiodckhjaaDoorProg
set_option linter.unusedVariables false
set_option linter.unusedSimpArgs false
namespace Go.Proofs
open Go.Shelf
def Tryd.NU : Go.Shelf.Ren := ⟨fun | 138 => 77 | 195 => 93 | 218 => 94 | 143 => 73 | 219 => 90 | 217 => 119 | 225 => 120 | 224 => 121 | 267 => 122 | 266 => 142 | 314 => 143 | n => n, fun | 9 => 9 | 3 => 3 | 4 => 4 | 5 => 5 | 0 => 0 | 46 => 80 | 146 => 155 | 51 => 130 | n => n, fun | 1 => 0 | n => n⟩
theorem Tryd.SC : Go.Proofs.Lays.n138 Tryd.prog Tryd.NU := {
 mixed := by kernel_rfl
 f138 := Tryd.func77.trans (congrArg some (by kernel_rfl))
 f143 := Tryd.func73.trans (congrArg some (by kernel_rfl))
 f195 := Tryd.func93.trans (congrArg some (by kernel_rfl))
 f217 := Tryd.func119.trans (congrArg some (by kernel_rfl))
 f218 := Tryd.func94.trans (congrArg some (by kernel_rfl))
 f219 := Tryd.func90.trans (congrArg some (by kernel_rfl))
 f224 := Tryd.func121.trans (congrArg some (by kernel_rfl))
 f225 := Tryd.func120.trans (congrArg some (by kernel_rfl))
 f266 := Tryd.func142.trans (congrArg some (by kernel_rfl))
 f267 := Tryd.func122.trans (congrArg some (by kernel_rfl))
 f314 := Tryd.func143.trans (congrArg some (by kernel_rfl))
 t0 := Tryd.underlying0
 a0 := Tryd.isAgg0
 z0 := Tryd.sizeOf0
 v0 := Tryd.zeroValue0
 t3 := Tryd.underlying3
 a3 := Tryd.isAgg3
 z3 := Tryd.sizeOf3
 v3 := Tryd.zeroValue3
 t4 := Tryd.underlying4
 a4 := Tryd.isAgg4
 z4 := Tryd.sizeOf4
 v4 := Tryd.zeroValue4
 t5 := Tryd.underlying5
 a5 := Tryd.isAgg5
 z5 := Tryd.sizeOf5
 v5 := Tryd.zeroValue5
 t9 := Tryd.underlying9
 a9 := Tryd.isAgg9
 z9 := Tryd.sizeOf9
 v9 := Tryd.zeroValue9
 t46 := Tryd.underlying80
 a46 := Tryd.isAgg80
 z46 := Tryd.sizeOf80
 v46 := Tryd.zeroValue80
 t51 := Tryd.underlying130
 a51 := Tryd.isAgg130
 z51 := Tryd.sizeOf130
 v51 := Tryd.zeroValue130
 t146 := Tryd.underlying155
 a146 := Tryd.isAgg155
 z146 := Tryd.sizeOf155
 v146 := Tryd.zeroValue155
 g1 := by kernel_rfl }
open Go.RowKit Go.Lib in
theorem Tryd.strings_Count_one (s : ByteArray) (c : UInt8) (w : World) :
  Calls Tryd.prog 77 #[.string s, .string ⟨#[c]⟩] w fun e w' => e = .returned (.int .i64 (Lib.countByte s.data.toList c)) ∧ w' = w := Any.strings_Count_one Tryd.SC s c w
def Tryd.NT : Go.Shelf.Ren := ⟨fun | 100 => 95 | 207 => 124 | n => n, fun | 9 => 9 | 4 => 4 | 3 => 3 | n => n, fun | n => n⟩
theorem Tryd.SB : Go.Proofs.Lays.n100 Tryd.prog Tryd.NT := {
 mixed := by kernel_rfl
 f100 := Tryd.func95.trans (congrArg some (by kernel_rfl))
 f207 := Tryd.func124.trans (congrArg some (by kernel_rfl))
 t3 := Tryd.underlying3
 a3 := Tryd.isAgg3
 z3 := Tryd.sizeOf3
 v3 := Tryd.zeroValue3
 t4 := Tryd.underlying4
 a4 := Tryd.isAgg4
 z4 := Tryd.sizeOf4
 v4 := Tryd.zeroValue4
 t9 := Tryd.underlying9
 a9 := Tryd.isAgg9
 z9 := Tryd.sizeOf9
 v9 := Tryd.zeroValue9 }
open Go.RowKit Go.Lib in
theorem Tryd.strings_HasSuffix (s p : ByteArray) (w : World) (hs : s.size ≤ 9223372036854775807) :
  Calls Tryd.prog 95 #[.string s, .string p] w fun e w' => e = .returned (.bool (Lib.hasSuffix s.data.toList p.data.toList)) ∧ w' = w := Any.strings_HasSuffix Tryd.SB s p w hs
def Tryd.NX : Go.Shelf.Ren := ⟨fun | 221 => 89 | 268 => 118 | 138 => 77 | 143 => 73 | 195 => 93 | 197 => 92 | 218 => 94 | 219 => 90 | 260 => 123 | 217 => 119 | 225 => 120 | 224 => 121 | 267 => 122 | 266 => 142 | 314 => 143 | n => n, fun | 9 => 9 | 3 => 3 | 31 => 30 | 4 => 4 | 0 => 0 | 105 => 117 | 21 => 21 | 5 => 5 | 46 => 80 | 119 => 157 | 139 => 160 | 138 => 159 | 146 => 155 | 51 => 130 | n => n, fun | 1 => 0 | 3 => 1 | 4 => 2 | n => n⟩
theorem Tryd.SF : Go.Proofs.Lays.n221 Tryd.prog Tryd.NX := {
 mixed := by kernel_rfl
 f138 := Tryd.func77.trans (congrArg some (by kernel_rfl))
 f143 := Tryd.func73.trans (congrArg some (by kernel_rfl))
 f195 := Tryd.func93.trans (congrArg some (by kernel_rfl))
 f197 := Tryd.func92.trans (congrArg some (by kernel_rfl))
 f217 := Tryd.func119.trans (congrArg some (by kernel_rfl))
 f218 := Tryd.func94.trans (congrArg some (by kernel_rfl))
 f219 := Tryd.func90.trans (congrArg some (by kernel_rfl))
 f221 := Tryd.func89.trans (congrArg some (by kernel_rfl))
 f224 := Tryd.func121.trans (congrArg some (by kernel_rfl))
 f225 := Tryd.func120.trans (congrArg some (by kernel_rfl))
 f260 := Tryd.func123.trans (congrArg some (by kernel_rfl))
 f266 := Tryd.func142.trans (congrArg some (by kernel_rfl))
 f267 := Tryd.func122.trans (congrArg some (by kernel_rfl))
 f268 := Tryd.func118.trans (congrArg some (by kernel_rfl))
 f314 := Tryd.func143.trans (congrArg some (by kernel_rfl))
 t0 := Tryd.underlying0
 a0 := Tryd.isAgg0
 z0 := Tryd.sizeOf0
 v0 := Tryd.zeroValue0
 t3 := Tryd.underlying3
 a3 := Tryd.isAgg3
 z3 := Tryd.sizeOf3
 v3 := Tryd.zeroValue3
 t4 := Tryd.underlying4
 a4 := Tryd.isAgg4
 z4 := Tryd.sizeOf4
 v4 := Tryd.zeroValue4
 t5 := Tryd.underlying5
 a5 := Tryd.isAgg5
 z5 := Tryd.sizeOf5
 v5 := Tryd.zeroValue5
 t9 := Tryd.underlying9
 a9 := Tryd.isAgg9
 z9 := Tryd.sizeOf9
 v9 := Tryd.zeroValue9
 t21 := Tryd.underlying21
 a21 := Tryd.isAgg21
 z21 := Tryd.sizeOf21
 v21 := Tryd.zeroValue21
 t31 := Tryd.underlying30
 a31 := Tryd.isAgg30
 z31 := Tryd.sizeOf30
 v31 := Tryd.zeroValue30
 t46 := Tryd.underlying80
 a46 := Tryd.isAgg80
 z46 := Tryd.sizeOf80
 v46 := Tryd.zeroValue80
 t51 := Tryd.underlying130
 a51 := Tryd.isAgg130
 z51 := Tryd.sizeOf130
 v51 := Tryd.zeroValue130
 t105 := Tryd.underlying117
 a105 := Tryd.isAgg117
 z105 := Tryd.sizeOf117
 v105 := Tryd.zeroValue117
 t119 := Tryd.underlying157
 a119 := Tryd.isAgg157
 z119 := Tryd.sizeOf157
 t138 := Tryd.underlying159
 a138 := Tryd.isAgg159
 z138 := Tryd.sizeOf159
 v138 := Tryd.zeroValue159
 t139 := Tryd.underlying160
 a139 := Tryd.isAgg160
 z139 := Tryd.sizeOf160
 v139 := Tryd.zeroValue160
 t146 := Tryd.underlying155
 a146 := Tryd.isAgg155
 z146 := Tryd.sizeOf155
 v146 := Tryd.zeroValue155
 g1 := by kernel_rfl
 g3 := by kernel_rfl
 g4 := by kernel_rfl }
open Go.RowKit Go.Lib in
theorem Tryd.strings_genSplit (s sep : ByteArray) (sv : Nat) (n : Int) (N : Nat) (m : Int) (w : World) (hs : s.size < 4294967281) (hm : w.cell? ⟨0, 0, none⟩ = some (.int .i64 m)) (h1 : 1 ≤ sep.size) (hsv : sv ≤ sep.size) (hn0 : n ≠ 0) (hn63 : n ≤ 9223372036854775807) (hN : (N : Int) = min (if n < 0 then (Lib.countB s sep : Int) + 1 else n) ((s.size : Int) + 1)) :
  Calls Tryd.prog 89 #[.string s, .string sep, .int .i64 sv, .int .i64 n] w fun e w' =>
   e = .returned (.slice (some ⟨w.heap.size, 0, none⟩) (Lib.splitB sep sv (N - 1) s).length N) ∧ w' = w.alloc (.cells (Lib.cellsOf (Lib.splitB sep sv (N - 1) s) N) 9) := Any.strings_genSplit Tryd.SF (by kernel_rfl) s sep sv n N m w hs hm h1 hsv hn0 hn63 hN
end Go.Proofs
