/-
 DERIVED: THE SHELF's CONTRACTS AT THIS DUMP, IN PLAIN WORDS (tools/lay-plain.mjs out of 'TrydShelf.lean', which tools/lay-shelf.mjs wrote): THE SAME DECLARATIONS UNDER THE SAME NAMES: 'import', 'namespace', 'open', 'def', 'theorem' AND NOTHING ELSE: no command of the shelf's: FOR A HAND-IN. Each laying: the table of numbers ('.._ren') and one theorem, a field a fact of the dump's own or the kernel's comparison; each contract: ONE APPLICATION.
-/
import Derived.Shelf.Small.Bits
import Derived.Shelf.Small.Strs
import Derived.Shelf.Small.Wraps
import Derived.Shelf.Strconv.Itoa0
import Derived.Shelf.Strings.Search1
import Derived.Shelf.Strings.Search2
import Derived.Shelf.Strings.Search3
import Derived.Shelf.Strings.Count
import Derived.Shelf.LaysM
import Derived.Shelf.Strings.Shaped
import Derived.Shelf.Strings.Prefix
import Derived.Shelf.Strings.Split
import Derived.Shelf.Unicode.DecodeSlow
import Derived.Ground.Names2Prog
import Derived.Shelf.Slices.SearchI
import Derived.Shelf.SlGeneric
import Derived.Ground.GgzProg
import Derived.Ground.SlgcProg
import Derived.Ground.SlgfProg
import Derived.Ground.SlgmProg
import Derived.Ground.SlsfProg
import Derived.Shelf.SlIter.Nil
import Derived.Shelf.SlSortCmp.NoneTotal
import Derived.Shelf.SlicesG.Cmp
import Derived.Shelf.SlicesQ.IndexFunc
import Derived.Shelf.SortM.Plain
import Derived.Shelf.SortM.SortNone
import Derived.Test.YtbpbcfiodckhjaaDoorProg
set_option linter.unusedVariables false
set_option linter.unusedSimpArgs false
namespace Go.Proofs
open Go.Shelf
def Tryd.QE : Go.Shelf.Ren := ⟨fun | 106 => 60 | 213 => 81 | 265 => 106 | n => n, fun | 9 => 9 | 3 => 3 | n => n, fun | n => n⟩
theorem Tryd.WG : Go.Proofs.Lays.n106 Tryd.prog Tryd.QE := {
 mixed := by kernel_rfl
 f106 := Tryd.func60.trans (congrArg some (by kernel_rfl))
 f213 := Tryd.func81.trans (congrArg some (by kernel_rfl))
 f265 := Tryd.func106.trans (congrArg some (by kernel_rfl))
 t3 := Tryd.underlying3
 a3 := Tryd.isAgg3
 z3 := Tryd.sizeOf3
 v3 := Tryd.zeroValue3
 t9 := Tryd.underlying9
 a9 := Tryd.isAgg9
 z9 := Tryd.sizeOf9
 v9 := Tryd.zeroValue9 }
open Go.RowKit in
theorem Tryd.strings_Compare (a b : ByteArray) (w : World) :
  Calls Tryd.prog 60 #[.string a, .string b] w fun e w' => e = .returned (.int .i64 (Lib.compareBytes a.data.toList b.data.toList)) ∧ w' = w := Any.strings_Compare Tryd.WG a b w
def Tryd.QG : Go.Shelf.Ren := ⟨fun | 143 => 73 | 219 => 90 | 217 => 119 | 225 => 120 | 224 => 121 | 267 => 122 | 266 => 142 | 314 => 143 | n => n, fun | 9 => 9 | 3 => 3 | 4 => 4 | 5 => 5 | 46 => 80 | 146 => 155 | 51 => 130 | n => n, fun | 1 => 0 | n => n⟩
theorem Tryd.WI : Go.Proofs.Lays.n143 Tryd.prog Tryd.QG := {
 mixed := by kernel_rfl
 f143 := Tryd.func73.trans (congrArg some (by kernel_rfl))
 f217 := Tryd.func119.trans (congrArg some (by kernel_rfl))
 f219 := Tryd.func90.trans (congrArg some (by kernel_rfl))
 f224 := Tryd.func121.trans (congrArg some (by kernel_rfl))
 f225 := Tryd.func120.trans (congrArg some (by kernel_rfl))
 f266 := Tryd.func142.trans (congrArg some (by kernel_rfl))
 f267 := Tryd.func122.trans (congrArg some (by kernel_rfl))
 f314 := Tryd.func143.trans (congrArg some (by kernel_rfl))
 t3 := Tryd.underlying3
 a3 := Tryd.isAgg3
 z3 := Tryd.sizeOf3
 v3 := Tryd.zeroValue3
 t4 := Tryd.underlying4
 a4 := Tryd.isAgg4
 z4 := Tryd.sizeOf4
 v4 := Tryd.zeroValue4
 t5 := Tryd.underlying5
 a5 := Tryd.isAgg5
 z5 := Tryd.sizeOf5
 v5 := Tryd.zeroValue5
 t9 := Tryd.underlying9
 a9 := Tryd.isAgg9
 z9 := Tryd.sizeOf9
 v9 := Tryd.zeroValue9
 t46 := Tryd.underlying80
 a46 := Tryd.isAgg80
 z46 := Tryd.sizeOf80
 v46 := Tryd.zeroValue80
 t51 := Tryd.underlying130
 a51 := Tryd.isAgg130
 z51 := Tryd.sizeOf130
 v51 := Tryd.zeroValue130
 t146 := Tryd.underlying155
 a146 := Tryd.isAgg155
 z146 := Tryd.sizeOf155
 v146 := Tryd.zeroValue155
 g1 := by kernel_rfl }
open Go.RowKit Go.Lib in
theorem Tryd.strings_Index_one (s : ByteArray) (c : UInt8) (w : World) :
  Calls Tryd.prog 73 #[.string s, .string ⟨#[c]⟩] w fun e w' => e = .returned (.int .i64 (Lib.indexByte s.data.toList c)) ∧ w' = w := Any.strings_Index_one Tryd.WI s c w
def Tryd.QH : Go.Shelf.Ren := ⟨fun | 144 => 47 | 143 => 73 | 219 => 90 | 217 => 119 | 225 => 120 | 224 => 121 | 267 => 122 | 266 => 142 | 314 => 143 | n => n, fun | 9 => 9 | 4 => 4 | 3 => 3 | 5 => 5 | 46 => 80 | 146 => 155 | 51 => 130 | n => n, fun | 1 => 0 | n => n⟩
theorem Tryd.WJ : Go.Proofs.Lays.n144 Tryd.prog Tryd.QH := {
 mixed := by kernel_rfl
 f143 := Tryd.func73.trans (congrArg some (by kernel_rfl))
 f144 := Tryd.func47.trans (congrArg some (by kernel_rfl))
 f217 := Tryd.func119.trans (congrArg some (by kernel_rfl))
 f219 := Tryd.func90.trans (congrArg some (by kernel_rfl))
 f224 := Tryd.func121.trans (congrArg some (by kernel_rfl))
 f225 := Tryd.func120.trans (congrArg some (by kernel_rfl))
 f266 := Tryd.func142.trans (congrArg some (by kernel_rfl))
 f267 := Tryd.func122.trans (congrArg some (by kernel_rfl))
 f314 := Tryd.func143.trans (congrArg some (by kernel_rfl))
 t3 := Tryd.underlying3
 a3 := Tryd.isAgg3
 z3 := Tryd.sizeOf3
 v3 := Tryd.zeroValue3
 t4 := Tryd.underlying4
 a4 := Tryd.isAgg4
 z4 := Tryd.sizeOf4
 v4 := Tryd.zeroValue4
 t5 := Tryd.underlying5
 a5 := Tryd.isAgg5
 z5 := Tryd.sizeOf5
 v5 := Tryd.zeroValue5
 t9 := Tryd.underlying9
 a9 := Tryd.isAgg9
 z9 := Tryd.sizeOf9
 v9 := Tryd.zeroValue9
 t46 := Tryd.underlying80
 a46 := Tryd.isAgg80
 z46 := Tryd.sizeOf80
 v46 := Tryd.zeroValue80
 t51 := Tryd.underlying130
 a51 := Tryd.isAgg130
 z51 := Tryd.sizeOf130
 v51 := Tryd.zeroValue130
 t146 := Tryd.underlying155
 a146 := Tryd.isAgg155
 z146 := Tryd.sizeOf155
 v146 := Tryd.zeroValue155
 g1 := by kernel_rfl }
open Go.RowKit Go.Lib in
theorem Tryd.strings_Contains_one (s : ByteArray) (c : UInt8) (w : World) :
  Calls Tryd.prog 47 #[.string s, .string ⟨#[c]⟩] w fun e w' => e = .returned (.bool (decide (0 ≤ Lib.indexByte s.data.toList c))) ∧ w' = w := Any.strings_Contains_one Tryd.WJ s c w
def Tryd.QF : Go.Shelf.Ren := ⟨fun | 138 => 77 | 195 => 93 | 218 => 94 | 143 => 73 | 219 => 90 | 217 => 119 | 225 => 120 | 224 => 121 | 267 => 122 | 266 => 142 | 314 => 143 | n => n, fun | 9 => 9 | 3 => 3 | 4 => 4 | 5 => 5 | 0 => 0 | 46 => 80 | 146 => 155 | 51 => 130 | n => n, fun | 1 => 0 | n => n⟩
theorem Tryd.WH : Go.Proofs.Lays.n138 Tryd.prog Tryd.QF := {
 mixed := by kernel_rfl
 f138 := Tryd.func77.trans (congrArg some (by kernel_rfl))
 f143 := Tryd.func73.trans (congrArg some (by kernel_rfl))
 f195 := Tryd.func93.trans (congrArg some (by kernel_rfl))
 f217 := Tryd.func119.trans (congrArg some (by kernel_rfl))
 f218 := Tryd.func94.trans (congrArg some (by kernel_rfl))
 f219 := Tryd.func90.trans (congrArg some (by kernel_rfl))
 f224 := Tryd.func121.trans (congrArg some (by kernel_rfl))
 f225 := Tryd.func120.trans (congrArg some (by kernel_rfl))
 f266 := Tryd.func142.trans (congrArg some (by kernel_rfl))
 f267 := Tryd.func122.trans (congrArg some (by kernel_rfl))
 f314 := Tryd.func143.trans (congrArg some (by kernel_rfl))
 t0 := Tryd.underlying0
 a0 := Tryd.isAgg0
 z0 := Tryd.sizeOf0
 v0 := Tryd.zeroValue0
 t3 := Tryd.underlying3
 a3 := Tryd.isAgg3
 z3 := Tryd.sizeOf3
 v3 := Tryd.zeroValue3
 t4 := Tryd.underlying4
 a4 := Tryd.isAgg4
 z4 := Tryd.sizeOf4
 v4 := Tryd.zeroValue4
 t5 := Tryd.underlying5
 a5 := Tryd.isAgg5
 z5 := Tryd.sizeOf5
 v5 := Tryd.zeroValue5
 t9 := Tryd.underlying9
 a9 := Tryd.isAgg9
 z9 := Tryd.sizeOf9
 v9 := Tryd.zeroValue9
 t46 := Tryd.underlying80
 a46 := Tryd.isAgg80
 z46 := Tryd.sizeOf80
 v46 := Tryd.zeroValue80
 t51 := Tryd.underlying130
 a51 := Tryd.isAgg130
 z51 := Tryd.sizeOf130
 v51 := Tryd.zeroValue130
 t146 := Tryd.underlying155
 a146 := Tryd.isAgg155
 z146 := Tryd.sizeOf155
 v146 := Tryd.zeroValue155
 g1 := by kernel_rfl }
open Go.RowKit Go.Lib in
theorem Tryd.strings_Count_one (s : ByteArray) (c : UInt8) (w : World) :
  Calls Tryd.prog 77 #[.string s, .string ⟨#[c]⟩] w fun e w' => e = .returned (.int .i64 (Lib.countByte s.data.toList c)) ∧ w' = w := Any.strings_Count_one Tryd.WH s c w
def Tryd.QD : Go.Shelf.Ren := ⟨fun | 100 => 95 | 207 => 124 | n => n, fun | 9 => 9 | 4 => 4 | 3 => 3 | n => n, fun | n => n⟩
theorem Tryd.WE : Go.Proofs.Lays.n100 Tryd.prog Tryd.QD := {
 mixed := by kernel_rfl
 f100 := Tryd.func95.trans (congrArg some (by kernel_rfl))
 f207 := Tryd.func124.trans (congrArg some (by kernel_rfl))
 t3 := Tryd.underlying3
 a3 := Tryd.isAgg3
 z3 := Tryd.sizeOf3
 v3 := Tryd.zeroValue3
 t4 := Tryd.underlying4
 a4 := Tryd.isAgg4
 z4 := Tryd.sizeOf4
 v4 := Tryd.zeroValue4
 t9 := Tryd.underlying9
 a9 := Tryd.isAgg9
 z9 := Tryd.sizeOf9
 v9 := Tryd.zeroValue9 }
open Go.RowKit Go.Lib in
theorem Tryd.strings_HasSuffix (s p : ByteArray) (w : World) (hs : s.size ≤ 9223372036854775807) :
  Calls Tryd.prog 95 #[.string s, .string p] w fun e w' => e = .returned (.bool (Lib.hasSuffix s.data.toList p.data.toList)) ∧ w' = w := Any.strings_HasSuffix Tryd.WE s p w hs
def Tryd.QI : Go.Shelf.Ren := ⟨fun | 221 => 89 | 268 => 118 | 138 => 77 | 143 => 73 | 195 => 93 | 197 => 92 | 218 => 94 | 219 => 90 | 260 => 123 | 217 => 119 | 225 => 120 | 224 => 121 | 267 => 122 | 266 => 142 | 314 => 143 | n => n, fun | 9 => 9 | 3 => 3 | 31 => 30 | 4 => 4 | 0 => 0 | 105 => 117 | 21 => 21 | 5 => 5 | 46 => 80 | 119 => 157 | 139 => 160 | 138 => 159 | 146 => 155 | 51 => 130 | n => n, fun | 1 => 0 | 3 => 1 | 4 => 2 | n => n⟩
theorem Tryd.WK : Go.Proofs.Lays.n221 Tryd.prog Tryd.QI := {
 mixed := by kernel_rfl
 f138 := Tryd.func77.trans (congrArg some (by kernel_rfl))
 f143 := Tryd.func73.trans (congrArg some (by kernel_rfl))
 f195 := Tryd.func93.trans (congrArg some (by kernel_rfl))
 f197 := Tryd.func92.trans (congrArg some (by kernel_rfl))
 f217 := Tryd.func119.trans (congrArg some (by kernel_rfl))
 f218 := Tryd.func94.trans (congrArg some (by kernel_rfl))
 f219 := Tryd.func90.trans (congrArg some (by kernel_rfl))
 f221 := Tryd.func89.trans (congrArg some (by kernel_rfl))
 f224 := Tryd.func121.trans (congrArg some (by kernel_rfl))
 f225 := Tryd.func120.trans (congrArg some (by kernel_rfl))
 f260 := Tryd.func123.trans (congrArg some (by kernel_rfl))
 f266 := Tryd.func142.trans (congrArg some (by kernel_rfl))
 f267 := Tryd.func122.trans (congrArg some (by kernel_rfl))
 f268 := Tryd.func118.trans (congrArg some (by kernel_rfl))
 f314 := Tryd.func143.trans (congrArg some (by kernel_rfl))
 t0 := Tryd.underlying0
 a0 := Tryd.isAgg0
 z0 := Tryd.sizeOf0
 v0 := Tryd.zeroValue0
 t3 := Tryd.underlying3
 a3 := Tryd.isAgg3
 z3 := Tryd.sizeOf3
 v3 := Tryd.zeroValue3
 t4 := Tryd.underlying4
 a4 := Tryd.isAgg4
 z4 := Tryd.sizeOf4
 v4 := Tryd.zeroValue4
 t5 := Tryd.underlying5
 a5 := Tryd.isAgg5
 z5 := Tryd.sizeOf5
 v5 := Tryd.zeroValue5
 t9 := Tryd.underlying9
 a9 := Tryd.isAgg9
 z9 := Tryd.sizeOf9
 v9 := Tryd.zeroValue9
 t21 := Tryd.underlying21
 a21 := Tryd.isAgg21
 z21 := Tryd.sizeOf21
 v21 := Tryd.zeroValue21
 t31 := Tryd.underlying30
 a31 := Tryd.isAgg30
 z31 := Tryd.sizeOf30
 v31 := Tryd.zeroValue30
 t46 := Tryd.underlying80
 a46 := Tryd.isAgg80
 z46 := Tryd.sizeOf80
 v46 := Tryd.zeroValue80
 t51 := Tryd.underlying130
 a51 := Tryd.isAgg130
 z51 := Tryd.sizeOf130
 v51 := Tryd.zeroValue130
 t105 := Tryd.underlying117
 a105 := Tryd.isAgg117
 z105 := Tryd.sizeOf117
 v105 := Tryd.zeroValue117
 t119 := Tryd.underlying157
 a119 := Tryd.isAgg157
 z119 := Tryd.sizeOf157
 t138 := Tryd.underlying159
 a138 := Tryd.isAgg159
 z138 := Tryd.sizeOf159
 v138 := Tryd.zeroValue159
 t139 := Tryd.underlying160
 a139 := Tryd.isAgg160
 z139 := Tryd.sizeOf160
 v139 := Tryd.zeroValue160
 t146 := Tryd.underlying155
 a146 := Tryd.isAgg155
 z146 := Tryd.sizeOf155
 v146 := Tryd.zeroValue155
 g1 := by kernel_rfl
 g3 := by kernel_rfl
 g4 := by kernel_rfl }
open Go.RowKit Go.Lib in
theorem Tryd.strings_genSplit (s sep : ByteArray) (sv : Nat) (n : Int) (N : Nat) (m : Int) (w : World) (hs : s.size < 4294967281) (hm : w.cell? ⟨0, 0, none⟩ = some (.int .i64 m)) (h1 : 1 ≤ sep.size) (hsv : sv ≤ sep.size) (hn0 : n ≠ 0) (hn63 : n ≤ 9223372036854775807) (hN : (N : Int) = min (if n < 0 then (Lib.countB s sep : Int) + 1 else n) ((s.size : Int) + 1)) :
  Calls Tryd.prog 89 #[.string s, .string sep, .int .i64 sv, .int .i64 n] w fun e w' =>
   e = .returned (.slice (some ⟨w.heap.size, 0, none⟩) (Lib.splitB sep sv (N - 1) s).length N) ∧ w' = w.alloc (.cells (Lib.cellsOf (Lib.splitB sep sv (N - 1) s) N) 9) := Any.strings_genSplit Tryd.WK (by kernel_rfl) s sep sv n N m w hs hm h1 hsv hn0 hn63 hN
def Tryd.O0 : Go.Shelf.Ren := ⟨fun | 6 => 58 | 15 => 80 | 14 => 79 | 28 => 104 | 29 => 105 | 20 => 96 | 21 => 97 | 22 => 98 | 23 => 99 | 24 => 100 | 25 => 101 | 26 => 102 | 27 => 103 | 46 => 125 | 47 => 126 | 48 => 127 | 49 => 128 | 50 => 129 | 57 => 144 | n => n, fun | 22 => 47 | 24 => 56 | 25 => 92 | 3 => 3 | 39 => 80 | 0 => 0 | 53 => 130 | 55 => 104 | 4 => 4 | 46 => 123 | 45 => 122 | 50 => 127 | 5 => 5 | 9 => 9 | 66 => 142 | 70 => 146 | 76 => 161 | 77 => 162 | n => n, fun | n => n⟩
theorem Tryd.XC : Go.Proofs.SlLaysF0.n6 Tryd.prog Tryd.O0 := {
 mixed := by kernel_rfl
 f6 := ⟨Tryd.f58.name, by decide, Tryd.func58.trans (congrArg some (by kernel_rfl))⟩
 f14 := ⟨Tryd.f79.name, by decide, Tryd.func79.trans (congrArg some (by kernel_rfl))⟩
 f15 := Tryd.func80.trans (congrArg some (by kernel_rfl))
 f20 := ⟨Tryd.f96.name, by decide, Tryd.func96.trans (congrArg some (by kernel_rfl))⟩
 f21 := ⟨Tryd.f97.name, by decide, Tryd.func97.trans (congrArg some (by kernel_rfl))⟩
 f22 := ⟨Tryd.f98.name, by decide, Tryd.func98.trans (congrArg some (by kernel_rfl))⟩
 f23 := ⟨Tryd.f99.name, by decide, Tryd.func99.trans (congrArg some (by kernel_rfl))⟩
 f24 := ⟨Tryd.f100.name, by decide, Tryd.func100.trans (congrArg some (by kernel_rfl))⟩
 f25 := ⟨Tryd.f101.name, by decide, Tryd.func101.trans (congrArg some (by kernel_rfl))⟩
 f26 := ⟨Tryd.f102.name, by decide, Tryd.func102.trans (congrArg some (by kernel_rfl))⟩
 f27 := ⟨Tryd.f103.name, by decide, Tryd.func103.trans (congrArg some (by kernel_rfl))⟩
 f28 := Tryd.func104.trans (congrArg some (by kernel_rfl))
 f29 := Tryd.func105.trans (congrArg some (by kernel_rfl))
 f46 := ⟨Tryd.f125.name, by decide, Tryd.func125.trans (congrArg some (by kernel_rfl))⟩
 f47 := Tryd.func126.trans (congrArg some (by kernel_rfl))
 f48 := Tryd.func127.trans (congrArg some (by kernel_rfl))
 f49 := ⟨Tryd.f128.name, by decide, Tryd.func128.trans (congrArg some (by kernel_rfl))⟩
 f50 := ⟨Tryd.f129.name, by decide, Tryd.func129.trans (congrArg some (by kernel_rfl))⟩
 f57 := ⟨Tryd.f144.name, by decide, Tryd.func144.trans (congrArg some (by kernel_rfl))⟩
 t0 := Tryd.underlying0
 a0 := Tryd.isAgg0
 z0 := Tryd.sizeOf0
 v0 := Tryd.zeroValue0
 t3 := Tryd.underlying3
 a3 := Tryd.isAgg3
 z3 := Tryd.sizeOf3
 v3 := Tryd.zeroValue3
 t4 := Tryd.underlying4
 a4 := Tryd.isAgg4
 z4 := Tryd.sizeOf4
 v4 := Tryd.zeroValue4
 t5 := Tryd.underlying5
 a5 := Tryd.isAgg5
 z5 := Tryd.sizeOf5
 v5 := Tryd.zeroValue5
 t9 := Tryd.underlying9
 a9 := Tryd.isAgg9
 z9 := Tryd.sizeOf9
 v9 := Tryd.zeroValue9
 t22 := Tryd.underlying47
 a22 := Tryd.isAgg47
 z22 := Tryd.sizeOf47
 v22 := Tryd.zeroValue47
 t25 := Tryd.underlying92
 a25 := Tryd.isAgg92
 z25 := Tryd.sizeOf92
 v25 := Tryd.zeroValue92
 t39 := Tryd.underlying80
 a39 := Tryd.isAgg80
 z39 := Tryd.sizeOf80
 v39 := Tryd.zeroValue80
 t45 := Tryd.underlying122
 a45 := Tryd.isAgg122
 z45 := Tryd.sizeOf122
 v45 := Tryd.zeroValue122
 t46 := Tryd.underlying123
 a46 := Tryd.isAgg123
 z46 := Tryd.sizeOf123
 v46 := Tryd.zeroValue123
 t50 := Tryd.underlying127
 a50 := Tryd.isAgg127
 z50 := Tryd.sizeOf127
 v50 := Tryd.zeroValue127
 t53 := Tryd.underlying130
 a53 := Tryd.isAgg130
 z53 := Tryd.sizeOf130
 v53 := Tryd.zeroValue130
 t55 := Tryd.underlying104
 a55 := Tryd.isAgg104
 z55 := Tryd.sizeOf104
 v55 := Tryd.zeroValue104
 t66 := Tryd.underlying142
 a66 := Tryd.isAgg142
 z66 := Tryd.sizeOf142
 v66 := Tryd.zeroValue142
 t70 := Tryd.underlying146
 a70 := Tryd.isAgg146
 z70 := Tryd.sizeOf146
 v70 := Tryd.zeroValue146
 t76 := Tryd.underlying161
 a76 := Tryd.isAgg161
 z76 := Tryd.sizeOf161
 v76 := Tryd.zeroValue161
 t77 := Tryd.underlying162
 a77 := Tryd.isAgg162
 z77 := Tryd.sizeOf162
 v77 := Tryd.zeroValue162 }
def Tryd.Abn : Go.Shelf.Ren := ⟨fun | 7 => 67 | 10 => 85 | n => n, fun | 23 => 88 | 26 => 9 | 3 => 9 | 28 => 83 | 0 => 0 | 27 => 82 | 33 => 109 | 4 => 4 | n => n, fun | n => n⟩
theorem Tryd.Acd : Go.Proofs.SlLaysZ.n7 Tryd.prog Tryd.Abn := {
 mixed := by kernel_rfl
 f7 := ⟨Tryd.f67.name, by decide, Tryd.func67.trans (congrArg some (by kernel_rfl))⟩
 f10 := ⟨Tryd.f85.name, by decide, Tryd.func85.trans (congrArg some (by kernel_rfl))⟩
 t0 := Tryd.underlying0
 a0 := Tryd.isAgg0
 z0 := Tryd.sizeOf0
 v0 := Tryd.zeroValue0
 t4 := Tryd.underlying4
 a4 := Tryd.isAgg4
 z4 := Tryd.sizeOf4
 v4 := Tryd.zeroValue4
 t23 := Tryd.underlying88
 a23 := Tryd.isAgg88
 z23 := Tryd.sizeOf88
 v23 := Tryd.zeroValue88
 t26 := Tryd.underlying9
 a26 := Tryd.isAgg9
 z26 := Tryd.sizeOf9
 v26 := Tryd.zeroValue9
 t27 := Tryd.underlying82
 a27 := Tryd.isAgg82
 z27 := Tryd.sizeOf82
 v27 := Tryd.zeroValue82
 t28 := Tryd.underlying83
 a28 := Tryd.isAgg83
 z28 := Tryd.sizeOf83
 v28 := Tryd.zeroValue83
 t33 := Tryd.underlying109
 a33 := Tryd.isAgg109
 z33 := Tryd.sizeOf109
 v33 := Tryd.zeroValue109 }
def Tryd.Abb : Go.Shelf.Ren := ⟨fun | 6 => 66 | 8 => 83 | 9 => 84 | 11 => 107 | 13 => 80 | 12 => 108 | 23 => 104 | 24 => 105 | 14 => 130 | 15 => 131 | 16 => 132 | 17 => 133 | 18 => 134 | 19 => 135 | 20 => 136 | 21 => 137 | 22 => 138 | 25 => 145 | 26 => 126 | 27 => 127 | 28 => 146 | 29 => 147 | 30 => 148 | 31 => 150 | n => n, fun | 26 => 9 | 28 => 83 | 24 => 30 | 0 => 0 | 3 => 3 | 37 => 80 | 48 => 130 | 50 => 104 | 4 => 4 | 40 => 123 | 39 => 122 | 45 => 127 | 5 => 5 | 9 => 9 | 51 => 142 | 55 => 146 | 57 => 161 | 58 => 162 | 33 => 109 | n => n, fun | n => n⟩
theorem Tryd.Acb : Go.Proofs.SlLaysZ.n6 Tryd.prog Tryd.Abb := {
 mixed := by kernel_rfl
 f6 := ⟨Tryd.f66.name, by decide, Tryd.func66.trans (congrArg some (by kernel_rfl))⟩
 f8 := ⟨Tryd.f83.name, by decide, Tryd.func83.trans (congrArg some (by kernel_rfl))⟩
 f11 := ⟨Tryd.f107.name, by decide, Tryd.func107.trans (congrArg some (by kernel_rfl))⟩
 t0 := Tryd.underlying0
 a0 := Tryd.isAgg0
 z0 := Tryd.sizeOf0
 v0 := Tryd.zeroValue0
 t24 := Tryd.underlying30
 a24 := Tryd.isAgg30
 z24 := Tryd.sizeOf30
 v24 := Tryd.zeroValue30
 t26 := Tryd.underlying9
 a26 := Tryd.isAgg9
 z26 := Tryd.sizeOf9
 v26 := Tryd.zeroValue9
 t28 := Tryd.underlying83
 a28 := Tryd.isAgg83
 z28 := Tryd.sizeOf83
 v28 := Tryd.zeroValue83
 i26 := by kernel_rfl }
def Tryd.AbY : Go.Shelf.Ren := ⟨fun | 6 => 84 | 8 => 80 | 9 => 108 | 19 => 104 | 20 => 105 | 21 => 130 | 22 => 131 | 23 => 132 | 24 => 133 | 25 => 134 | 26 => 135 | 27 => 136 | 28 => 137 | 29 => 138 | 36 => 145 | 31 => 126 | 32 => 127 | 37 => 146 | 38 => 147 | 39 => 148 | 41 => 150 | n => n, fun | 27 => 30 | 29 => 9 | 3 => 3 | 32 => 80 | 26 => 30 | 0 => 0 | 44 => 130 | 46 => 104 | 4 => 4 | 36 => 123 | 35 => 122 | 41 => 127 | 5 => 5 | 9 => 9 | 53 => 142 | 57 => 146 | 63 => 161 | 64 => 162 | n => n, fun | n => n⟩
theorem Tryd.Acf : Go.Proofs.SlLaysM.n6 Tryd.prog Tryd.AbY := {
 mixed := by kernel_rfl
 f6 := ⟨Tryd.f84.name, by decide, Tryd.func84.trans (congrArg some (by kernel_rfl))⟩
 f8 := Tryd.func80.trans (congrArg some (by kernel_rfl))
 f9 := ⟨Tryd.f108.name, by decide, Tryd.func108.trans (congrArg some (by kernel_rfl))⟩
 f19 := Tryd.func104.trans (congrArg some (by kernel_rfl))
 f20 := Tryd.func105.trans (congrArg some (by kernel_rfl))
 f21 := ⟨Tryd.f130.name, by decide, Tryd.func130.trans (congrArg some (by kernel_rfl))⟩
 f22 := ⟨Tryd.f131.name, by decide, Tryd.func131.trans (congrArg some (by kernel_rfl))⟩
 f23 := ⟨Tryd.f132.name, by decide, Tryd.func132.trans (congrArg some (by kernel_rfl))⟩
 f24 := ⟨Tryd.f133.name, by decide, Tryd.func133.trans (congrArg some (by kernel_rfl))⟩
 f25 := ⟨Tryd.f134.name, by decide, Tryd.func134.trans (congrArg some (by kernel_rfl))⟩
 f26 := ⟨Tryd.f135.name, by decide, Tryd.func135.trans (congrArg some (by kernel_rfl))⟩
 f27 := ⟨Tryd.f136.name, by decide, Tryd.func136.trans (congrArg some (by kernel_rfl))⟩
 f28 := ⟨Tryd.f137.name, by decide, Tryd.func137.trans (congrArg some (by kernel_rfl))⟩
 f29 := ⟨Tryd.f138.name, by decide, Tryd.func138.trans (congrArg some (by kernel_rfl))⟩
 f31 := Tryd.func126.trans (congrArg some (by kernel_rfl))
 f32 := Tryd.func127.trans (congrArg some (by kernel_rfl))
 f36 := ⟨Tryd.f145.name, by decide, Tryd.func145.trans (congrArg some (by kernel_rfl))⟩
 f37 := ⟨Tryd.f146.name, by decide, Tryd.func146.trans (congrArg some (by kernel_rfl))⟩
 f38 := ⟨Tryd.f147.name, by decide, Tryd.func147.trans (congrArg some (by kernel_rfl))⟩
 f39 := ⟨Tryd.f148.name, by decide, Tryd.func148.trans (congrArg some (by kernel_rfl))⟩
 f41 := ⟨Tryd.f150.name, by decide, Tryd.func150.trans (congrArg some (by kernel_rfl))⟩
 t0 := Tryd.underlying0
 a0 := Tryd.isAgg0
 z0 := Tryd.sizeOf0
 v0 := Tryd.zeroValue0
 t3 := Tryd.underlying3
 a3 := Tryd.isAgg3
 z3 := Tryd.sizeOf3
 v3 := Tryd.zeroValue3
 t4 := Tryd.underlying4
 a4 := Tryd.isAgg4
 z4 := Tryd.sizeOf4
 v4 := Tryd.zeroValue4
 t5 := Tryd.underlying5
 a5 := Tryd.isAgg5
 z5 := Tryd.sizeOf5
 v5 := Tryd.zeroValue5
 t9 := Tryd.underlying9
 a9 := Tryd.isAgg9
 z9 := Tryd.sizeOf9
 v9 := Tryd.zeroValue9
 t26 := Tryd.underlying30
 a26 := Tryd.isAgg30
 z26 := Tryd.sizeOf30
 v26 := Tryd.zeroValue30
 t27 := Tryd.underlying30
 a27 := Tryd.isAgg30
 z27 := Tryd.sizeOf30
 v27 := Tryd.zeroValue30
 t29 := Tryd.underlying9
 a29 := Tryd.isAgg9
 z29 := Tryd.sizeOf9
 v29 := Tryd.zeroValue9
 t32 := Tryd.underlying80
 a32 := Tryd.isAgg80
 z32 := Tryd.sizeOf80
 v32 := Tryd.zeroValue80
 t35 := Tryd.underlying122
 a35 := Tryd.isAgg122
 z35 := Tryd.sizeOf122
 v35 := Tryd.zeroValue122
 t36 := Tryd.underlying123
 a36 := Tryd.isAgg123
 z36 := Tryd.sizeOf123
 v36 := Tryd.zeroValue123
 t41 := Tryd.underlying127
 a41 := Tryd.isAgg127
 z41 := Tryd.sizeOf127
 v41 := Tryd.zeroValue127
 t44 := Tryd.underlying130
 a44 := Tryd.isAgg130
 z44 := Tryd.sizeOf130
 v44 := Tryd.zeroValue130
 t46 := Tryd.underlying104
 a46 := Tryd.isAgg104
 z46 := Tryd.sizeOf104
 v46 := Tryd.zeroValue104
 t53 := Tryd.underlying142
 a53 := Tryd.isAgg142
 z53 := Tryd.sizeOf142
 v53 := Tryd.zeroValue142
 t57 := Tryd.underlying146
 a57 := Tryd.isAgg146
 z57 := Tryd.sizeOf146
 v57 := Tryd.zeroValue146
 t63 := Tryd.underlying161
 a63 := Tryd.isAgg161
 z63 := Tryd.sizeOf161
 v63 := Tryd.zeroValue161
 t64 := Tryd.underlying162
 a64 := Tryd.isAgg162
 z64 := Tryd.sizeOf162
 v64 := Tryd.zeroValue162 }
def Tryd.Ab8 : Go.Shelf.Ren := ⟨fun | 8 => 63 | 6 => 82 | n => n, fun | 22 => 47 | 23 => 56 | 25 => 97 | 4 => 4 | 3 => 3 | 0 => 0 | n => n, fun | n => n⟩
theorem Tryd.cfD : Go.Proofs.SlLaysH0.n8 Tryd.prog Tryd.Ab8 := {
 mixed := by kernel_rfl
 f6 := ⟨Tryd.f82.name, by decide, Tryd.func82.trans (congrArg some (by kernel_rfl))⟩
 f8 := ⟨Tryd.f63.name, by decide, Tryd.func63.trans (congrArg some (by kernel_rfl))⟩
 t0 := Tryd.underlying0
 a0 := Tryd.isAgg0
 z0 := Tryd.sizeOf0
 v0 := Tryd.zeroValue0
 t3 := Tryd.underlying3
 a3 := Tryd.isAgg3
 z3 := Tryd.sizeOf3
 v3 := Tryd.zeroValue3
 t4 := Tryd.underlying4
 a4 := Tryd.isAgg4
 z4 := Tryd.sizeOf4
 v4 := Tryd.zeroValue4
 t22 := Tryd.underlying47
 a22 := Tryd.isAgg47
 z22 := Tryd.sizeOf47
 v22 := Tryd.zeroValue47
 t25 := Tryd.underlying97
 a25 := Tryd.isAgg97
 z25 := Tryd.sizeOf97
 v25 := Tryd.zeroValue97 }
end Go.Proofs
