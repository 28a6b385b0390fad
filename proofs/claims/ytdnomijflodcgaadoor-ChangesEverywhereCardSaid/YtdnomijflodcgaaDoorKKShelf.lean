/-
 DERIVED: THE SHELF's CONTRACTS AT THIS DUMP, IN PLAIN WORDS (tools/lay-plain.mjs out of 'TrydShelf.lean', which tools/lay-shelf.mjs wrote): THE SAME DECLARATIONS UNDER THE SAME NAMES: 'import', 'namespace', 'open', 'def', 'theorem' AND NOTHING ELSE: no command of the shelf's: FOR A HAND-IN. Each laying: the table of numbers ('.._ren') and one theorem, a field a fact of the dump's own or the kernel's comparison; each contract: ONE APPLICATION.
-/
import Derived.Shelf.Strings.Builder1
import Derived.Shelf.Strings.Builder2
import Derived.Shelf.Small.Bits
import Derived.Shelf.Small.Strs
import Derived.Shelf.Small.Wraps
import Derived.Shelf.Strings.BuilderF
import Derived.Shelf.Utf8.RuneCount
import Derived.Shelf.Strconv.Itoa0
import Derived.Shelf.Strconv.Itoa1
import Derived.Shelf.LaysM
import Derived.Shelf.Strconv.Itoa2
import Derived.Shelf.Strconv.Itoa3
import Derived.Shelf.Strings.Search1
import Derived.Shelf.Strings.Search2
import Derived.Shelf.Strings.Search3
import Derived.Shelf.Strings.Count
import Derived.Shelf.Strings.Shaped
import Derived.Shelf.Strings.Prefix
import Derived.Shelf.Strings.Split
import Derived.Shelf.Unicode.Decode
import Derived.Shelf.Strings.RuneCount
import Derived.Shelf.Strings.Explode
import Derived.Shelf.Bits.Mul64
import Derived.Shelf.Strings.Repeat
import Derived.Shelf.Unicode.DecodeSlow
import Derived.Shelf.Unicode.DecodeAny
import Derived.Ground.Names2Prog
import Derived.Shelf.Slices.Clone
import Derived.Shelf.Slices.CompactI
import Derived.Shelf.Slices.SearchI
import Derived.Shelf.Slices.Cells
import Derived.Ground.SlgnProg
import Derived.Shelf.SlicesE.Compact
import Derived.Shelf.SlicesE.Clone
import Derived.Ground.SlgfProg
import Derived.Shelf.SlicesE.IndexFunc
import Derived.Shelf.SlicesE.DeleteFunc
import Derived.Ground.SlgmProg
import Derived.Shelf.SortM.Plain
import Derived.Shelf.SortM.SortNone
import Derived.Shelf.SlGeneric
import Derived.Ground.SlsfProg
import Derived.Shelf.SlSortCmp.NoneTotal
import Derived.Shelf.SlicesG.Clone
import Derived.Shelf.SlicesG.CompactI
import Derived.Shelf.SlicesQ.IndexFunc
import Derived.Test.YtdnomijflodcgaaDoorProg
set_option linter.unusedVariables false
set_option linter.unusedSimpArgs false
namespace Go.Proofs
open Go.Shelf
def Tryd.Uk : Go.Shelf.Ren := ⟨fun | 106 => 99 | 213 => 139 | 265 => 171 | n => n, fun | 9 => 9 | 3 => 3 | n => n, fun | n => n⟩
theorem Tryd.Abm : Go.Proofs.Lays.n106 Tryd.prog Tryd.Uk := {
 mixed := by kernel_rfl
 f106 := Tryd.func99.trans (congrArg some (by kernel_rfl))
 f213 := Tryd.func139.trans (congrArg some (by kernel_rfl))
 f265 := Tryd.func171.trans (congrArg some (by kernel_rfl))
 t3 := Tryd.underlying3
 a3 := Tryd.isAgg3
 z3 := Tryd.sizeOf3
 v3 := Tryd.zeroValue3
 t9 := Tryd.underlying9
 a9 := Tryd.isAgg9
 z9 := Tryd.sizeOf9
 v9 := Tryd.zeroValue9 }
open Go.RowKit in
theorem Tryd.strings_Compare (a b : ByteArray) (w : World) :
  Calls Tryd.prog 99 #[.string a, .string b] w fun e w' => e = .returned (.int .i64 (Lib.compareBytes a.data.toList b.data.toList)) ∧ w' = w := Any.strings_Compare Tryd.Abm a b w
def Tryd.Um : Go.Shelf.Ren := ⟨fun | 143 => 154 | 219 => 175 | 217 => 186 | 225 => 187 | 224 => 188 | 267 => 189 | 266 => 197 | 314 => 198 | n => n, fun | 9 => 9 | 3 => 3 | 4 => 4 | 5 => 5 | 46 => 77 | 146 => 195 | 51 => 159 | n => n, fun | 1 => 0 | n => n⟩
theorem Tryd.Abo : Go.Proofs.Lays.n143 Tryd.prog Tryd.Um := {
 mixed := by kernel_rfl
 f143 := Tryd.func154.trans (congrArg some (by kernel_rfl))
 f217 := Tryd.func186.trans (congrArg some (by kernel_rfl))
 f219 := Tryd.func175.trans (congrArg some (by kernel_rfl))
 f224 := Tryd.func188.trans (congrArg some (by kernel_rfl))
 f225 := Tryd.func187.trans (congrArg some (by kernel_rfl))
 f266 := Tryd.func197.trans (congrArg some (by kernel_rfl))
 f267 := Tryd.func189.trans (congrArg some (by kernel_rfl))
 f314 := Tryd.func198.trans (congrArg some (by kernel_rfl))
 t3 := Tryd.underlying3
 a3 := Tryd.isAgg3
 z3 := Tryd.sizeOf3
 v3 := Tryd.zeroValue3
 t4 := Tryd.underlying4
 a4 := Tryd.isAgg4
 z4 := Tryd.sizeOf4
 v4 := Tryd.zeroValue4
 t5 := Tryd.underlying5
 a5 := Tryd.isAgg5
 z5 := Tryd.sizeOf5
 v5 := Tryd.zeroValue5
 t9 := Tryd.underlying9
 a9 := Tryd.isAgg9
 z9 := Tryd.sizeOf9
 v9 := Tryd.zeroValue9
 t46 := Tryd.underlying77
 a46 := Tryd.isAgg77
 z46 := Tryd.sizeOf77
 v46 := Tryd.zeroValue77
 t51 := Tryd.underlying159
 a51 := Tryd.isAgg159
 z51 := Tryd.sizeOf159
 v51 := Tryd.zeroValue159
 t146 := Tryd.underlying195
 a146 := Tryd.isAgg195
 z146 := Tryd.sizeOf195
 v146 := Tryd.zeroValue195
 g1 := by kernel_rfl }
open Go.RowKit Go.Lib in
theorem Tryd.strings_Index_one (s : ByteArray) (c : UInt8) (w : World) :
  Calls Tryd.prog 154 #[.string s, .string ⟨#[c]⟩] w fun e w' => e = .returned (.int .i64 (Lib.indexByte s.data.toList c)) ∧ w' = w := Any.strings_Index_one Tryd.Abo s c w
def Tryd.Un : Go.Shelf.Ren := ⟨fun | 144 => 160 | 143 => 154 | 219 => 175 | 217 => 186 | 225 => 187 | 224 => 188 | 267 => 189 | 266 => 197 | 314 => 198 | n => n, fun | 9 => 9 | 4 => 4 | 3 => 3 | 5 => 5 | 46 => 77 | 146 => 195 | 51 => 159 | n => n, fun | 1 => 0 | n => n⟩
theorem Tryd.Abp : Go.Proofs.Lays.n144 Tryd.prog Tryd.Un := {
 mixed := by kernel_rfl
 f143 := Tryd.func154.trans (congrArg some (by kernel_rfl))
 f144 := Tryd.func160.trans (congrArg some (by kernel_rfl))
 f217 := Tryd.func186.trans (congrArg some (by kernel_rfl))
 f219 := Tryd.func175.trans (congrArg some (by kernel_rfl))
 f224 := Tryd.func188.trans (congrArg some (by kernel_rfl))
 f225 := Tryd.func187.trans (congrArg some (by kernel_rfl))
 f266 := Tryd.func197.trans (congrArg some (by kernel_rfl))
 f267 := Tryd.func189.trans (congrArg some (by kernel_rfl))
 f314 := Tryd.func198.trans (congrArg some (by kernel_rfl))
 t3 := Tryd.underlying3
 a3 := Tryd.isAgg3
 z3 := Tryd.sizeOf3
 v3 := Tryd.zeroValue3
 t4 := Tryd.underlying4
 a4 := Tryd.isAgg4
 z4 := Tryd.sizeOf4
 v4 := Tryd.zeroValue4
 t5 := Tryd.underlying5
 a5 := Tryd.isAgg5
 z5 := Tryd.sizeOf5
 v5 := Tryd.zeroValue5
 t9 := Tryd.underlying9
 a9 := Tryd.isAgg9
 z9 := Tryd.sizeOf9
 v9 := Tryd.zeroValue9
 t46 := Tryd.underlying77
 a46 := Tryd.isAgg77
 z46 := Tryd.sizeOf77
 v46 := Tryd.zeroValue77
 t51 := Tryd.underlying159
 a51 := Tryd.isAgg159
 z51 := Tryd.sizeOf159
 v51 := Tryd.zeroValue159
 t146 := Tryd.underlying195
 a146 := Tryd.isAgg195
 z146 := Tryd.sizeOf195
 v146 := Tryd.zeroValue195
 g1 := by kernel_rfl }
open Go.RowKit Go.Lib in
theorem Tryd.strings_Contains_one (s : ByteArray) (c : UInt8) (w : World) :
  Calls Tryd.prog 160 #[.string s, .string ⟨#[c]⟩] w fun e w' => e = .returned (.bool (decide (0 ≤ Lib.indexByte s.data.toList c))) ∧ w' = w := Any.strings_Contains_one Tryd.Abp s c w
def Tryd.Ul : Go.Shelf.Ren := ⟨fun | 138 => 122 | 195 => 152 | 218 => 153 | 143 => 154 | 219 => 175 | 217 => 186 | 225 => 187 | 224 => 188 | 267 => 189 | 266 => 197 | 314 => 198 | n => n, fun | 9 => 9 | 3 => 3 | 4 => 4 | 5 => 5 | 0 => 0 | 46 => 77 | 146 => 195 | 51 => 159 | n => n, fun | 1 => 0 | n => n⟩
theorem Tryd.Abn : Go.Proofs.Lays.n138 Tryd.prog Tryd.Ul := {
 mixed := by kernel_rfl
 f138 := Tryd.func122.trans (congrArg some (by kernel_rfl))
 f143 := Tryd.func154.trans (congrArg some (by kernel_rfl))
 f195 := Tryd.func152.trans (congrArg some (by kernel_rfl))
 f217 := Tryd.func186.trans (congrArg some (by kernel_rfl))
 f218 := Tryd.func153.trans (congrArg some (by kernel_rfl))
 f219 := Tryd.func175.trans (congrArg some (by kernel_rfl))
 f224 := Tryd.func188.trans (congrArg some (by kernel_rfl))
 f225 := Tryd.func187.trans (congrArg some (by kernel_rfl))
 f266 := Tryd.func197.trans (congrArg some (by kernel_rfl))
 f267 := Tryd.func189.trans (congrArg some (by kernel_rfl))
 f314 := Tryd.func198.trans (congrArg some (by kernel_rfl))
 t0 := Tryd.underlying0
 a0 := Tryd.isAgg0
 z0 := Tryd.sizeOf0
 v0 := Tryd.zeroValue0
 t3 := Tryd.underlying3
 a3 := Tryd.isAgg3
 z3 := Tryd.sizeOf3
 v3 := Tryd.zeroValue3
 t4 := Tryd.underlying4
 a4 := Tryd.isAgg4
 z4 := Tryd.sizeOf4
 v4 := Tryd.zeroValue4
 t5 := Tryd.underlying5
 a5 := Tryd.isAgg5
 z5 := Tryd.sizeOf5
 v5 := Tryd.zeroValue5
 t9 := Tryd.underlying9
 a9 := Tryd.isAgg9
 z9 := Tryd.sizeOf9
 v9 := Tryd.zeroValue9
 t46 := Tryd.underlying77
 a46 := Tryd.isAgg77
 z46 := Tryd.sizeOf77
 v46 := Tryd.zeroValue77
 t51 := Tryd.underlying159
 a51 := Tryd.isAgg159
 z51 := Tryd.sizeOf159
 v51 := Tryd.zeroValue159
 t146 := Tryd.underlying195
 a146 := Tryd.isAgg195
 z146 := Tryd.sizeOf195
 v146 := Tryd.zeroValue195
 g1 := by kernel_rfl }
open Go.RowKit Go.Lib in
theorem Tryd.strings_Count_one (s : ByteArray) (c : UInt8) (w : World) :
  Calls Tryd.prog 122 #[.string s, .string ⟨#[c]⟩] w fun e w' => e = .returned (.int .i64 (Lib.countByte s.data.toList c)) ∧ w' = w := Any.strings_Count_one Tryd.Abn s c w
def Tryd.Uj : Go.Shelf.Ren := ⟨fun | 100 => 155 | 207 => 176 | n => n, fun | 9 => 9 | 4 => 4 | 3 => 3 | n => n, fun | n => n⟩
theorem Tryd.Abl : Go.Proofs.Lays.n100 Tryd.prog Tryd.Uj := {
 mixed := by kernel_rfl
 f100 := Tryd.func155.trans (congrArg some (by kernel_rfl))
 f207 := Tryd.func176.trans (congrArg some (by kernel_rfl))
 t3 := Tryd.underlying3
 a3 := Tryd.isAgg3
 z3 := Tryd.sizeOf3
 v3 := Tryd.zeroValue3
 t4 := Tryd.underlying4
 a4 := Tryd.isAgg4
 z4 := Tryd.sizeOf4
 v4 := Tryd.zeroValue4
 t9 := Tryd.underlying9
 a9 := Tryd.isAgg9
 z9 := Tryd.sizeOf9
 v9 := Tryd.zeroValue9 }
open Go.RowKit Go.Lib in
theorem Tryd.strings_HasSuffix (s p : ByteArray) (w : World) (hs : s.size ≤ 9223372036854775807) :
  Calls Tryd.prog 155 #[.string s, .string p] w fun e w' => e = .returned (.bool (Lib.hasSuffix s.data.toList p.data.toList)) ∧ w' = w := Any.strings_HasSuffix Tryd.Abl s p w hs
def Tryd.Uo : Go.Shelf.Ren := ⟨fun | 221 => 124 | 268 => 156 | 138 => 122 | 143 => 154 | 195 => 152 | 197 => 177 | 218 => 153 | 219 => 175 | 260 => 190 | 217 => 186 | 225 => 187 | 224 => 188 | 267 => 189 | 266 => 197 | 314 => 198 | n => n, fun | 9 => 9 | 3 => 3 | 31 => 31 | 4 => 4 | 0 => 0 | 105 => 216 | 21 => 21 | 5 => 5 | 46 => 77 | 119 => 230 | 139 => 233 | 138 => 232 | 146 => 195 | 51 => 159 | n => n, fun | 1 => 0 | 3 => 2 | 4 => 3 | n => n⟩
theorem Tryd.Abq : Go.Proofs.Lays.n221 Tryd.prog Tryd.Uo := {
 mixed := by kernel_rfl
 f138 := Tryd.func122.trans (congrArg some (by kernel_rfl))
 f143 := Tryd.func154.trans (congrArg some (by kernel_rfl))
 f195 := Tryd.func152.trans (congrArg some (by kernel_rfl))
 f197 := Tryd.func177.trans (congrArg some (by kernel_rfl))
 f217 := Tryd.func186.trans (congrArg some (by kernel_rfl))
 f218 := Tryd.func153.trans (congrArg some (by kernel_rfl))
 f219 := Tryd.func175.trans (congrArg some (by kernel_rfl))
 f221 := Tryd.func124.trans (congrArg some (by kernel_rfl))
 f224 := Tryd.func188.trans (congrArg some (by kernel_rfl))
 f225 := Tryd.func187.trans (congrArg some (by kernel_rfl))
 f260 := Tryd.func190.trans (congrArg some (by kernel_rfl))
 f266 := Tryd.func197.trans (congrArg some (by kernel_rfl))
 f267 := Tryd.func189.trans (congrArg some (by kernel_rfl))
 f268 := Tryd.func156.trans (congrArg some (by kernel_rfl))
 f314 := Tryd.func198.trans (congrArg some (by kernel_rfl))
 t0 := Tryd.underlying0
 a0 := Tryd.isAgg0
 z0 := Tryd.sizeOf0
 v0 := Tryd.zeroValue0
 t3 := Tryd.underlying3
 a3 := Tryd.isAgg3
 z3 := Tryd.sizeOf3
 v3 := Tryd.zeroValue3
 t4 := Tryd.underlying4
 a4 := Tryd.isAgg4
 z4 := Tryd.sizeOf4
 v4 := Tryd.zeroValue4
 t5 := Tryd.underlying5
 a5 := Tryd.isAgg5
 z5 := Tryd.sizeOf5
 v5 := Tryd.zeroValue5
 t9 := Tryd.underlying9
 a9 := Tryd.isAgg9
 z9 := Tryd.sizeOf9
 v9 := Tryd.zeroValue9
 t21 := Tryd.underlying21
 a21 := Tryd.isAgg21
 z21 := Tryd.sizeOf21
 v21 := Tryd.zeroValue21
 t31 := Tryd.underlying31
 a31 := Tryd.isAgg31
 z31 := Tryd.sizeOf31
 v31 := Tryd.zeroValue31
 t46 := Tryd.underlying77
 a46 := Tryd.isAgg77
 z46 := Tryd.sizeOf77
 v46 := Tryd.zeroValue77
 t51 := Tryd.underlying159
 a51 := Tryd.isAgg159
 z51 := Tryd.sizeOf159
 v51 := Tryd.zeroValue159
 t105 := Tryd.underlying216
 a105 := Tryd.isAgg216
 z105 := Tryd.sizeOf216
 v105 := Tryd.zeroValue216
 t119 := Tryd.underlying230
 a119 := Tryd.isAgg230
 z119 := Tryd.sizeOf230
 t138 := Tryd.underlying232
 a138 := Tryd.isAgg232
 z138 := Tryd.sizeOf232
 v138 := Tryd.zeroValue232
 t139 := Tryd.underlying233
 a139 := Tryd.isAgg233
 z139 := Tryd.sizeOf233
 v139 := Tryd.zeroValue233
 t146 := Tryd.underlying195
 a146 := Tryd.isAgg195
 z146 := Tryd.sizeOf195
 v146 := Tryd.zeroValue195
 g1 := by kernel_rfl
 g3 := by kernel_rfl
 g4 := by kernel_rfl }
open Go.RowKit Go.Lib in
theorem Tryd.strings_genSplit (s sep : ByteArray) (sv : Nat) (n : Int) (N : Nat) (m : Int) (w : World) (hs : s.size < 4294967281) (hm : w.cell? ⟨0, 0, none⟩ = some (.int .i64 m)) (h1 : 1 ≤ sep.size) (hsv : sv ≤ sep.size) (hn0 : n ≠ 0) (hn63 : n ≤ 9223372036854775807) (hN : (N : Int) = min (if n < 0 then (Lib.countB s sep : Int) + 1 else n) ((s.size : Int) + 1)) :
  Calls Tryd.prog 124 #[.string s, .string sep, .int .i64 sv, .int .i64 n] w fun e w' =>
   e = .returned (.slice (some ⟨w.heap.size, 0, none⟩) (Lib.splitB sep sv (N - 1) s).length N) ∧ w' = w.alloc (.cells (Lib.cellsOf (Lib.splitB sep sv (N - 1) s) N) 9) := Any.strings_genSplit Tryd.Abq (by kernel_rfl) s sep sv n N m w hs hm h1 hsv hn0 hn63 hN
def Tryd.RN : Go.Shelf.Ren := ⟨fun | 6 => 97 | 15 => 72 | 14 => 138 | 28 => 110 | 29 => 111 | 20 => 163 | 21 => 164 | 22 => 165 | 23 => 166 | 24 => 167 | 25 => 168 | 26 => 169 | 27 => 170 | 46 => 179 | 47 => 141 | 48 => 142 | 49 => 180 | 50 => 181 | 57 => 192 | n => n, fun | 22 => 34 | 24 => 36 | 25 => 148 | 3 => 3 | 39 => 77 | 0 => 0 | 53 => 159 | 55 => 106 | 4 => 4 | 46 => 152 | 45 => 151 | 50 => 156 | 5 => 5 | 9 => 9 | 66 => 187 | 70 => 191 | 76 => 212 | 77 => 99 | n => n, fun | n => n⟩
theorem Tryd.Acl : Go.Proofs.SlLaysF0.n6 Tryd.prog Tryd.RN := {
 mixed := by kernel_rfl
 f6 := ⟨Tryd.f97.name, by decide, Tryd.func97.trans (congrArg some (by kernel_rfl))⟩
 f14 := ⟨Tryd.f138.name, by decide, Tryd.func138.trans (congrArg some (by kernel_rfl))⟩
 f15 := Tryd.func72.trans (congrArg some (by kernel_rfl))
 f20 := ⟨Tryd.f163.name, by decide, Tryd.func163.trans (congrArg some (by kernel_rfl))⟩
 f21 := ⟨Tryd.f164.name, by decide, Tryd.func164.trans (congrArg some (by kernel_rfl))⟩
 f22 := ⟨Tryd.f165.name, by decide, Tryd.func165.trans (congrArg some (by kernel_rfl))⟩
 f23 := ⟨Tryd.f166.name, by decide, Tryd.func166.trans (congrArg some (by kernel_rfl))⟩
 f24 := ⟨Tryd.f167.name, by decide, Tryd.func167.trans (congrArg some (by kernel_rfl))⟩
 f25 := ⟨Tryd.f168.name, by decide, Tryd.func168.trans (congrArg some (by kernel_rfl))⟩
 f26 := ⟨Tryd.f169.name, by decide, Tryd.func169.trans (congrArg some (by kernel_rfl))⟩
 f27 := ⟨Tryd.f170.name, by decide, Tryd.func170.trans (congrArg some (by kernel_rfl))⟩
 f28 := Tryd.func110.trans (congrArg some (by kernel_rfl))
 f29 := Tryd.func111.trans (congrArg some (by kernel_rfl))
 f46 := ⟨Tryd.f179.name, by decide, Tryd.func179.trans (congrArg some (by kernel_rfl))⟩
 f47 := Tryd.func141.trans (congrArg some (by kernel_rfl))
 f48 := Tryd.func142.trans (congrArg some (by kernel_rfl))
 f49 := ⟨Tryd.f180.name, by decide, Tryd.func180.trans (congrArg some (by kernel_rfl))⟩
 f50 := ⟨Tryd.f181.name, by decide, Tryd.func181.trans (congrArg some (by kernel_rfl))⟩
 f57 := ⟨Tryd.f192.name, by decide, Tryd.func192.trans (congrArg some (by kernel_rfl))⟩
 t0 := Tryd.underlying0
 a0 := Tryd.isAgg0
 z0 := Tryd.sizeOf0
 v0 := Tryd.zeroValue0
 t3 := Tryd.underlying3
 a3 := Tryd.isAgg3
 z3 := Tryd.sizeOf3
 v3 := Tryd.zeroValue3
 t4 := Tryd.underlying4
 a4 := Tryd.isAgg4
 z4 := Tryd.sizeOf4
 v4 := Tryd.zeroValue4
 t5 := Tryd.underlying5
 a5 := Tryd.isAgg5
 z5 := Tryd.sizeOf5
 v5 := Tryd.zeroValue5
 t9 := Tryd.underlying9
 a9 := Tryd.isAgg9
 z9 := Tryd.sizeOf9
 v9 := Tryd.zeroValue9
 t22 := Tryd.underlying34
 a22 := Tryd.isAgg34
 z22 := Tryd.sizeOf34
 v22 := Tryd.zeroValue34
 t25 := Tryd.underlying148
 a25 := Tryd.isAgg148
 z25 := Tryd.sizeOf148
 v25 := Tryd.zeroValue148
 t39 := Tryd.underlying77
 a39 := Tryd.isAgg77
 z39 := Tryd.sizeOf77
 v39 := Tryd.zeroValue77
 t45 := Tryd.underlying151
 a45 := Tryd.isAgg151
 z45 := Tryd.sizeOf151
 v45 := Tryd.zeroValue151
 t46 := Tryd.underlying152
 a46 := Tryd.isAgg152
 z46 := Tryd.sizeOf152
 v46 := Tryd.zeroValue152
 t50 := Tryd.underlying156
 a50 := Tryd.isAgg156
 z50 := Tryd.sizeOf156
 v50 := Tryd.zeroValue156
 t53 := Tryd.underlying159
 a53 := Tryd.isAgg159
 z53 := Tryd.sizeOf159
 v53 := Tryd.zeroValue159
 t55 := Tryd.underlying106
 a55 := Tryd.isAgg106
 z55 := Tryd.sizeOf106
 v55 := Tryd.zeroValue106
 t66 := Tryd.underlying187
 a66 := Tryd.isAgg187
 z66 := Tryd.sizeOf187
 v66 := Tryd.zeroValue187
 t70 := Tryd.underlying191
 a70 := Tryd.isAgg191
 z70 := Tryd.sizeOf191
 v70 := Tryd.zeroValue191
 t76 := Tryd.underlying212
 a76 := Tryd.isAgg212
 z76 := Tryd.sizeOf212
 v76 := Tryd.zeroValue212
 t77 := Tryd.underlying99
 a77 := Tryd.isAgg99
 z77 := Tryd.sizeOf99
 v77 := Tryd.zeroValue99 }
def Tryd.Aa4 : Go.Shelf.Ren := ⟨fun | 8 => 44 | 6 => 67 | n => n, fun | 22 => 34 | 23 => 36 | 25 => 84 | 4 => 4 | 3 => 3 | 0 => 0 | n => n, fun | n => n⟩
theorem Tryd.cfD : Go.Proofs.SlLaysH0.n8 Tryd.prog Tryd.Aa4 := {
 mixed := by kernel_rfl
 f6 := ⟨Tryd.f67.name, by decide, Tryd.func67.trans (congrArg some (by kernel_rfl))⟩
 f8 := ⟨Tryd.f44.name, by decide, Tryd.func44.trans (congrArg some (by kernel_rfl))⟩
 t0 := Tryd.underlying0
 a0 := Tryd.isAgg0
 z0 := Tryd.sizeOf0
 v0 := Tryd.zeroValue0
 t3 := Tryd.underlying3
 a3 := Tryd.isAgg3
 z3 := Tryd.sizeOf3
 v3 := Tryd.zeroValue3
 t4 := Tryd.underlying4
 a4 := Tryd.isAgg4
 z4 := Tryd.sizeOf4
 v4 := Tryd.zeroValue4
 t22 := Tryd.underlying34
 a22 := Tryd.isAgg34
 z22 := Tryd.sizeOf34
 v22 := Tryd.zeroValue34
 t25 := Tryd.underlying84
 a25 := Tryd.isAgg84
 z25 := Tryd.sizeOf84
 v25 := Tryd.zeroValue84 }
end Go.Proofs
