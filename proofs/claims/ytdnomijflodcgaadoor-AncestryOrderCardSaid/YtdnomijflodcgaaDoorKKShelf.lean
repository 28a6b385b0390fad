/-
 DERIVED: THE SHELF's CONTRACTS AT THIS DUMP, IN PLAIN WORDS (tools/lay-plain.mjs out of 'TrydShelf.lean', which tools/lay-shelf.mjs wrote): THE SAME DECLARATIONS UNDER THE SAME NAMES: 'import', 'namespace', 'open', 'def', 'theorem' AND NOTHING ELSE: no command of the shelf's: FOR A HAND-IN. Each laying: the table of numbers ('.._ren') and one theorem, a field a fact of the dump's own or the kernel's comparison; each contract: ONE APPLICATION.
-/
import Derived.Shelf.Strings.Builder1
import Derived.Shelf.Strings.Builder2
import Derived.Shelf.Small.Bits
import Derived.Shelf.Small.Strs
import Derived.Shelf.Small.Wraps
import Derived.Shelf.Strings.BuilderF
import Derived.Shelf.Utf8.RuneCount
import Derived.Shelf.Strconv.Itoa0
import Derived.Shelf.Strconv.Itoa1
import Derived.Shelf.LaysM
import Derived.Shelf.Strconv.Itoa2
import Derived.Shelf.Strconv.Itoa3
import Derived.Shelf.Strings.Search1
import Derived.Shelf.Strings.Search2
import Derived.Shelf.Strings.Search3
import Derived.Shelf.Strings.Count
import Derived.Shelf.Strings.Shaped
import Derived.Shelf.Strings.Prefix
import Derived.Shelf.Strings.Split
import Derived.Shelf.Unicode.Decode
import Derived.Shelf.Strings.RuneCount
import Derived.Shelf.Strings.Explode
import Derived.Shelf.Bits.Mul64
import Derived.Shelf.Strings.Repeat
import Derived.Shelf.Unicode.DecodeSlow
import Derived.Shelf.Unicode.DecodeAny
import Derived.Ground.Names2Prog
import Derived.Shelf.Slices.Clone
import Derived.Shelf.Slices.CompactI
import Derived.Shelf.Slices.SearchI
import Derived.Shelf.Slices.Cells
import Derived.Ground.SlgnProg
import Derived.Shelf.SlicesE.Compact
import Derived.Shelf.SlicesE.Clone
import Derived.Ground.SlgfProg
import Derived.Shelf.SlicesE.IndexFunc
import Derived.Shelf.SlicesE.DeleteFunc
import Derived.Ground.SlgmProg
import Derived.Shelf.SortM.Plain
import Derived.Shelf.SortM.SortNone
import Derived.Shelf.SlGeneric
import Derived.Ground.SlsfProg
import Derived.Shelf.SlSortCmp.NoneTotal
import Derived.Shelf.SlicesG.Clone
import Derived.Shelf.SlicesG.CompactI
import Derived.Shelf.SlicesQ.IndexFunc
import Derived.Test.YtdnomijflodcgaaDoorProg
set_option linter.unusedVariables false
set_option linter.unusedSimpArgs false
namespace Go.Proofs
open Go.Shelf
def Tryd.Um : Go.Shelf.Ren := ⟨fun | 143 => 154 | 219 => 175 | 217 => 186 | 225 => 187 | 224 => 188 | 267 => 189 | 266 => 197 | 314 => 198 | n => n, fun | 9 => 9 | 3 => 3 | 4 => 4 | 5 => 5 | 46 => 77 | 146 => 195 | 51 => 159 | n => n, fun | 1 => 0 | n => n⟩
theorem Tryd.Abo : Go.Proofs.Lays.n143 Tryd.prog Tryd.Um := {
 mixed := by kernel_rfl
 f143 := Tryd.func154.trans (congrArg some (by kernel_rfl))
 f217 := Tryd.func186.trans (congrArg some (by kernel_rfl))
 f219 := Tryd.func175.trans (congrArg some (by kernel_rfl))
 f224 := Tryd.func188.trans (congrArg some (by kernel_rfl))
 f225 := Tryd.func187.trans (congrArg some (by kernel_rfl))
 f266 := Tryd.func197.trans (congrArg some (by kernel_rfl))
 f267 := Tryd.func189.trans (congrArg some (by kernel_rfl))
 f314 := Tryd.func198.trans (congrArg some (by kernel_rfl))
 t3 := Tryd.underlying3
 a3 := Tryd.isAgg3
 z3 := Tryd.sizeOf3
 v3 := Tryd.zeroValue3
 t4 := Tryd.underlying4
 a4 := Tryd.isAgg4
 z4 := Tryd.sizeOf4
 v4 := Tryd.zeroValue4
 t5 := Tryd.underlying5
 a5 := Tryd.isAgg5
 z5 := Tryd.sizeOf5
 v5 := Tryd.zeroValue5
 t9 := Tryd.underlying9
 a9 := Tryd.isAgg9
 z9 := Tryd.sizeOf9
 v9 := Tryd.zeroValue9
 t46 := Tryd.underlying77
 a46 := Tryd.isAgg77
 z46 := Tryd.sizeOf77
 v46 := Tryd.zeroValue77
 t51 := Tryd.underlying159
 a51 := Tryd.isAgg159
 z51 := Tryd.sizeOf159
 v51 := Tryd.zeroValue159
 t146 := Tryd.underlying195
 a146 := Tryd.isAgg195
 z146 := Tryd.sizeOf195
 v146 := Tryd.zeroValue195
 g1 := by kernel_rfl }
open Go.RowKit Go.Lib in
theorem Tryd.strings_Index_one (s : ByteArray) (c : UInt8) (w : World) :
  Calls Tryd.prog 154 #[.string s, .string ⟨#[c]⟩] w fun e w' => e = .returned (.int .i64 (Lib.indexByte s.data.toList c)) ∧ w' = w := Any.strings_Index_one Tryd.Abo s c w
def Tryd.Un : Go.Shelf.Ren := ⟨fun | 144 => 160 | 143 => 154 | 219 => 175 | 217 => 186 | 225 => 187 | 224 => 188 | 267 => 189 | 266 => 197 | 314 => 198 | n => n, fun | 9 => 9 | 4 => 4 | 3 => 3 | 5 => 5 | 46 => 77 | 146 => 195 | 51 => 159 | n => n, fun | 1 => 0 | n => n⟩
theorem Tryd.Abp : Go.Proofs.Lays.n144 Tryd.prog Tryd.Un := {
 mixed := by kernel_rfl
 f143 := Tryd.func154.trans (congrArg some (by kernel_rfl))
 f144 := Tryd.func160.trans (congrArg some (by kernel_rfl))
 f217 := Tryd.func186.trans (congrArg some (by kernel_rfl))
 f219 := Tryd.func175.trans (congrArg some (by kernel_rfl))
 f224 := Tryd.func188.trans (congrArg some (by kernel_rfl))
 f225 := Tryd.func187.trans (congrArg some (by kernel_rfl))
 f266 := Tryd.func197.trans (congrArg some (by kernel_rfl))
 f267 := Tryd.func189.trans (congrArg some (by kernel_rfl))
 f314 := Tryd.func198.trans (congrArg some (by kernel_rfl))
 t3 := Tryd.underlying3
 a3 := Tryd.isAgg3
 z3 := Tryd.sizeOf3
 v3 := Tryd.zeroValue3
 t4 := Tryd.underlying4
 a4 := Tryd.isAgg4
 z4 := Tryd.sizeOf4
 v4 := Tryd.zeroValue4
 t5 := Tryd.underlying5
 a5 := Tryd.isAgg5
 z5 := Tryd.sizeOf5
 v5 := Tryd.zeroValue5
 t9 := Tryd.underlying9
 a9 := Tryd.isAgg9
 z9 := Tryd.sizeOf9
 v9 := Tryd.zeroValue9
 t46 := Tryd.underlying77
 a46 := Tryd.isAgg77
 z46 := Tryd.sizeOf77
 v46 := Tryd.zeroValue77
 t51 := Tryd.underlying159
 a51 := Tryd.isAgg159
 z51 := Tryd.sizeOf159
 v51 := Tryd.zeroValue159
 t146 := Tryd.underlying195
 a146 := Tryd.isAgg195
 z146 := Tryd.sizeOf195
 v146 := Tryd.zeroValue195
 g1 := by kernel_rfl }
open Go.RowKit Go.Lib in
theorem Tryd.strings_Contains_one (s : ByteArray) (c : UInt8) (w : World) :
  Calls Tryd.prog 160 #[.string s, .string ⟨#[c]⟩] w fun e w' => e = .returned (.bool (decide (0 ≤ Lib.indexByte s.data.toList c))) ∧ w' = w := Any.strings_Contains_one Tryd.Abp s c w
def Tryd.Ul : Go.Shelf.Ren := ⟨fun | 138 => 122 | 195 => 152 | 218 => 153 | 143 => 154 | 219 => 175 | 217 => 186 | 225 => 187 | 224 => 188 | 267 => 189 | 266 => 197 | 314 => 198 | n => n, fun | 9 => 9 | 3 => 3 | 4 => 4 | 5 => 5 | 0 => 0 | 46 => 77 | 146 => 195 | 51 => 159 | n => n, fun | 1 => 0 | n => n⟩
theorem Tryd.Abn : Go.Proofs.Lays.n138 Tryd.prog Tryd.Ul := {
 mixed := by kernel_rfl
 f138 := Tryd.func122.trans (congrArg some (by kernel_rfl))
 f143 := Tryd.func154.trans (congrArg some (by kernel_rfl))
 f195 := Tryd.func152.trans (congrArg some (by kernel_rfl))
 f217 := Tryd.func186.trans (congrArg some (by kernel_rfl))
 f218 := Tryd.func153.trans (congrArg some (by kernel_rfl))
 f219 := Tryd.func175.trans (congrArg some (by kernel_rfl))
 f224 := Tryd.func188.trans (congrArg some (by kernel_rfl))
 f225 := Tryd.func187.trans (congrArg some (by kernel_rfl))
 f266 := Tryd.func197.trans (congrArg some (by kernel_rfl))
 f267 := Tryd.func189.trans (congrArg some (by kernel_rfl))
 f314 := Tryd.func198.trans (congrArg some (by kernel_rfl))
 t0 := Tryd.underlying0
 a0 := Tryd.isAgg0
 z0 := Tryd.sizeOf0
 v0 := Tryd.zeroValue0
 t3 := Tryd.underlying3
 a3 := Tryd.isAgg3
 z3 := Tryd.sizeOf3
 v3 := Tryd.zeroValue3
 t4 := Tryd.underlying4
 a4 := Tryd.isAgg4
 z4 := Tryd.sizeOf4
 v4 := Tryd.zeroValue4
 t5 := Tryd.underlying5
 a5 := Tryd.isAgg5
 z5 := Tryd.sizeOf5
 v5 := Tryd.zeroValue5
 t9 := Tryd.underlying9
 a9 := Tryd.isAgg9
 z9 := Tryd.sizeOf9
 v9 := Tryd.zeroValue9
 t46 := Tryd.underlying77
 a46 := Tryd.isAgg77
 z46 := Tryd.sizeOf77
 v46 := Tryd.zeroValue77
 t51 := Tryd.underlying159
 a51 := Tryd.isAgg159
 z51 := Tryd.sizeOf159
 v51 := Tryd.zeroValue159
 t146 := Tryd.underlying195
 a146 := Tryd.isAgg195
 z146 := Tryd.sizeOf195
 v146 := Tryd.zeroValue195
 g1 := by kernel_rfl }
open Go.RowKit Go.Lib in
theorem Tryd.strings_Count_one (s : ByteArray) (c : UInt8) (w : World) :
  Calls Tryd.prog 122 #[.string s, .string ⟨#[c]⟩] w fun e w' => e = .returned (.int .i64 (Lib.countByte s.data.toList c)) ∧ w' = w := Any.strings_Count_one Tryd.Abn s c w
def Tryd.Uj : Go.Shelf.Ren := ⟨fun | 100 => 155 | 207 => 176 | n => n, fun | 9 => 9 | 4 => 4 | 3 => 3 | n => n, fun | n => n⟩
theorem Tryd.Abl : Go.Proofs.Lays.n100 Tryd.prog Tryd.Uj := {
 mixed := by kernel_rfl
 f100 := Tryd.func155.trans (congrArg some (by kernel_rfl))
 f207 := Tryd.func176.trans (congrArg some (by kernel_rfl))
 t3 := Tryd.underlying3
 a3 := Tryd.isAgg3
 z3 := Tryd.sizeOf3
 v3 := Tryd.zeroValue3
 t4 := Tryd.underlying4
 a4 := Tryd.isAgg4
 z4 := Tryd.sizeOf4
 v4 := Tryd.zeroValue4
 t9 := Tryd.underlying9
 a9 := Tryd.isAgg9
 z9 := Tryd.sizeOf9
 v9 := Tryd.zeroValue9 }
open Go.RowKit Go.Lib in
theorem Tryd.strings_HasSuffix (s p : ByteArray) (w : World) (hs : s.size ≤ 9223372036854775807) :
  Calls Tryd.prog 155 #[.string s, .string p] w fun e w' => e = .returned (.bool (Lib.hasSuffix s.data.toList p.data.toList)) ∧ w' = w := Any.strings_HasSuffix Tryd.Abl s p w hs
def Tryd.Uo : Go.Shelf.Ren := ⟨fun | 221 => 124 | 268 => 156 | 138 => 122 | 143 => 154 | 195 => 152 | 197 => 177 | 218 => 153 | 219 => 175 | 260 => 190 | 217 => 186 | 225 => 187 | 224 => 188 | 267 => 189 | 266 => 197 | 314 => 198 | n => n, fun | 9 => 9 | 3 => 3 | 31 => 31 | 4 => 4 | 0 => 0 | 105 => 216 | 21 => 21 | 5 => 5 | 46 => 77 | 119 => 230 | 139 => 233 | 138 => 232 | 146 => 195 | 51 => 159 | n => n, fun | 1 => 0 | 3 => 2 | 4 => 3 | n => n⟩
theorem Tryd.Abq : Go.Proofs.Lays.n221 Tryd.prog Tryd.Uo := {
 mixed := by kernel_rfl
 f138 := Tryd.func122.trans (congrArg some (by kernel_rfl))
 f143 := Tryd.func154.trans (congrArg some (by kernel_rfl))
 f195 := Tryd.func152.trans (congrArg some (by kernel_rfl))
 f197 := Tryd.func177.trans (congrArg some (by kernel_rfl))
 f217 := Tryd.func186.trans (congrArg some (by kernel_rfl))
 f218 := Tryd.func153.trans (congrArg some (by kernel_rfl))
 f219 := Tryd.func175.trans (congrArg some (by kernel_rfl))
 f221 := Tryd.func124.trans (congrArg some (by kernel_rfl))
 f224 := Tryd.func188.trans (congrArg some (by kernel_rfl))
 f225 := Tryd.func187.trans (congrArg some (by kernel_rfl))
 f260 := Tryd.func190.trans (congrArg some (by kernel_rfl))
 f266 := Tryd.func197.trans (congrArg some (by kernel_rfl))
 f267 := Tryd.func189.trans (congrArg some (by kernel_rfl))
 f268 := Tryd.func156.trans (congrArg some (by kernel_rfl))
 f314 := Tryd.func198.trans (congrArg some (by kernel_rfl))
 t0 := Tryd.underlying0
 a0 := Tryd.isAgg0
 z0 := Tryd.sizeOf0
 v0 := Tryd.zeroValue0
 t3 := Tryd.underlying3
 a3 := Tryd.isAgg3
 z3 := Tryd.sizeOf3
 v3 := Tryd.zeroValue3
 t4 := Tryd.underlying4
 a4 := Tryd.isAgg4
 z4 := Tryd.sizeOf4
 v4 := Tryd.zeroValue4
 t5 := Tryd.underlying5
 a5 := Tryd.isAgg5
 z5 := Tryd.sizeOf5
 v5 := Tryd.zeroValue5
 t9 := Tryd.underlying9
 a9 := Tryd.isAgg9
 z9 := Tryd.sizeOf9
 v9 := Tryd.zeroValue9
 t21 := Tryd.underlying21
 a21 := Tryd.isAgg21
 z21 := Tryd.sizeOf21
 v21 := Tryd.zeroValue21
 t31 := Tryd.underlying31
 a31 := Tryd.isAgg31
 z31 := Tryd.sizeOf31
 v31 := Tryd.zeroValue31
 t46 := Tryd.underlying77
 a46 := Tryd.isAgg77
 z46 := Tryd.sizeOf77
 v46 := Tryd.zeroValue77
 t51 := Tryd.underlying159
 a51 := Tryd.isAgg159
 z51 := Tryd.sizeOf159
 v51 := Tryd.zeroValue159
 t105 := Tryd.underlying216
 a105 := Tryd.isAgg216
 z105 := Tryd.sizeOf216
 v105 := Tryd.zeroValue216
 t119 := Tryd.underlying230
 a119 := Tryd.isAgg230
 z119 := Tryd.sizeOf230
 t138 := Tryd.underlying232
 a138 := Tryd.isAgg232
 z138 := Tryd.sizeOf232
 v138 := Tryd.zeroValue232
 t139 := Tryd.underlying233
 a139 := Tryd.isAgg233
 z139 := Tryd.sizeOf233
 v139 := Tryd.zeroValue233
 t146 := Tryd.underlying195
 a146 := Tryd.isAgg195
 z146 := Tryd.sizeOf195
 v146 := Tryd.zeroValue195
 g1 := by kernel_rfl
 g3 := by kernel_rfl
 g4 := by kernel_rfl }
open Go.RowKit Go.Lib in
theorem Tryd.strings_genSplit (s sep : ByteArray) (sv : Nat) (n : Int) (N : Nat) (m : Int) (w : World) (hs : s.size < 4294967281) (hm : w.cell? ⟨0, 0, none⟩ = some (.int .i64 m)) (h1 : 1 ≤ sep.size) (hsv : sv ≤ sep.size) (hn0 : n ≠ 0) (hn63 : n ≤ 9223372036854775807) (hN : (N : Int) = min (if n < 0 then (Lib.countB s sep : Int) + 1 else n) ((s.size : Int) + 1)) :
  Calls Tryd.prog 124 #[.string s, .string sep, .int .i64 sv, .int .i64 n] w fun e w' =>
   e = .returned (.slice (some ⟨w.heap.size, 0, none⟩) (Lib.splitB sep sv (N - 1) s).length N) ∧ w' = w.alloc (.cells (Lib.cellsOf (Lib.splitB sep sv (N - 1) s) N) 9) := Any.strings_genSplit Tryd.Abq (by kernel_rfl) s sep sv n N m w hs hm h1 hsv hn0 hn63 hN
def Tryd.Afw : Go.Shelf.Ren := ⟨fun | 15 => 51 | n => n, fun | 22 => 22 | 3 => 3 | 4 => 4 | n => n, fun | n => n⟩
theorem Tryd.Afc : Go.Proofs.Lays2.n15 Tryd.prog Tryd.Afw := {
 mixed := by kernel_rfl
 f15 := Tryd.func51.trans (congrArg some (by kernel_rfl))
 t3 := Tryd.underlying3
 a3 := Tryd.isAgg3
 z3 := Tryd.sizeOf3
 v3 := Tryd.zeroValue3
 t4 := Tryd.underlying4
 a4 := Tryd.isAgg4
 z4 := Tryd.sizeOf4
 v4 := Tryd.zeroValue4
 t22 := Tryd.underlying22
 a22 := Tryd.isAgg22
 z22 := Tryd.sizeOf22
 v22 := Tryd.zeroValue22
 i3 := by kernel_rfl }
open Go.RowKit Go.Lib in
theorem Tryd.slices_Clone_int (b off n c : Nat) (zs : List Int) (w : World) (hz : n ≤ zs.length) (hbig : n * 8 ≤ 140737488355328) (hc : ∀ j, j < zs.length → w.cell? ⟨b, off + j, none⟩ = some (.int .i64 (zs.getD j 0))) :
  Calls Tryd.prog 51 #[.slice (some ⟨b, off, none⟩) n c] w fun e w' => ∃ v', e = .returned v' ∧ w'.ownsRow w.heap.size 3 1 v' n ((zs.take n).map (Value.int .i64)) ∧ v' ≠ .slice none 0 0 ∧ Below w.heap.size w w' := Any.slices_Clone_int Tryd.Afc b off n c zs w hz hbig hc
open Go.RowKit Go.Lib in
theorem Tryd.slices_Clone_int_nil (n c : Nat) (w : World) :
  Calls Tryd.prog 51 #[.slice none n c] w fun e w' => e = .returned (.slice none 0 0) ∧ w' = w := Any.slices_Clone_int_nil Tryd.Afc n c w
open Go.RowKit Go.Lib in
theorem Tryd.slices_Clone_int_zero (a : Addr) (c : Nat) (w : World) :
  Calls Tryd.prog 51 #[.slice (some a) 0 c] w fun e w' => ∃ v', e = .returned v' ∧ w'.ownsRow w.heap.size 3 1 v' 0 [] ∧ v' ≠ .slice none 0 0 ∧ Below w.heap.size w w' := Any.slices_Clone_int_zero Tryd.Afc a c w
def Tryd.Afx : Go.Shelf.Ren := ⟨fun | 20 => 53 | n => n, fun | 22 => 22 | 3 => 3 | 4 => 4 | 0 => 0 | n => n, fun | n => n⟩
theorem Tryd.AfA : Go.Proofs.Lays2.n20 Tryd.prog Tryd.Afx := {
 mixed := by kernel_rfl
 f20 := Tryd.func53.trans (congrArg some (by kernel_rfl))
 t0 := Tryd.underlying0
 a0 := Tryd.isAgg0
 z0 := Tryd.sizeOf0
 v0 := Tryd.zeroValue0
 t3 := Tryd.underlying3
 a3 := Tryd.isAgg3
 z3 := Tryd.sizeOf3
 v3 := Tryd.zeroValue3
 t4 := Tryd.underlying4
 a4 := Tryd.isAgg4
 z4 := Tryd.sizeOf4
 v4 := Tryd.zeroValue4
 t22 := Tryd.underlying22
 a22 := Tryd.isAgg22
 z22 := Tryd.sizeOf22
 v22 := Tryd.zeroValue22
 i3 := by kernel_rfl }
open Go.RowKit Go.Lib Go.Sort in
theorem Tryd.slices_Compact_int (blk off cap : Nat) (zs : List Int) (w : World) (hH : Holds (Value.int .i64) w blk off zs.toArray) (hsz : zs.length ≤ 9223372036854775807) (hcap : zs.length ≤ cap) :
  Calls Tryd.prog 53 #[.slice (some ⟨blk, off, none⟩) zs.length cap] w fun e w' => e = .returned (.slice (some ⟨blk, off, none⟩) (Lib.compact zs).length cap) ∧ ∃ q, w' = putRow (Value.int .i64) (Sort.ahead w q) blk off (Lib.compact zs ++ List.replicate (zs.length - (Lib.compact zs).length) 0).toArray := Any.slices_Compact_int Tryd.AfA blk off cap zs w hH hsz hcap
open Go.RowKit Go.Lib Go.Sort in
theorem Tryd.slices_Compact_int_empty (a : Option Addr) (cap : Nat) (w : World) :
  Calls Tryd.prog 53 #[.slice a 0 cap] w fun e w' => e = .returned (.slice a 0 cap) ∧ w' = w := Any.slices_Compact_int_empty Tryd.AfA a cap w
def Tryd.Ae5 : Go.Shelf.Ren := ⟨fun | 10 => 69 | 6 => 100 | n => n, fun | 22 => 22 | 23 => 3 | 25 => 114 | 3 => 3 | 4 => 4 | 0 => 0 | n => n, fun | n => n⟩
theorem Tryd.Afy : Go.Proofs.SlLaysH.n10 Tryd.prog Tryd.Ae5 := {
 mixed := by kernel_rfl
 f6 := ⟨Tryd.f100.name, by decide, Tryd.func100.trans (congrArg some (by kernel_rfl))⟩
 f10 := ⟨Tryd.f69.name, by decide, Tryd.func69.trans (congrArg some (by kernel_rfl))⟩
 t0 := Tryd.underlying0
 a0 := Tryd.isAgg0
 z0 := Tryd.sizeOf0
 v0 := Tryd.zeroValue0
 t3 := Tryd.underlying3
 a3 := Tryd.isAgg3
 z3 := Tryd.sizeOf3
 v3 := Tryd.zeroValue3
 t4 := Tryd.underlying4
 a4 := Tryd.isAgg4
 z4 := Tryd.sizeOf4
 v4 := Tryd.zeroValue4
 t22 := Tryd.underlying22
 a22 := Tryd.isAgg22
 z22 := Tryd.sizeOf22
 v22 := Tryd.zeroValue22
 a23 := Tryd.isAgg3
 z23 := Tryd.sizeOf3
 t25 := Tryd.underlying114
 a25 := Tryd.isAgg114
 z25 := Tryd.sizeOf114
 v25 := Tryd.zeroValue114 }
open Go.RowKit Go.Lib Go.Sort in
theorem Tryd.slices_DeleteFunc {α : Type} [Inhabited α] (enc : α → Value) (hO : OneCell enc) (p : α → Bool) (g : Nat) (lb : Array Value) (eg : ∀ args w, (callFunc g args).run Tryd.prog w = .ok (.enter g args) w) (zr : α) (v23 : ∀ w, (zeroValue 3).run Tryd.prog w = .ok (enc zr) w) (blk off cap : Nat) (d : Array α) (w : World) (hp : PredAt Tryd.prog g lb enc p w) (hpo : PredOver Tryd.prog g lb enc p blk off d.size w) (hH : Holds enc w blk off d) (hsz : d.size ≤ 9223372036854775807) (hcap : d.size ≤ cap) :
  Calls Tryd.prog 69 #[.slice (some ⟨blk, off, none⟩) d.size cap, .func (.func g) #[] lb] w fun e w' => e = .returned (.slice (some ⟨blk, off, none⟩) (d.toList.filter fun x => !p x).length cap) ∧ ∃ q, w' = putRow enc (Sort.ahead w q) blk off ((d.toList.filter fun x => !p x) ++ List.replicate (d.size - (d.toList.filter fun x => !p x).length) zr).toArray := AnyE.slices_DeleteFunc Tryd.Afy enc hO p g lb eg zr v23 blk off cap d w hp hpo hH hsz hcap
def Tryd.Afd : Go.Shelf.Ren := ⟨fun | 5 => 52 | 8 => 72 | 7 => 71 | 19 => 110 | 20 => 111 | 10 => 101 | 11 => 102 | 12 => 103 | 13 => 104 | 14 => 105 | 15 => 106 | 16 => 107 | 17 => 108 | 18 => 109 | 30 => 140 | 31 => 141 | 32 => 142 | 33 => 143 | 34 => 144 | 35 => 145 | 40 => 172 | n => n, fun | 23 => 22 | 25 => 3 | 3 => 3 | 32 => 77 | 22 => 22 | 0 => 0 | 44 => 159 | 46 => 106 | 4 => 4 | 36 => 152 | 35 => 151 | 41 => 156 | 5 => 5 | 9 => 9 | 53 => 187 | 57 => 191 | 63 => 212 | 64 => 99 | n => n, fun | n => n⟩
theorem Tryd.Ae6 : Go.Proofs.SlLaysM.n5 Tryd.prog Tryd.Afd := {
 mixed := by kernel_rfl
 f5 := ⟨Tryd.f52.name, by decide, Tryd.func52.trans (congrArg some (by kernel_rfl))⟩
 f7 := ⟨Tryd.f71.name, by decide, Tryd.func71.trans (congrArg some (by kernel_rfl))⟩
 f8 := Tryd.func72.trans (congrArg some (by kernel_rfl))
 f10 := ⟨Tryd.f101.name, by decide, Tryd.func101.trans (congrArg some (by kernel_rfl))⟩
 f11 := ⟨Tryd.f102.name, by decide, Tryd.func102.trans (congrArg some (by kernel_rfl))⟩
 f12 := ⟨Tryd.f103.name, by decide, Tryd.func103.trans (congrArg some (by kernel_rfl))⟩
 f13 := ⟨Tryd.f104.name, by decide, Tryd.func104.trans (congrArg some (by kernel_rfl))⟩
 f14 := ⟨Tryd.f105.name, by decide, Tryd.func105.trans (congrArg some (by kernel_rfl))⟩
 f15 := ⟨Tryd.f106.name, by decide, Tryd.func106.trans (congrArg some (by kernel_rfl))⟩
 f16 := ⟨Tryd.f107.name, by decide, Tryd.func107.trans (congrArg some (by kernel_rfl))⟩
 f17 := ⟨Tryd.f108.name, by decide, Tryd.func108.trans (congrArg some (by kernel_rfl))⟩
 f18 := ⟨Tryd.f109.name, by decide, Tryd.func109.trans (congrArg some (by kernel_rfl))⟩
 f19 := Tryd.func110.trans (congrArg some (by kernel_rfl))
 f20 := Tryd.func111.trans (congrArg some (by kernel_rfl))
 f30 := ⟨Tryd.f140.name, by decide, Tryd.func140.trans (congrArg some (by kernel_rfl))⟩
 f31 := Tryd.func141.trans (congrArg some (by kernel_rfl))
 f32 := Tryd.func142.trans (congrArg some (by kernel_rfl))
 f33 := ⟨Tryd.f143.name, by decide, Tryd.func143.trans (congrArg some (by kernel_rfl))⟩
 f34 := ⟨Tryd.f144.name, by decide, Tryd.func144.trans (congrArg some (by kernel_rfl))⟩
 f35 := ⟨Tryd.f145.name, by decide, Tryd.func145.trans (congrArg some (by kernel_rfl))⟩
 f40 := ⟨Tryd.f172.name, by decide, Tryd.func172.trans (congrArg some (by kernel_rfl))⟩
 t0 := Tryd.underlying0
 a0 := Tryd.isAgg0
 z0 := Tryd.sizeOf0
 v0 := Tryd.zeroValue0
 t3 := Tryd.underlying3
 a3 := Tryd.isAgg3
 z3 := Tryd.sizeOf3
 v3 := Tryd.zeroValue3
 t4 := Tryd.underlying4
 a4 := Tryd.isAgg4
 z4 := Tryd.sizeOf4
 v4 := Tryd.zeroValue4
 t5 := Tryd.underlying5
 a5 := Tryd.isAgg5
 z5 := Tryd.sizeOf5
 v5 := Tryd.zeroValue5
 t9 := Tryd.underlying9
 a9 := Tryd.isAgg9
 z9 := Tryd.sizeOf9
 v9 := Tryd.zeroValue9
 t22 := Tryd.underlying22
 a22 := Tryd.isAgg22
 z22 := Tryd.sizeOf22
 v22 := Tryd.zeroValue22
 t23 := Tryd.underlying22
 a23 := Tryd.isAgg22
 z23 := Tryd.sizeOf22
 v23 := Tryd.zeroValue22
 t25 := Tryd.underlying3
 a25 := Tryd.isAgg3
 z25 := Tryd.sizeOf3
 v25 := Tryd.zeroValue3
 t32 := Tryd.underlying77
 a32 := Tryd.isAgg77
 z32 := Tryd.sizeOf77
 v32 := Tryd.zeroValue77
 t35 := Tryd.underlying151
 a35 := Tryd.isAgg151
 z35 := Tryd.sizeOf151
 v35 := Tryd.zeroValue151
 t36 := Tryd.underlying152
 a36 := Tryd.isAgg152
 z36 := Tryd.sizeOf152
 v36 := Tryd.zeroValue152
 t41 := Tryd.underlying156
 a41 := Tryd.isAgg156
 z41 := Tryd.sizeOf156
 v41 := Tryd.zeroValue156
 t44 := Tryd.underlying159
 a44 := Tryd.isAgg159
 z44 := Tryd.sizeOf159
 v44 := Tryd.zeroValue159
 t46 := Tryd.underlying106
 a46 := Tryd.isAgg106
 z46 := Tryd.sizeOf106
 v46 := Tryd.zeroValue106
 t53 := Tryd.underlying187
 a53 := Tryd.isAgg187
 z53 := Tryd.sizeOf187
 v53 := Tryd.zeroValue187
 t57 := Tryd.underlying191
 a57 := Tryd.isAgg191
 z57 := Tryd.sizeOf191
 v57 := Tryd.zeroValue191
 t63 := Tryd.underlying212
 a63 := Tryd.isAgg212
 z63 := Tryd.sizeOf212
 v63 := Tryd.zeroValue212
 t64 := Tryd.underlying99
 a64 := Tryd.isAgg99
 z64 := Tryd.sizeOf99
 v64 := Tryd.zeroValue99 }
open Go.Sort Go.RowKit in
theorem Tryd.slices_Sort_int (blk off cap : Nat) (zs : List Int) (w : World) (hH : Holds (Value.int .i64) w blk off zs.toArray) (hblk : blk < w.heap.size) (hsz : zs.length < 4611686018427387904) :
  Calls Tryd.prog 52 #[.slice (some ⟨blk, off, none⟩) zs.length cap] w fun e w' =>
   e = .returned (.tuple #[]) ∧ ∃ n os, w' = grow (putRow (Value.int .i64) (Sort.ahead w n) blk off (zs.mergeSort fun x y => decide (x ≤ y)).toArray) os := AnyM.slices_Sort_int Tryd.Ae6 blk off cap zs w hH hblk hsz
open Go.RowKit Go.Sort in
theorem Tryd.slices_Sort_int_none (p : Option Addr) (cap : Nat) (w : World) :
  Calls Tryd.prog 52 #[.slice p 0 cap] w fun e w' => e = .returned (.tuple #[]) ∧ w' = w := AnyM.slices_Sort_int_none Tryd.Ae6 p cap w
def Tryd.Agv : Go.Shelf.Ren := ⟨fun | 10 => 69 | 6 => 100 | n => n, fun | 22 => 22 | 23 => 3 | 25 => 114 | 3 => 3 | 4 => 4 | 0 => 0 | n => n, fun | n => n⟩
theorem Tryd.AgY : Go.Proofs.SlLaysH.n10 Tryd.prog Tryd.Agv := {
 mixed := by kernel_rfl
 f6 := ⟨Tryd.f100.name, by decide, Tryd.func100.trans (congrArg some (by kernel_rfl))⟩
 f10 := ⟨Tryd.f69.name, by decide, Tryd.func69.trans (congrArg some (by kernel_rfl))⟩
 t0 := Tryd.underlying0
 a0 := Tryd.isAgg0
 z0 := Tryd.sizeOf0
 v0 := Tryd.zeroValue0
 t3 := Tryd.underlying3
 a3 := Tryd.isAgg3
 z3 := Tryd.sizeOf3
 v3 := Tryd.zeroValue3
 t4 := Tryd.underlying4
 a4 := Tryd.isAgg4
 z4 := Tryd.sizeOf4
 v4 := Tryd.zeroValue4
 t22 := Tryd.underlying22
 a22 := Tryd.isAgg22
 z22 := Tryd.sizeOf22
 v22 := Tryd.zeroValue22
 a23 := Tryd.isAgg3
 z23 := Tryd.sizeOf3
 t25 := Tryd.underlying114
 a25 := Tryd.isAgg114
 z25 := Tryd.sizeOf114
 v25 := Tryd.zeroValue114 }
def Tryd.Ago : Go.Shelf.Ren := ⟨fun | 5 => 52 | 8 => 72 | 7 => 71 | 19 => 110 | 20 => 111 | 10 => 101 | 11 => 102 | 12 => 103 | 13 => 104 | 14 => 105 | 15 => 106 | 16 => 107 | 17 => 108 | 18 => 109 | 30 => 140 | 31 => 141 | 32 => 142 | 33 => 143 | 34 => 144 | 35 => 145 | 40 => 172 | n => n, fun | 23 => 22 | 25 => 3 | 3 => 3 | 32 => 77 | 22 => 22 | 0 => 0 | 44 => 159 | 46 => 106 | 4 => 4 | 36 => 152 | 35 => 151 | 41 => 156 | 5 => 5 | 9 => 9 | 53 => 187 | 57 => 191 | 63 => 212 | 64 => 99 | n => n, fun | n => n⟩
theorem Tryd.AgQ : Go.Proofs.SlLaysM.n5 Tryd.prog Tryd.Ago := {
 mixed := by kernel_rfl
 f5 := ⟨Tryd.f52.name, by decide, Tryd.func52.trans (congrArg some (by kernel_rfl))⟩
 f7 := ⟨Tryd.f71.name, by decide, Tryd.func71.trans (congrArg some (by kernel_rfl))⟩
 f8 := Tryd.func72.trans (congrArg some (by kernel_rfl))
 f10 := ⟨Tryd.f101.name, by decide, Tryd.func101.trans (congrArg some (by kernel_rfl))⟩
 f11 := ⟨Tryd.f102.name, by decide, Tryd.func102.trans (congrArg some (by kernel_rfl))⟩
 f12 := ⟨Tryd.f103.name, by decide, Tryd.func103.trans (congrArg some (by kernel_rfl))⟩
 f13 := ⟨Tryd.f104.name, by decide, Tryd.func104.trans (congrArg some (by kernel_rfl))⟩
 f14 := ⟨Tryd.f105.name, by decide, Tryd.func105.trans (congrArg some (by kernel_rfl))⟩
 f15 := ⟨Tryd.f106.name, by decide, Tryd.func106.trans (congrArg some (by kernel_rfl))⟩
 f16 := ⟨Tryd.f107.name, by decide, Tryd.func107.trans (congrArg some (by kernel_rfl))⟩
 f17 := ⟨Tryd.f108.name, by decide, Tryd.func108.trans (congrArg some (by kernel_rfl))⟩
 f18 := ⟨Tryd.f109.name, by decide, Tryd.func109.trans (congrArg some (by kernel_rfl))⟩
 f19 := Tryd.func110.trans (congrArg some (by kernel_rfl))
 f20 := Tryd.func111.trans (congrArg some (by kernel_rfl))
 f30 := ⟨Tryd.f140.name, by decide, Tryd.func140.trans (congrArg some (by kernel_rfl))⟩
 f31 := Tryd.func141.trans (congrArg some (by kernel_rfl))
 f32 := Tryd.func142.trans (congrArg some (by kernel_rfl))
 f33 := ⟨Tryd.f143.name, by decide, Tryd.func143.trans (congrArg some (by kernel_rfl))⟩
 f34 := ⟨Tryd.f144.name, by decide, Tryd.func144.trans (congrArg some (by kernel_rfl))⟩
 f35 := ⟨Tryd.f145.name, by decide, Tryd.func145.trans (congrArg some (by kernel_rfl))⟩
 f40 := ⟨Tryd.f172.name, by decide, Tryd.func172.trans (congrArg some (by kernel_rfl))⟩
 t0 := Tryd.underlying0
 a0 := Tryd.isAgg0
 z0 := Tryd.sizeOf0
 v0 := Tryd.zeroValue0
 t3 := Tryd.underlying3
 a3 := Tryd.isAgg3
 z3 := Tryd.sizeOf3
 v3 := Tryd.zeroValue3
 t4 := Tryd.underlying4
 a4 := Tryd.isAgg4
 z4 := Tryd.sizeOf4
 v4 := Tryd.zeroValue4
 t5 := Tryd.underlying5
 a5 := Tryd.isAgg5
 z5 := Tryd.sizeOf5
 v5 := Tryd.zeroValue5
 t9 := Tryd.underlying9
 a9 := Tryd.isAgg9
 z9 := Tryd.sizeOf9
 v9 := Tryd.zeroValue9
 t22 := Tryd.underlying22
 a22 := Tryd.isAgg22
 z22 := Tryd.sizeOf22
 v22 := Tryd.zeroValue22
 t23 := Tryd.underlying22
 a23 := Tryd.isAgg22
 z23 := Tryd.sizeOf22
 v23 := Tryd.zeroValue22
 t25 := Tryd.underlying3
 a25 := Tryd.isAgg3
 z25 := Tryd.sizeOf3
 v25 := Tryd.zeroValue3
 t32 := Tryd.underlying77
 a32 := Tryd.isAgg77
 z32 := Tryd.sizeOf77
 v32 := Tryd.zeroValue77
 t35 := Tryd.underlying151
 a35 := Tryd.isAgg151
 z35 := Tryd.sizeOf151
 v35 := Tryd.zeroValue151
 t36 := Tryd.underlying152
 a36 := Tryd.isAgg152
 z36 := Tryd.sizeOf152
 v36 := Tryd.zeroValue152
 t41 := Tryd.underlying156
 a41 := Tryd.isAgg156
 z41 := Tryd.sizeOf156
 v41 := Tryd.zeroValue156
 t44 := Tryd.underlying159
 a44 := Tryd.isAgg159
 z44 := Tryd.sizeOf159
 v44 := Tryd.zeroValue159
 t46 := Tryd.underlying106
 a46 := Tryd.isAgg106
 z46 := Tryd.sizeOf106
 v46 := Tryd.zeroValue106
 t53 := Tryd.underlying187
 a53 := Tryd.isAgg187
 z53 := Tryd.sizeOf187
 v53 := Tryd.zeroValue187
 t57 := Tryd.underlying191
 a57 := Tryd.isAgg191
 z57 := Tryd.sizeOf191
 v57 := Tryd.zeroValue191
 t63 := Tryd.underlying212
 a63 := Tryd.isAgg212
 z63 := Tryd.sizeOf212
 v63 := Tryd.zeroValue212
 t64 := Tryd.underlying99
 a64 := Tryd.isAgg99
 z64 := Tryd.sizeOf99
 v64 := Tryd.zeroValue99 }
def Tryd.Af3 : Go.Shelf.Ren := ⟨fun | 43 => 53 | n => n, fun | 22 => 22 | 23 => 3 | 3 => 3 | 4 => 4 | 0 => 0 | n => n, fun | n => n⟩
theorem Tryd.Agu : Go.Proofs.SlLaysN.n43 Tryd.prog Tryd.Af3 := {
 mixed := by kernel_rfl
 f43 := ⟨Tryd.f53.name, by decide, Tryd.func53.trans (congrArg some (by kernel_rfl))⟩
 t0 := Tryd.underlying0
 a0 := Tryd.isAgg0
 z0 := Tryd.sizeOf0
 v0 := Tryd.zeroValue0
 t3 := Tryd.underlying3
 a3 := Tryd.isAgg3
 z3 := Tryd.sizeOf3
 v3 := Tryd.zeroValue3
 t4 := Tryd.underlying4
 a4 := Tryd.isAgg4
 z4 := Tryd.sizeOf4
 v4 := Tryd.zeroValue4
 t22 := Tryd.underlying22
 a22 := Tryd.isAgg22
 z22 := Tryd.sizeOf22
 v22 := Tryd.zeroValue22
 t23 := Tryd.underlying3
 a23 := Tryd.isAgg3
 z23 := Tryd.sizeOf3
 v23 := Tryd.zeroValue3
 i23 := by kernel_rfl }
def Tryd.Af2 : Go.Shelf.Ren := ⟨fun | 41 => 51 | n => n, fun | 22 => 22 | 23 => 3 | 4 => 4 | n => n, fun | n => n⟩
theorem Tryd.Af1 : Go.Proofs.SlLaysN.n41 Tryd.prog Tryd.Af2 := {
 mixed := by kernel_rfl
 f41 := ⟨Tryd.f51.name, by decide, Tryd.func51.trans (congrArg some (by kernel_rfl))⟩
 t4 := Tryd.underlying4
 a4 := Tryd.isAgg4
 z4 := Tryd.sizeOf4
 v4 := Tryd.zeroValue4
 t22 := Tryd.underlying22
 a22 := Tryd.isAgg22
 z22 := Tryd.sizeOf22
 v22 := Tryd.zeroValue22
 t23 := Tryd.underlying3
 a23 := Tryd.isAgg3
 z23 := Tryd.sizeOf3
 v23 := Tryd.zeroValue3
 i23 := by kernel_rfl }
end Go.Proofs
