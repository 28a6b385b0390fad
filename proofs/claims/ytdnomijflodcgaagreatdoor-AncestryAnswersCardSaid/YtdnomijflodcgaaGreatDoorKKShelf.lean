/-
 DERIVED: THE SHELF's CONTRACTS AT THIS DUMP, IN PLAIN WORDS (tools/lay-plain.mjs out of 'TryzShelf.lean', which tools/lay-shelf.mjs wrote): THE SAME DECLARATIONS UNDER THE SAME NAMES: 'import', 'namespace', 'open', 'def', 'theorem' AND NOTHING ELSE: no command of the shelf's: FOR A HAND-IN. Each laying: the table of numbers ('.._ren') and one theorem, a field a fact of the dump's own or the kernel's comparison; each contract: ONE APPLICATION.
-/
import Derived.Shelf.Strings.Builder1
import Derived.Shelf.Strings.Builder2
import Derived.Shelf.Small.Bits
import Derived.Shelf.Small.Strs
import Derived.Shelf.Small.Wraps
import Derived.Shelf.Strings.BuilderF
import Derived.Shelf.Strconv.Itoa0
import Derived.Shelf.Strconv.Itoa1
import Derived.Shelf.LaysM
import Derived.Shelf.Strconv.Itoa2
import Derived.Shelf.Strconv.Itoa3
import Derived.Shelf.Strings.Search1
import Derived.Shelf.Strings.Search2
import Derived.Shelf.Strings.Search3
import Derived.Shelf.Strings.Count
import Derived.Shelf.Strings.Shaped
import Derived.Shelf.Strings.Prefix
import Derived.Shelf.Strings.Split
import Derived.Shelf.Bits.Mul64
import Derived.Shelf.Strings.Repeat
import Derived.Shelf.Unicode.DecodeSlow
import Derived.Shelf.Unicode.DecodeAny
import Derived.Ground.Names2Prog
import Derived.Shelf.Slices.Clone
import Derived.Shelf.Slices.CompactI
import Derived.Shelf.Slices.SearchI
import Derived.Shelf.Slices.Cells
import Derived.Ground.SlgnProg
import Derived.Shelf.SlicesE.Compact
import Derived.Shelf.SlicesE.Clone
import Derived.Ground.SlgfProg
import Derived.Shelf.SlicesE.IndexFunc
import Derived.Shelf.SlicesE.DeleteFunc
import Derived.Ground.SlgmProg
import Derived.Shelf.SortM.Plain
import Derived.Shelf.SortM.SortNone
import Derived.Shelf.SlGeneric
import Derived.Ground.GgzProg
import Derived.Ground.SlsfProg
import Derived.Shelf.SlIter.Nil
import Derived.Shelf.SlSortCmp.NoneTotal
import Derived.Shelf.SlicesG.Clone
import Derived.Shelf.SlicesG.CompactI
import Derived.Shelf.SlicesQ.IndexFunc
import Derived.Test.YtdnomijflodcgaaGreatDoorProg
set_option linter.unusedVariables false
set_option linter.unusedSimpArgs false
namespace Go.Proofs
open Go.Shelf
def Tryz.VH : Go.Shelf.Ren := ⟨fun | 143 => 191 | 219 => 227 | 217 => 239 | 225 => 240 | 224 => 241 | 267 => 242 | 266 => 249 | 314 => 250 | n => n, fun | 9 => 9 | 3 => 3 | 4 => 4 | 5 => 5 | 46 => 71 | 146 => 218 | 51 => 178 | n => n, fun | 1 => 0 | n => n⟩
theorem Tryz.Ac9 : Go.Proofs.Lays.n143 Tryz.prog Tryz.VH := {
 mixed := by kernel_rfl
 f143 := Tryz.func191.trans (congrArg some (by kernel_rfl))
 f217 := Tryz.func239.trans (congrArg some (by kernel_rfl))
 f219 := Tryz.func227.trans (congrArg some (by kernel_rfl))
 f224 := Tryz.func241.trans (congrArg some (by kernel_rfl))
 f225 := Tryz.func240.trans (congrArg some (by kernel_rfl))
 f266 := Tryz.func249.trans (congrArg some (by kernel_rfl))
 f267 := Tryz.func242.trans (congrArg some (by kernel_rfl))
 f314 := Tryz.func250.trans (congrArg some (by kernel_rfl))
 t3 := Tryz.underlying3
 a3 := Tryz.isAgg3
 z3 := Tryz.sizeOf3
 v3 := Tryz.zeroValue3
 t4 := Tryz.underlying4
 a4 := Tryz.isAgg4
 z4 := Tryz.sizeOf4
 v4 := Tryz.zeroValue4
 t5 := Tryz.underlying5
 a5 := Tryz.isAgg5
 z5 := Tryz.sizeOf5
 v5 := Tryz.zeroValue5
 t9 := Tryz.underlying9
 a9 := Tryz.isAgg9
 z9 := Tryz.sizeOf9
 v9 := Tryz.zeroValue9
 t46 := Tryz.underlying71
 a46 := Tryz.isAgg71
 z46 := Tryz.sizeOf71
 v46 := Tryz.zeroValue71
 t51 := Tryz.underlying178
 a51 := Tryz.isAgg178
 z51 := Tryz.sizeOf178
 v51 := Tryz.zeroValue178
 t146 := Tryz.underlying218
 a146 := Tryz.isAgg218
 z146 := Tryz.sizeOf218
 v146 := Tryz.zeroValue218
 g1 := by kernel_rfl }
open Go.RowKit Go.Lib in
theorem Tryz.strings_Index_one (s : ByteArray) (c : UInt8) (w : World) :
  Calls Tryz.prog 191 #[.string s, .string ⟨#[c]⟩] w fun e w' => e = .returned (.int .i64 (Lib.indexByte s.data.toList c)) ∧ w' = w := Any.strings_Index_one Tryz.Ac9 s c w
def Tryz.VI : Go.Shelf.Ren := ⟨fun | 144 => 146 | 143 => 191 | 219 => 227 | 217 => 239 | 225 => 240 | 224 => 241 | 267 => 242 | 266 => 249 | 314 => 250 | n => n, fun | 9 => 9 | 4 => 4 | 3 => 3 | 5 => 5 | 46 => 71 | 146 => 218 | 51 => 178 | n => n, fun | 1 => 0 | n => n⟩
theorem Tryz.Ada : Go.Proofs.Lays.n144 Tryz.prog Tryz.VI := {
 mixed := by kernel_rfl
 f143 := Tryz.func191.trans (congrArg some (by kernel_rfl))
 f144 := Tryz.func146.trans (congrArg some (by kernel_rfl))
 f217 := Tryz.func239.trans (congrArg some (by kernel_rfl))
 f219 := Tryz.func227.trans (congrArg some (by kernel_rfl))
 f224 := Tryz.func241.trans (congrArg some (by kernel_rfl))
 f225 := Tryz.func240.trans (congrArg some (by kernel_rfl))
 f266 := Tryz.func249.trans (congrArg some (by kernel_rfl))
 f267 := Tryz.func242.trans (congrArg some (by kernel_rfl))
 f314 := Tryz.func250.trans (congrArg some (by kernel_rfl))
 t3 := Tryz.underlying3
 a3 := Tryz.isAgg3
 z3 := Tryz.sizeOf3
 v3 := Tryz.zeroValue3
 t4 := Tryz.underlying4
 a4 := Tryz.isAgg4
 z4 := Tryz.sizeOf4
 v4 := Tryz.zeroValue4
 t5 := Tryz.underlying5
 a5 := Tryz.isAgg5
 z5 := Tryz.sizeOf5
 v5 := Tryz.zeroValue5
 t9 := Tryz.underlying9
 a9 := Tryz.isAgg9
 z9 := Tryz.sizeOf9
 v9 := Tryz.zeroValue9
 t46 := Tryz.underlying71
 a46 := Tryz.isAgg71
 z46 := Tryz.sizeOf71
 v46 := Tryz.zeroValue71
 t51 := Tryz.underlying178
 a51 := Tryz.isAgg178
 z51 := Tryz.sizeOf178
 v51 := Tryz.zeroValue178
 t146 := Tryz.underlying218
 a146 := Tryz.isAgg218
 z146 := Tryz.sizeOf218
 v146 := Tryz.zeroValue218
 g1 := by kernel_rfl }
open Go.RowKit Go.Lib in
theorem Tryz.strings_Contains_one (s : ByteArray) (c : UInt8) (w : World) :
  Calls Tryz.prog 146 #[.string s, .string ⟨#[c]⟩] w fun e w' => e = .returned (.bool (decide (0 ≤ Lib.indexByte s.data.toList c))) ∧ w' = w := Any.strings_Contains_one Tryz.Ada s c w
def Tryz.VG : Go.Shelf.Ren := ⟨fun | 138 => 149 | 195 => 193 | 218 => 194 | 143 => 191 | 219 => 227 | 217 => 239 | 225 => 240 | 224 => 241 | 267 => 242 | 266 => 249 | 314 => 250 | n => n, fun | 9 => 9 | 3 => 3 | 4 => 4 | 5 => 5 | 0 => 0 | 46 => 71 | 146 => 218 | 51 => 178 | n => n, fun | 1 => 0 | n => n⟩
theorem Tryz.Ac8 : Go.Proofs.Lays.n138 Tryz.prog Tryz.VG := {
 mixed := by kernel_rfl
 f138 := Tryz.func149.trans (congrArg some (by kernel_rfl))
 f143 := Tryz.func191.trans (congrArg some (by kernel_rfl))
 f195 := Tryz.func193.trans (congrArg some (by kernel_rfl))
 f217 := Tryz.func239.trans (congrArg some (by kernel_rfl))
 f218 := Tryz.func194.trans (congrArg some (by kernel_rfl))
 f219 := Tryz.func227.trans (congrArg some (by kernel_rfl))
 f224 := Tryz.func241.trans (congrArg some (by kernel_rfl))
 f225 := Tryz.func240.trans (congrArg some (by kernel_rfl))
 f266 := Tryz.func249.trans (congrArg some (by kernel_rfl))
 f267 := Tryz.func242.trans (congrArg some (by kernel_rfl))
 f314 := Tryz.func250.trans (congrArg some (by kernel_rfl))
 t0 := Tryz.underlying0
 a0 := Tryz.isAgg0
 z0 := Tryz.sizeOf0
 v0 := Tryz.zeroValue0
 t3 := Tryz.underlying3
 a3 := Tryz.isAgg3
 z3 := Tryz.sizeOf3
 v3 := Tryz.zeroValue3
 t4 := Tryz.underlying4
 a4 := Tryz.isAgg4
 z4 := Tryz.sizeOf4
 v4 := Tryz.zeroValue4
 t5 := Tryz.underlying5
 a5 := Tryz.isAgg5
 z5 := Tryz.sizeOf5
 v5 := Tryz.zeroValue5
 t9 := Tryz.underlying9
 a9 := Tryz.isAgg9
 z9 := Tryz.sizeOf9
 v9 := Tryz.zeroValue9
 t46 := Tryz.underlying71
 a46 := Tryz.isAgg71
 z46 := Tryz.sizeOf71
 v46 := Tryz.zeroValue71
 t51 := Tryz.underlying178
 a51 := Tryz.isAgg178
 z51 := Tryz.sizeOf178
 v51 := Tryz.zeroValue178
 t146 := Tryz.underlying218
 a146 := Tryz.isAgg218
 z146 := Tryz.sizeOf218
 v146 := Tryz.zeroValue218
 g1 := by kernel_rfl }
open Go.RowKit Go.Lib in
theorem Tryz.strings_Count_one (s : ByteArray) (c : UInt8) (w : World) :
  Calls Tryz.prog 149 #[.string s, .string ⟨#[c]⟩] w fun e w' => e = .returned (.int .i64 (Lib.countByte s.data.toList c)) ∧ w' = w := Any.strings_Count_one Tryz.Ac8 s c w
def Tryz.VF : Go.Shelf.Ren := ⟨fun | 100 => 195 | 207 => 230 | n => n, fun | 9 => 9 | 4 => 4 | 3 => 3 | n => n, fun | n => n⟩
theorem Tryz.Ac7 : Go.Proofs.Lays.n100 Tryz.prog Tryz.VF := {
 mixed := by kernel_rfl
 f100 := Tryz.func195.trans (congrArg some (by kernel_rfl))
 f207 := Tryz.func230.trans (congrArg some (by kernel_rfl))
 t3 := Tryz.underlying3
 a3 := Tryz.isAgg3
 z3 := Tryz.sizeOf3
 v3 := Tryz.zeroValue3
 t4 := Tryz.underlying4
 a4 := Tryz.isAgg4
 z4 := Tryz.sizeOf4
 v4 := Tryz.zeroValue4
 t9 := Tryz.underlying9
 a9 := Tryz.isAgg9
 z9 := Tryz.sizeOf9
 v9 := Tryz.zeroValue9 }
open Go.RowKit Go.Lib in
theorem Tryz.strings_HasSuffix (s p : ByteArray) (w : World) (hs : s.size ≤ 9223372036854775807) :
  Calls Tryz.prog 195 #[.string s, .string p] w fun e w' => e = .returned (.bool (Lib.hasSuffix s.data.toList p.data.toList)) ∧ w' = w := Any.strings_HasSuffix Tryz.Ac7 s p w hs
def Tryz.VJ : Go.Shelf.Ren := ⟨fun | 221 => 202 | 268 => 233 | 138 => 149 | 143 => 191 | 195 => 193 | 197 => 229 | 218 => 194 | 219 => 227 | 260 => 243 | 217 => 239 | 225 => 240 | 224 => 241 | 267 => 242 | 266 => 249 | 314 => 250 | n => n, fun | 9 => 9 | 3 => 3 | 31 => 27 | 4 => 4 | 0 => 0 | 105 => 246 | 21 => 21 | 5 => 5 | 46 => 71 | 119 => 261 | 139 => 264 | 138 => 263 | 146 => 218 | 51 => 178 | n => n, fun | 1 => 0 | 3 => 1 | 4 => 2 | n => n⟩
theorem Tryz.Adb : Go.Proofs.Lays.n221 Tryz.prog Tryz.VJ := {
 mixed := by kernel_rfl
 f138 := Tryz.func149.trans (congrArg some (by kernel_rfl))
 f143 := Tryz.func191.trans (congrArg some (by kernel_rfl))
 f195 := Tryz.func193.trans (congrArg some (by kernel_rfl))
 f197 := Tryz.func229.trans (congrArg some (by kernel_rfl))
 f217 := Tryz.func239.trans (congrArg some (by kernel_rfl))
 f218 := Tryz.func194.trans (congrArg some (by kernel_rfl))
 f219 := Tryz.func227.trans (congrArg some (by kernel_rfl))
 f221 := Tryz.func202.trans (congrArg some (by kernel_rfl))
 f224 := Tryz.func241.trans (congrArg some (by kernel_rfl))
 f225 := Tryz.func240.trans (congrArg some (by kernel_rfl))
 f260 := Tryz.func243.trans (congrArg some (by kernel_rfl))
 f266 := Tryz.func249.trans (congrArg some (by kernel_rfl))
 f267 := Tryz.func242.trans (congrArg some (by kernel_rfl))
 f268 := Tryz.func233.trans (congrArg some (by kernel_rfl))
 f314 := Tryz.func250.trans (congrArg some (by kernel_rfl))
 t0 := Tryz.underlying0
 a0 := Tryz.isAgg0
 z0 := Tryz.sizeOf0
 v0 := Tryz.zeroValue0
 t3 := Tryz.underlying3
 a3 := Tryz.isAgg3
 z3 := Tryz.sizeOf3
 v3 := Tryz.zeroValue3
 t4 := Tryz.underlying4
 a4 := Tryz.isAgg4
 z4 := Tryz.sizeOf4
 v4 := Tryz.zeroValue4
 t5 := Tryz.underlying5
 a5 := Tryz.isAgg5
 z5 := Tryz.sizeOf5
 v5 := Tryz.zeroValue5
 t9 := Tryz.underlying9
 a9 := Tryz.isAgg9
 z9 := Tryz.sizeOf9
 v9 := Tryz.zeroValue9
 t21 := Tryz.underlying21
 a21 := Tryz.isAgg21
 z21 := Tryz.sizeOf21
 v21 := Tryz.zeroValue21
 t31 := Tryz.underlying27
 a31 := Tryz.isAgg27
 z31 := Tryz.sizeOf27
 v31 := Tryz.zeroValue27
 t46 := Tryz.underlying71
 a46 := Tryz.isAgg71
 z46 := Tryz.sizeOf71
 v46 := Tryz.zeroValue71
 t51 := Tryz.underlying178
 a51 := Tryz.isAgg178
 z51 := Tryz.sizeOf178
 v51 := Tryz.zeroValue178
 t105 := Tryz.underlying246
 a105 := Tryz.isAgg246
 z105 := Tryz.sizeOf246
 v105 := Tryz.zeroValue246
 t119 := Tryz.underlying261
 a119 := Tryz.isAgg261
 z119 := Tryz.sizeOf261
 t138 := Tryz.underlying263
 a138 := Tryz.isAgg263
 z138 := Tryz.sizeOf263
 v138 := Tryz.zeroValue263
 t139 := Tryz.underlying264
 a139 := Tryz.isAgg264
 z139 := Tryz.sizeOf264
 v139 := Tryz.zeroValue264
 t146 := Tryz.underlying218
 a146 := Tryz.isAgg218
 z146 := Tryz.sizeOf218
 v146 := Tryz.zeroValue218
 g1 := by kernel_rfl
 g3 := by kernel_rfl
 g4 := by kernel_rfl }
open Go.RowKit Go.Lib in
theorem Tryz.strings_genSplit (s sep : ByteArray) (sv : Nat) (n : Int) (N : Nat) (m : Int) (w : World) (hs : s.size < 4294967281) (hm : w.cell? ⟨0, 0, none⟩ = some (.int .i64 m)) (h1 : 1 ≤ sep.size) (hsv : sv ≤ sep.size) (hn0 : n ≠ 0) (hn63 : n ≤ 9223372036854775807) (hN : (N : Int) = min (if n < 0 then (Lib.countB s sep : Int) + 1 else n) ((s.size : Int) + 1)) :
  Calls Tryz.prog 202 #[.string s, .string sep, .int .i64 sv, .int .i64 n] w fun e w' =>
   e = .returned (.slice (some ⟨w.heap.size, 0, none⟩) (Lib.splitB sep sv (N - 1) s).length N) ∧ w' = w.alloc (.cells (Lib.cellsOf (Lib.splitB sep sv (N - 1) s) N) 9) := Any.strings_genSplit Tryz.Adb (by kernel_rfl) s sep sv n N m w hs hm h1 hsv hn0 hn63 hN
def Tryz.RZ : Go.Shelf.Ren := ⟨fun | 15 => 63 | n => n, fun | 22 => 22 | 3 => 3 | 4 => 4 | n => n, fun | n => n⟩
theorem Tryz.Oz : Go.Proofs.Lays2.n15 Tryz.prog Tryz.RZ := {
 mixed := by kernel_rfl
 f15 := Tryz.func63.trans (congrArg some (by kernel_rfl))
 t3 := Tryz.underlying3
 a3 := Tryz.isAgg3
 z3 := Tryz.sizeOf3
 v3 := Tryz.zeroValue3
 t4 := Tryz.underlying4
 a4 := Tryz.isAgg4
 z4 := Tryz.sizeOf4
 v4 := Tryz.zeroValue4
 t22 := Tryz.underlying22
 a22 := Tryz.isAgg22
 z22 := Tryz.sizeOf22
 v22 := Tryz.zeroValue22
 i3 := by kernel_rfl }
open Go.RowKit Go.Lib in
theorem Tryz.slices_Clone_int (b off n c : Nat) (zs : List Int) (w : World) (hz : n ≤ zs.length) (hbig : n * 8 ≤ 140737488355328) (hc : ∀ j, j < zs.length → w.cell? ⟨b, off + j, none⟩ = some (.int .i64 (zs.getD j 0))) :
  Calls Tryz.prog 63 #[.slice (some ⟨b, off, none⟩) n c] w fun e w' => ∃ v', e = .returned v' ∧ w'.ownsRow w.heap.size 3 1 v' n ((zs.take n).map (Value.int .i64)) ∧ v' ≠ .slice none 0 0 ∧ Below w.heap.size w w' := Any.slices_Clone_int Tryz.Oz b off n c zs w hz hbig hc
open Go.RowKit Go.Lib in
theorem Tryz.slices_Clone_int_nil (n c : Nat) (w : World) :
  Calls Tryz.prog 63 #[.slice none n c] w fun e w' => e = .returned (.slice none 0 0) ∧ w' = w := Any.slices_Clone_int_nil Tryz.Oz n c w
open Go.RowKit Go.Lib in
theorem Tryz.slices_Clone_int_zero (a : Addr) (c : Nat) (w : World) :
  Calls Tryz.prog 63 #[.slice (some a) 0 c] w fun e w' => ∃ v', e = .returned v' ∧ w'.ownsRow w.heap.size 3 1 v' 0 [] ∧ v' ≠ .slice none 0 0 ∧ Below w.heap.size w w' := Any.slices_Clone_int_zero Tryz.Oz a c w
def Tryz.R6 : Go.Shelf.Ren := ⟨fun | 20 => 65 | n => n, fun | 22 => 22 | 3 => 3 | 4 => 4 | 0 => 0 | n => n, fun | n => n⟩
theorem Tryz.SR : Go.Proofs.Lays2.n20 Tryz.prog Tryz.R6 := {
 mixed := by kernel_rfl
 f20 := Tryz.func65.trans (congrArg some (by kernel_rfl))
 t0 := Tryz.underlying0
 a0 := Tryz.isAgg0
 z0 := Tryz.sizeOf0
 v0 := Tryz.zeroValue0
 t3 := Tryz.underlying3
 a3 := Tryz.isAgg3
 z3 := Tryz.sizeOf3
 v3 := Tryz.zeroValue3
 t4 := Tryz.underlying4
 a4 := Tryz.isAgg4
 z4 := Tryz.sizeOf4
 v4 := Tryz.zeroValue4
 t22 := Tryz.underlying22
 a22 := Tryz.isAgg22
 z22 := Tryz.sizeOf22
 v22 := Tryz.zeroValue22
 i3 := by kernel_rfl }
open Go.RowKit Go.Lib Go.Sort in
theorem Tryz.slices_Compact_int (blk off cap : Nat) (zs : List Int) (w : World) (hH : Holds (Value.int .i64) w blk off zs.toArray) (hsz : zs.length ≤ 9223372036854775807) (hcap : zs.length ≤ cap) :
  Calls Tryz.prog 65 #[.slice (some ⟨blk, off, none⟩) zs.length cap] w fun e w' => e = .returned (.slice (some ⟨blk, off, none⟩) (Lib.compact zs).length cap) ∧ ∃ q, w' = putRow (Value.int .i64) (Sort.ahead w q) blk off (Lib.compact zs ++ List.replicate (zs.length - (Lib.compact zs).length) 0).toArray := Any.slices_Compact_int Tryz.SR blk off cap zs w hH hsz hcap
open Go.RowKit Go.Lib Go.Sort in
theorem Tryz.slices_Compact_int_empty (a : Option Addr) (cap : Nat) (w : World) :
  Calls Tryz.prog 65 #[.slice a 0 cap] w fun e w' => e = .returned (.slice a 0 cap) ∧ w' = w := Any.slices_Compact_int_empty Tryz.SR a cap w
def Tryz.Ni : Go.Shelf.Ren := ⟨fun | 10 => 90 | 6 => 131 | n => n, fun | 22 => 22 | 23 => 3 | 25 => 124 | 3 => 3 | 4 => 4 | 0 => 0 | n => n, fun | n => n⟩
theorem Tryz.R7 : Go.Proofs.SlLaysH.n10 Tryz.prog Tryz.Ni := {
 mixed := by kernel_rfl
 f6 := ⟨Tryz.f131.name, by decide, Tryz.func131.trans (congrArg some (by kernel_rfl))⟩
 f10 := ⟨Tryz.f90.name, by decide, Tryz.func90.trans (congrArg some (by kernel_rfl))⟩
 t0 := Tryz.underlying0
 a0 := Tryz.isAgg0
 z0 := Tryz.sizeOf0
 v0 := Tryz.zeroValue0
 t3 := Tryz.underlying3
 a3 := Tryz.isAgg3
 z3 := Tryz.sizeOf3
 v3 := Tryz.zeroValue3
 t4 := Tryz.underlying4
 a4 := Tryz.isAgg4
 z4 := Tryz.sizeOf4
 v4 := Tryz.zeroValue4
 t22 := Tryz.underlying22
 a22 := Tryz.isAgg22
 z22 := Tryz.sizeOf22
 v22 := Tryz.zeroValue22
 a23 := Tryz.isAgg3
 z23 := Tryz.sizeOf3
 t25 := Tryz.underlying124
 a25 := Tryz.isAgg124
 z25 := Tryz.sizeOf124
 v25 := Tryz.zeroValue124 }
open Go.RowKit Go.Lib Go.Sort in
theorem Tryz.slices_DeleteFunc {α : Type} [Inhabited α] (enc : α → Value) (hO : OneCell enc) (p : α → Bool) (g : Nat) (lb : Array Value) (eg : ∀ args w, (callFunc g args).run Tryz.prog w = .ok (.enter g args) w) (zr : α) (v23 : ∀ w, (zeroValue 3).run Tryz.prog w = .ok (enc zr) w) (blk off cap : Nat) (d : Array α) (w : World) (hp : PredAt Tryz.prog g lb enc p w) (hpo : PredOver Tryz.prog g lb enc p blk off d.size w) (hH : Holds enc w blk off d) (hsz : d.size ≤ 9223372036854775807) (hcap : d.size ≤ cap) :
  Calls Tryz.prog 90 #[.slice (some ⟨blk, off, none⟩) d.size cap, .func (.func g) #[] lb] w fun e w' => e = .returned (.slice (some ⟨blk, off, none⟩) (d.toList.filter fun x => !p x).length cap) ∧ ∃ q, w' = putRow enc (Sort.ahead w q) blk off ((d.toList.filter fun x => !p x) ++ List.replicate (d.size - (d.toList.filter fun x => !p x).length) zr).toArray := AnyE.slices_DeleteFunc Tryz.R7 enc hO p g lb eg zr v23 blk off cap d w hp hpo hH hsz hcap
def Tryz.OA : Go.Shelf.Ren := ⟨fun | 5 => 64 | 8 => 93 | 7 => 92 | 19 => 141 | 20 => 142 | 10 => 132 | 11 => 133 | 12 => 134 | 13 => 135 | 14 => 136 | 15 => 137 | 16 => 138 | 17 => 139 | 18 => 140 | 30 => 176 | 31 => 177 | 32 => 178 | 33 => 179 | 34 => 180 | 35 => 181 | 40 => 222 | n => n, fun | 23 => 22 | 25 => 3 | 3 => 3 | 32 => 71 | 22 => 22 | 0 => 0 | 44 => 178 | 46 => 118 | 4 => 4 | 36 => 170 | 35 => 169 | 41 => 175 | 5 => 5 | 9 => 9 | 53 => 202 | 57 => 206 | 63 => 242 | 64 => 111 | n => n, fun | n => n⟩
theorem Tryz.Nj : Go.Proofs.SlLaysM.n5 Tryz.prog Tryz.OA := {
 mixed := by kernel_rfl
 f5 := ⟨Tryz.f64.name, by decide, Tryz.func64.trans (congrArg some (by kernel_rfl))⟩
 f7 := ⟨Tryz.f92.name, by decide, Tryz.func92.trans (congrArg some (by kernel_rfl))⟩
 f8 := Tryz.func93.trans (congrArg some (by kernel_rfl))
 f10 := ⟨Tryz.f132.name, by decide, Tryz.func132.trans (congrArg some (by kernel_rfl))⟩
 f11 := ⟨Tryz.f133.name, by decide, Tryz.func133.trans (congrArg some (by kernel_rfl))⟩
 f12 := ⟨Tryz.f134.name, by decide, Tryz.func134.trans (congrArg some (by kernel_rfl))⟩
 f13 := ⟨Tryz.f135.name, by decide, Tryz.func135.trans (congrArg some (by kernel_rfl))⟩
 f14 := ⟨Tryz.f136.name, by decide, Tryz.func136.trans (congrArg some (by kernel_rfl))⟩
 f15 := ⟨Tryz.f137.name, by decide, Tryz.func137.trans (congrArg some (by kernel_rfl))⟩
 f16 := ⟨Tryz.f138.name, by decide, Tryz.func138.trans (congrArg some (by kernel_rfl))⟩
 f17 := ⟨Tryz.f139.name, by decide, Tryz.func139.trans (congrArg some (by kernel_rfl))⟩
 f18 := ⟨Tryz.f140.name, by decide, Tryz.func140.trans (congrArg some (by kernel_rfl))⟩
 f19 := Tryz.func141.trans (congrArg some (by kernel_rfl))
 f20 := Tryz.func142.trans (congrArg some (by kernel_rfl))
 f30 := ⟨Tryz.f176.name, by decide, Tryz.func176.trans (congrArg some (by kernel_rfl))⟩
 f31 := Tryz.func177.trans (congrArg some (by kernel_rfl))
 f32 := Tryz.func178.trans (congrArg some (by kernel_rfl))
 f33 := ⟨Tryz.f179.name, by decide, Tryz.func179.trans (congrArg some (by kernel_rfl))⟩
 f34 := ⟨Tryz.f180.name, by decide, Tryz.func180.trans (congrArg some (by kernel_rfl))⟩
 f35 := ⟨Tryz.f181.name, by decide, Tryz.func181.trans (congrArg some (by kernel_rfl))⟩
 f40 := ⟨Tryz.f222.name, by decide, Tryz.func222.trans (congrArg some (by kernel_rfl))⟩
 t0 := Tryz.underlying0
 a0 := Tryz.isAgg0
 z0 := Tryz.sizeOf0
 v0 := Tryz.zeroValue0
 t3 := Tryz.underlying3
 a3 := Tryz.isAgg3
 z3 := Tryz.sizeOf3
 v3 := Tryz.zeroValue3
 t4 := Tryz.underlying4
 a4 := Tryz.isAgg4
 z4 := Tryz.sizeOf4
 v4 := Tryz.zeroValue4
 t5 := Tryz.underlying5
 a5 := Tryz.isAgg5
 z5 := Tryz.sizeOf5
 v5 := Tryz.zeroValue5
 t9 := Tryz.underlying9
 a9 := Tryz.isAgg9
 z9 := Tryz.sizeOf9
 v9 := Tryz.zeroValue9
 t22 := Tryz.underlying22
 a22 := Tryz.isAgg22
 z22 := Tryz.sizeOf22
 v22 := Tryz.zeroValue22
 t23 := Tryz.underlying22
 a23 := Tryz.isAgg22
 z23 := Tryz.sizeOf22
 v23 := Tryz.zeroValue22
 t25 := Tryz.underlying3
 a25 := Tryz.isAgg3
 z25 := Tryz.sizeOf3
 v25 := Tryz.zeroValue3
 t32 := Tryz.underlying71
 a32 := Tryz.isAgg71
 z32 := Tryz.sizeOf71
 v32 := Tryz.zeroValue71
 t35 := Tryz.underlying169
 a35 := Tryz.isAgg169
 z35 := Tryz.sizeOf169
 v35 := Tryz.zeroValue169
 t36 := Tryz.underlying170
 a36 := Tryz.isAgg170
 z36 := Tryz.sizeOf170
 v36 := Tryz.zeroValue170
 t41 := Tryz.underlying175
 a41 := Tryz.isAgg175
 z41 := Tryz.sizeOf175
 v41 := Tryz.zeroValue175
 t44 := Tryz.underlying178
 a44 := Tryz.isAgg178
 z44 := Tryz.sizeOf178
 v44 := Tryz.zeroValue178
 t46 := Tryz.underlying118
 a46 := Tryz.isAgg118
 z46 := Tryz.sizeOf118
 v46 := Tryz.zeroValue118
 t53 := Tryz.underlying202
 a53 := Tryz.isAgg202
 z53 := Tryz.sizeOf202
 v53 := Tryz.zeroValue202
 t57 := Tryz.underlying206
 a57 := Tryz.isAgg206
 z57 := Tryz.sizeOf206
 v57 := Tryz.zeroValue206
 t63 := Tryz.underlying242
 a63 := Tryz.isAgg242
 z63 := Tryz.sizeOf242
 v63 := Tryz.zeroValue242
 t64 := Tryz.underlying111
 a64 := Tryz.isAgg111
 z64 := Tryz.sizeOf111
 v64 := Tryz.zeroValue111 }
open Go.Sort Go.RowKit in
theorem Tryz.slices_Sort_int (blk off cap : Nat) (zs : List Int) (w : World) (hH : Holds (Value.int .i64) w blk off zs.toArray) (hblk : blk < w.heap.size) (hsz : zs.length < 4611686018427387904) :
  Calls Tryz.prog 64 #[.slice (some ⟨blk, off, none⟩) zs.length cap] w fun e w' =>
   e = .returned (.tuple #[]) ∧ ∃ n os, w' = grow (putRow (Value.int .i64) (Sort.ahead w n) blk off (zs.mergeSort fun x y => decide (x ≤ y)).toArray) os := AnyM.slices_Sort_int Tryz.Nj blk off cap zs w hH hblk hsz
open Go.RowKit Go.Sort in
theorem Tryz.slices_Sort_int_none (p : Option Addr) (cap : Nat) (w : World) :
  Calls Tryz.prog 64 #[.slice p 0 cap] w fun e w' => e = .returned (.tuple #[]) ∧ w' = w := AnyM.slices_Sort_int_none Tryz.Nj p cap w
def Tryz.Abc : Go.Shelf.Ren := ⟨fun | 10 => 90 | 6 => 131 | n => n, fun | 22 => 22 | 23 => 3 | 25 => 124 | 3 => 3 | 4 => 4 | 0 => 0 | n => n, fun | n => n⟩
theorem Tryz.AfQ : Go.Proofs.SlLaysH.n10 Tryz.prog Tryz.Abc := {
 mixed := by kernel_rfl
 f6 := ⟨Tryz.f131.name, by decide, Tryz.func131.trans (congrArg some (by kernel_rfl))⟩
 f10 := ⟨Tryz.f90.name, by decide, Tryz.func90.trans (congrArg some (by kernel_rfl))⟩
 t0 := Tryz.underlying0
 a0 := Tryz.isAgg0
 z0 := Tryz.sizeOf0
 v0 := Tryz.zeroValue0
 t3 := Tryz.underlying3
 a3 := Tryz.isAgg3
 z3 := Tryz.sizeOf3
 v3 := Tryz.zeroValue3
 t4 := Tryz.underlying4
 a4 := Tryz.isAgg4
 z4 := Tryz.sizeOf4
 v4 := Tryz.zeroValue4
 t22 := Tryz.underlying22
 a22 := Tryz.isAgg22
 z22 := Tryz.sizeOf22
 v22 := Tryz.zeroValue22
 a23 := Tryz.isAgg3
 z23 := Tryz.sizeOf3
 t25 := Tryz.underlying124
 a25 := Tryz.isAgg124
 z25 := Tryz.sizeOf124
 v25 := Tryz.zeroValue124 }
def Tryz.Aaf : Go.Shelf.Ren := ⟨fun | 5 => 64 | 8 => 93 | 7 => 92 | 19 => 141 | 20 => 142 | 10 => 132 | 11 => 133 | 12 => 134 | 13 => 135 | 14 => 136 | 15 => 137 | 16 => 138 | 17 => 139 | 18 => 140 | 30 => 176 | 31 => 177 | 32 => 178 | 33 => 179 | 34 => 180 | 35 => 181 | 40 => 222 | n => n, fun | 23 => 22 | 25 => 3 | 3 => 3 | 32 => 71 | 22 => 22 | 0 => 0 | 44 => 178 | 46 => 118 | 4 => 4 | 36 => 170 | 35 => 169 | 41 => 175 | 5 => 5 | 9 => 9 | 53 => 202 | 57 => 206 | 63 => 242 | 64 => 111 | n => n, fun | n => n⟩
theorem Tryz.Aea : Go.Proofs.SlLaysM.n5 Tryz.prog Tryz.Aaf := {
 mixed := by kernel_rfl
 f5 := ⟨Tryz.f64.name, by decide, Tryz.func64.trans (congrArg some (by kernel_rfl))⟩
 f7 := ⟨Tryz.f92.name, by decide, Tryz.func92.trans (congrArg some (by kernel_rfl))⟩
 f8 := Tryz.func93.trans (congrArg some (by kernel_rfl))
 f10 := ⟨Tryz.f132.name, by decide, Tryz.func132.trans (congrArg some (by kernel_rfl))⟩
 f11 := ⟨Tryz.f133.name, by decide, Tryz.func133.trans (congrArg some (by kernel_rfl))⟩
 f12 := ⟨Tryz.f134.name, by decide, Tryz.func134.trans (congrArg some (by kernel_rfl))⟩
 f13 := ⟨Tryz.f135.name, by decide, Tryz.func135.trans (congrArg some (by kernel_rfl))⟩
 f14 := ⟨Tryz.f136.name, by decide, Tryz.func136.trans (congrArg some (by kernel_rfl))⟩
 f15 := ⟨Tryz.f137.name, by decide, Tryz.func137.trans (congrArg some (by kernel_rfl))⟩
 f16 := ⟨Tryz.f138.name, by decide, Tryz.func138.trans (congrArg some (by kernel_rfl))⟩
 f17 := ⟨Tryz.f139.name, by decide, Tryz.func139.trans (congrArg some (by kernel_rfl))⟩
 f18 := ⟨Tryz.f140.name, by decide, Tryz.func140.trans (congrArg some (by kernel_rfl))⟩
 f19 := Tryz.func141.trans (congrArg some (by kernel_rfl))
 f20 := Tryz.func142.trans (congrArg some (by kernel_rfl))
 f30 := ⟨Tryz.f176.name, by decide, Tryz.func176.trans (congrArg some (by kernel_rfl))⟩
 f31 := Tryz.func177.trans (congrArg some (by kernel_rfl))
 f32 := Tryz.func178.trans (congrArg some (by kernel_rfl))
 f33 := ⟨Tryz.f179.name, by decide, Tryz.func179.trans (congrArg some (by kernel_rfl))⟩
 f34 := ⟨Tryz.f180.name, by decide, Tryz.func180.trans (congrArg some (by kernel_rfl))⟩
 f35 := ⟨Tryz.f181.name, by decide, Tryz.func181.trans (congrArg some (by kernel_rfl))⟩
 f40 := ⟨Tryz.f222.name, by decide, Tryz.func222.trans (congrArg some (by kernel_rfl))⟩
 t0 := Tryz.underlying0
 a0 := Tryz.isAgg0
 z0 := Tryz.sizeOf0
 v0 := Tryz.zeroValue0
 t3 := Tryz.underlying3
 a3 := Tryz.isAgg3
 z3 := Tryz.sizeOf3
 v3 := Tryz.zeroValue3
 t4 := Tryz.underlying4
 a4 := Tryz.isAgg4
 z4 := Tryz.sizeOf4
 v4 := Tryz.zeroValue4
 t5 := Tryz.underlying5
 a5 := Tryz.isAgg5
 z5 := Tryz.sizeOf5
 v5 := Tryz.zeroValue5
 t9 := Tryz.underlying9
 a9 := Tryz.isAgg9
 z9 := Tryz.sizeOf9
 v9 := Tryz.zeroValue9
 t22 := Tryz.underlying22
 a22 := Tryz.isAgg22
 z22 := Tryz.sizeOf22
 v22 := Tryz.zeroValue22
 t23 := Tryz.underlying22
 a23 := Tryz.isAgg22
 z23 := Tryz.sizeOf22
 v23 := Tryz.zeroValue22
 t25 := Tryz.underlying3
 a25 := Tryz.isAgg3
 z25 := Tryz.sizeOf3
 v25 := Tryz.zeroValue3
 t32 := Tryz.underlying71
 a32 := Tryz.isAgg71
 z32 := Tryz.sizeOf71
 v32 := Tryz.zeroValue71
 t35 := Tryz.underlying169
 a35 := Tryz.isAgg169
 z35 := Tryz.sizeOf169
 v35 := Tryz.zeroValue169
 t36 := Tryz.underlying170
 a36 := Tryz.isAgg170
 z36 := Tryz.sizeOf170
 v36 := Tryz.zeroValue170
 t41 := Tryz.underlying175
 a41 := Tryz.isAgg175
 z41 := Tryz.sizeOf175
 v41 := Tryz.zeroValue175
 t44 := Tryz.underlying178
 a44 := Tryz.isAgg178
 z44 := Tryz.sizeOf178
 v44 := Tryz.zeroValue178
 t46 := Tryz.underlying118
 a46 := Tryz.isAgg118
 z46 := Tryz.sizeOf118
 v46 := Tryz.zeroValue118
 t53 := Tryz.underlying202
 a53 := Tryz.isAgg202
 z53 := Tryz.sizeOf202
 v53 := Tryz.zeroValue202
 t57 := Tryz.underlying206
 a57 := Tryz.isAgg206
 z57 := Tryz.sizeOf206
 v57 := Tryz.zeroValue206
 t63 := Tryz.underlying242
 a63 := Tryz.isAgg242
 z63 := Tryz.sizeOf242
 v63 := Tryz.zeroValue242
 t64 := Tryz.underlying111
 a64 := Tryz.isAgg111
 z64 := Tryz.sizeOf111
 v64 := Tryz.zeroValue111 }
def Tryz.Xx : Go.Shelf.Ren := ⟨fun | 43 => 65 | n => n, fun | 22 => 22 | 23 => 3 | 3 => 3 | 4 => 4 | 0 => 0 | n => n, fun | n => n⟩
theorem Tryz.Aa9 : Go.Proofs.SlLaysN.n43 Tryz.prog Tryz.Xx := {
 mixed := by kernel_rfl
 f43 := ⟨Tryz.f65.name, by decide, Tryz.func65.trans (congrArg some (by kernel_rfl))⟩
 t0 := Tryz.underlying0
 a0 := Tryz.isAgg0
 z0 := Tryz.sizeOf0
 v0 := Tryz.zeroValue0
 t3 := Tryz.underlying3
 a3 := Tryz.isAgg3
 z3 := Tryz.sizeOf3
 v3 := Tryz.zeroValue3
 t4 := Tryz.underlying4
 a4 := Tryz.isAgg4
 z4 := Tryz.sizeOf4
 v4 := Tryz.zeroValue4
 t22 := Tryz.underlying22
 a22 := Tryz.isAgg22
 z22 := Tryz.sizeOf22
 v22 := Tryz.zeroValue22
 t23 := Tryz.underlying3
 a23 := Tryz.isAgg3
 z23 := Tryz.sizeOf3
 v23 := Tryz.zeroValue3
 i23 := by kernel_rfl }
def Tryz.Xw : Go.Shelf.Ren := ⟨fun | 41 => 63 | n => n, fun | 22 => 22 | 23 => 3 | 4 => 4 | n => n, fun | n => n⟩
theorem Tryz.Xv : Go.Proofs.SlLaysN.n41 Tryz.prog Tryz.Xw := {
 mixed := by kernel_rfl
 f41 := ⟨Tryz.f63.name, by decide, Tryz.func63.trans (congrArg some (by kernel_rfl))⟩
 t4 := Tryz.underlying4
 a4 := Tryz.isAgg4
 z4 := Tryz.sizeOf4
 v4 := Tryz.zeroValue4
 t22 := Tryz.underlying22
 a22 := Tryz.isAgg22
 z22 := Tryz.sizeOf22
 v22 := Tryz.zeroValue22
 t23 := Tryz.underlying3
 a23 := Tryz.isAgg3
 z23 := Tryz.sizeOf3
 v23 := Tryz.zeroValue3
 i23 := by kernel_rfl }
end Go.Proofs
