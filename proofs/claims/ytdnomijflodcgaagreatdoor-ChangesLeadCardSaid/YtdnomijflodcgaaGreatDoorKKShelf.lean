/-
 DERIVED: THE SHELF's CONTRACTS AT THIS DUMP, IN PLAIN WORDS (tools/lay-plain.mjs out of 'TryzShelf.lean', which tools/lay-shelf.mjs wrote): THE SAME DECLARATIONS UNDER THE SAME NAMES: 'import', 'namespace', 'open', 'def', 'theorem' AND NOTHING ELSE: no command of the shelf's: FOR A HAND-IN. Each laying: the table of numbers ('.._ren') and one theorem, a field a fact of the dump's own or the kernel's comparison; each contract: ONE APPLICATION.
-/
import Derived.Shelf.Strings.Builder1
import Derived.Shelf.Strings.Builder2
import Derived.Shelf.Small.Bits
import Derived.Shelf.Small.Strs
import Derived.Shelf.Small.Wraps
import Derived.Shelf.Strings.BuilderF
import Derived.Shelf.Strconv.Itoa0
import Derived.Shelf.Strconv.Itoa1
import Derived.Shelf.LaysM
import Derived.Shelf.Strconv.Itoa2
import Derived.Shelf.Strconv.Itoa3
import Derived.Shelf.Strings.Search1
import Derived.Shelf.Strings.Search2
import Derived.Shelf.Strings.Search3
import Derived.Shelf.Strings.Count
import Derived.Shelf.Strings.Shaped
import Derived.Shelf.Strings.Prefix
import Derived.Shelf.Strings.Split
import Derived.Shelf.Bits.Mul64
import Derived.Shelf.Strings.Repeat
import Derived.Shelf.Unicode.DecodeSlow
import Derived.Shelf.Unicode.DecodeAny
import Derived.Ground.Names2Prog
import Derived.Shelf.Slices.Clone
import Derived.Shelf.Slices.CompactI
import Derived.Shelf.Slices.SearchI
import Derived.Shelf.Slices.Cells
import Derived.Ground.SlgnProg
import Derived.Shelf.SlicesE.Compact
import Derived.Shelf.SlicesE.Clone
import Derived.Ground.SlgfProg
import Derived.Shelf.SlicesE.IndexFunc
import Derived.Shelf.SlicesE.DeleteFunc
import Derived.Ground.SlgmProg
import Derived.Shelf.SortM.Plain
import Derived.Shelf.SortM.SortNone
import Derived.Shelf.SlGeneric
import Derived.Ground.GgzProg
import Derived.Ground.SlsfProg
import Derived.Shelf.SlIter.Nil
import Derived.Shelf.SlSortCmp.NoneTotal
import Derived.Shelf.SlicesG.Clone
import Derived.Shelf.SlicesG.CompactI
import Derived.Shelf.SlicesQ.IndexFunc
import Derived.Test.YtdnomijflodcgaaGreatDoorProg
set_option linter.unusedVariables false
set_option linter.unusedSimpArgs false
namespace Go.Proofs
open Go.Shelf
def Tryz.Ajo : Go.Shelf.Ren := ⟨fun | 106 => 121 | 213 => 170 | 265 => 220 | n => n, fun | 9 => 9 | 3 => 3 | n => n, fun | n => n⟩
theorem Tryz.AkL : Go.Proofs.Lays.n106 Tryz.prog Tryz.Ajo := {
 mixed := by kernel_rfl
 f106 := Tryz.func121.trans (congrArg some (by kernel_rfl))
 f213 := Tryz.func170.trans (congrArg some (by kernel_rfl))
 f265 := Tryz.func220.trans (congrArg some (by kernel_rfl))
 t3 := Tryz.underlying3
 a3 := Tryz.isAgg3
 z3 := Tryz.sizeOf3
 v3 := Tryz.zeroValue3
 t9 := Tryz.underlying9
 a9 := Tryz.isAgg9
 z9 := Tryz.sizeOf9
 v9 := Tryz.zeroValue9 }
open Go.RowKit in
theorem Tryz.strings_Compare (a b : ByteArray) (w : World) :
  Calls Tryz.prog 121 #[.string a, .string b] w fun e w' => e = .returned (.int .i64 (Lib.compareBytes a.data.toList b.data.toList)) ∧ w' = w := Any.strings_Compare Tryz.AkL a b w
def Tryz.VH : Go.Shelf.Ren := ⟨fun | 143 => 191 | 219 => 227 | 217 => 239 | 225 => 240 | 224 => 241 | 267 => 242 | 266 => 249 | 314 => 250 | n => n, fun | 9 => 9 | 3 => 3 | 4 => 4 | 5 => 5 | 46 => 71 | 146 => 218 | 51 => 178 | n => n, fun | 1 => 0 | n => n⟩
theorem Tryz.Ac9 : Go.Proofs.Lays.n143 Tryz.prog Tryz.VH := {
 mixed := by kernel_rfl
 f143 := Tryz.func191.trans (congrArg some (by kernel_rfl))
 f217 := Tryz.func239.trans (congrArg some (by kernel_rfl))
 f219 := Tryz.func227.trans (congrArg some (by kernel_rfl))
 f224 := Tryz.func241.trans (congrArg some (by kernel_rfl))
 f225 := Tryz.func240.trans (congrArg some (by kernel_rfl))
 f266 := Tryz.func249.trans (congrArg some (by kernel_rfl))
 f267 := Tryz.func242.trans (congrArg some (by kernel_rfl))
 f314 := Tryz.func250.trans (congrArg some (by kernel_rfl))
 t3 := Tryz.underlying3
 a3 := Tryz.isAgg3
 z3 := Tryz.sizeOf3
 v3 := Tryz.zeroValue3
 t4 := Tryz.underlying4
 a4 := Tryz.isAgg4
 z4 := Tryz.sizeOf4
 v4 := Tryz.zeroValue4
 t5 := Tryz.underlying5
 a5 := Tryz.isAgg5
 z5 := Tryz.sizeOf5
 v5 := Tryz.zeroValue5
 t9 := Tryz.underlying9
 a9 := Tryz.isAgg9
 z9 := Tryz.sizeOf9
 v9 := Tryz.zeroValue9
 t46 := Tryz.underlying71
 a46 := Tryz.isAgg71
 z46 := Tryz.sizeOf71
 v46 := Tryz.zeroValue71
 t51 := Tryz.underlying178
 a51 := Tryz.isAgg178
 z51 := Tryz.sizeOf178
 v51 := Tryz.zeroValue178
 t146 := Tryz.underlying218
 a146 := Tryz.isAgg218
 z146 := Tryz.sizeOf218
 v146 := Tryz.zeroValue218
 g1 := by kernel_rfl }
open Go.RowKit Go.Lib in
theorem Tryz.strings_Index_one (s : ByteArray) (c : UInt8) (w : World) :
  Calls Tryz.prog 191 #[.string s, .string ⟨#[c]⟩] w fun e w' => e = .returned (.int .i64 (Lib.indexByte s.data.toList c)) ∧ w' = w := Any.strings_Index_one Tryz.Ac9 s c w
def Tryz.VI : Go.Shelf.Ren := ⟨fun | 144 => 146 | 143 => 191 | 219 => 227 | 217 => 239 | 225 => 240 | 224 => 241 | 267 => 242 | 266 => 249 | 314 => 250 | n => n, fun | 9 => 9 | 4 => 4 | 3 => 3 | 5 => 5 | 46 => 71 | 146 => 218 | 51 => 178 | n => n, fun | 1 => 0 | n => n⟩
theorem Tryz.Ada : Go.Proofs.Lays.n144 Tryz.prog Tryz.VI := {
 mixed := by kernel_rfl
 f143 := Tryz.func191.trans (congrArg some (by kernel_rfl))
 f144 := Tryz.func146.trans (congrArg some (by kernel_rfl))
 f217 := Tryz.func239.trans (congrArg some (by kernel_rfl))
 f219 := Tryz.func227.trans (congrArg some (by kernel_rfl))
 f224 := Tryz.func241.trans (congrArg some (by kernel_rfl))
 f225 := Tryz.func240.trans (congrArg some (by kernel_rfl))
 f266 := Tryz.func249.trans (congrArg some (by kernel_rfl))
 f267 := Tryz.func242.trans (congrArg some (by kernel_rfl))
 f314 := Tryz.func250.trans (congrArg some (by kernel_rfl))
 t3 := Tryz.underlying3
 a3 := Tryz.isAgg3
 z3 := Tryz.sizeOf3
 v3 := Tryz.zeroValue3
 t4 := Tryz.underlying4
 a4 := Tryz.isAgg4
 z4 := Tryz.sizeOf4
 v4 := Tryz.zeroValue4
 t5 := Tryz.underlying5
 a5 := Tryz.isAgg5
 z5 := Tryz.sizeOf5
 v5 := Tryz.zeroValue5
 t9 := Tryz.underlying9
 a9 := Tryz.isAgg9
 z9 := Tryz.sizeOf9
 v9 := Tryz.zeroValue9
 t46 := Tryz.underlying71
 a46 := Tryz.isAgg71
 z46 := Tryz.sizeOf71
 v46 := Tryz.zeroValue71
 t51 := Tryz.underlying178
 a51 := Tryz.isAgg178
 z51 := Tryz.sizeOf178
 v51 := Tryz.zeroValue178
 t146 := Tryz.underlying218
 a146 := Tryz.isAgg218
 z146 := Tryz.sizeOf218
 v146 := Tryz.zeroValue218
 g1 := by kernel_rfl }
open Go.RowKit Go.Lib in
theorem Tryz.strings_Contains_one (s : ByteArray) (c : UInt8) (w : World) :
  Calls Tryz.prog 146 #[.string s, .string ⟨#[c]⟩] w fun e w' => e = .returned (.bool (decide (0 ≤ Lib.indexByte s.data.toList c))) ∧ w' = w := Any.strings_Contains_one Tryz.Ada s c w
def Tryz.VG : Go.Shelf.Ren := ⟨fun | 138 => 149 | 195 => 193 | 218 => 194 | 143 => 191 | 219 => 227 | 217 => 239 | 225 => 240 | 224 => 241 | 267 => 242 | 266 => 249 | 314 => 250 | n => n, fun | 9 => 9 | 3 => 3 | 4 => 4 | 5 => 5 | 0 => 0 | 46 => 71 | 146 => 218 | 51 => 178 | n => n, fun | 1 => 0 | n => n⟩
theorem Tryz.Ac8 : Go.Proofs.Lays.n138 Tryz.prog Tryz.VG := {
 mixed := by kernel_rfl
 f138 := Tryz.func149.trans (congrArg some (by kernel_rfl))
 f143 := Tryz.func191.trans (congrArg some (by kernel_rfl))
 f195 := Tryz.func193.trans (congrArg some (by kernel_rfl))
 f217 := Tryz.func239.trans (congrArg some (by kernel_rfl))
 f218 := Tryz.func194.trans (congrArg some (by kernel_rfl))
 f219 := Tryz.func227.trans (congrArg some (by kernel_rfl))
 f224 := Tryz.func241.trans (congrArg some (by kernel_rfl))
 f225 := Tryz.func240.trans (congrArg some (by kernel_rfl))
 f266 := Tryz.func249.trans (congrArg some (by kernel_rfl))
 f267 := Tryz.func242.trans (congrArg some (by kernel_rfl))
 f314 := Tryz.func250.trans (congrArg some (by kernel_rfl))
 t0 := Tryz.underlying0
 a0 := Tryz.isAgg0
 z0 := Tryz.sizeOf0
 v0 := Tryz.zeroValue0
 t3 := Tryz.underlying3
 a3 := Tryz.isAgg3
 z3 := Tryz.sizeOf3
 v3 := Tryz.zeroValue3
 t4 := Tryz.underlying4
 a4 := Tryz.isAgg4
 z4 := Tryz.sizeOf4
 v4 := Tryz.zeroValue4
 t5 := Tryz.underlying5
 a5 := Tryz.isAgg5
 z5 := Tryz.sizeOf5
 v5 := Tryz.zeroValue5
 t9 := Tryz.underlying9
 a9 := Tryz.isAgg9
 z9 := Tryz.sizeOf9
 v9 := Tryz.zeroValue9
 t46 := Tryz.underlying71
 a46 := Tryz.isAgg71
 z46 := Tryz.sizeOf71
 v46 := Tryz.zeroValue71
 t51 := Tryz.underlying178
 a51 := Tryz.isAgg178
 z51 := Tryz.sizeOf178
 v51 := Tryz.zeroValue178
 t146 := Tryz.underlying218
 a146 := Tryz.isAgg218
 z146 := Tryz.sizeOf218
 v146 := Tryz.zeroValue218
 g1 := by kernel_rfl }
open Go.RowKit Go.Lib in
theorem Tryz.strings_Count_one (s : ByteArray) (c : UInt8) (w : World) :
  Calls Tryz.prog 149 #[.string s, .string ⟨#[c]⟩] w fun e w' => e = .returned (.int .i64 (Lib.countByte s.data.toList c)) ∧ w' = w := Any.strings_Count_one Tryz.Ac8 s c w
def Tryz.VF : Go.Shelf.Ren := ⟨fun | 100 => 195 | 207 => 230 | n => n, fun | 9 => 9 | 4 => 4 | 3 => 3 | n => n, fun | n => n⟩
theorem Tryz.Ac7 : Go.Proofs.Lays.n100 Tryz.prog Tryz.VF := {
 mixed := by kernel_rfl
 f100 := Tryz.func195.trans (congrArg some (by kernel_rfl))
 f207 := Tryz.func230.trans (congrArg some (by kernel_rfl))
 t3 := Tryz.underlying3
 a3 := Tryz.isAgg3
 z3 := Tryz.sizeOf3
 v3 := Tryz.zeroValue3
 t4 := Tryz.underlying4
 a4 := Tryz.isAgg4
 z4 := Tryz.sizeOf4
 v4 := Tryz.zeroValue4
 t9 := Tryz.underlying9
 a9 := Tryz.isAgg9
 z9 := Tryz.sizeOf9
 v9 := Tryz.zeroValue9 }
open Go.RowKit Go.Lib in
theorem Tryz.strings_HasSuffix (s p : ByteArray) (w : World) (hs : s.size ≤ 9223372036854775807) :
  Calls Tryz.prog 195 #[.string s, .string p] w fun e w' => e = .returned (.bool (Lib.hasSuffix s.data.toList p.data.toList)) ∧ w' = w := Any.strings_HasSuffix Tryz.Ac7 s p w hs
def Tryz.VJ : Go.Shelf.Ren := ⟨fun | 221 => 202 | 268 => 233 | 138 => 149 | 143 => 191 | 195 => 193 | 197 => 229 | 218 => 194 | 219 => 227 | 260 => 243 | 217 => 239 | 225 => 240 | 224 => 241 | 267 => 242 | 266 => 249 | 314 => 250 | n => n, fun | 9 => 9 | 3 => 3 | 31 => 27 | 4 => 4 | 0 => 0 | 105 => 246 | 21 => 21 | 5 => 5 | 46 => 71 | 119 => 261 | 139 => 264 | 138 => 263 | 146 => 218 | 51 => 178 | n => n, fun | 1 => 0 | 3 => 1 | 4 => 2 | n => n⟩
theorem Tryz.Adb : Go.Proofs.Lays.n221 Tryz.prog Tryz.VJ := {
 mixed := by kernel_rfl
 f138 := Tryz.func149.trans (congrArg some (by kernel_rfl))
 f143 := Tryz.func191.trans (congrArg some (by kernel_rfl))
 f195 := Tryz.func193.trans (congrArg some (by kernel_rfl))
 f197 := Tryz.func229.trans (congrArg some (by kernel_rfl))
 f217 := Tryz.func239.trans (congrArg some (by kernel_rfl))
 f218 := Tryz.func194.trans (congrArg some (by kernel_rfl))
 f219 := Tryz.func227.trans (congrArg some (by kernel_rfl))
 f221 := Tryz.func202.trans (congrArg some (by kernel_rfl))
 f224 := Tryz.func241.trans (congrArg some (by kernel_rfl))
 f225 := Tryz.func240.trans (congrArg some (by kernel_rfl))
 f260 := Tryz.func243.trans (congrArg some (by kernel_rfl))
 f266 := Tryz.func249.trans (congrArg some (by kernel_rfl))
 f267 := Tryz.func242.trans (congrArg some (by kernel_rfl))
 f268 := Tryz.func233.trans (congrArg some (by kernel_rfl))
 f314 := Tryz.func250.trans (congrArg some (by kernel_rfl))
 t0 := Tryz.underlying0
 a0 := Tryz.isAgg0
 z0 := Tryz.sizeOf0
 v0 := Tryz.zeroValue0
 t3 := Tryz.underlying3
 a3 := Tryz.isAgg3
 z3 := Tryz.sizeOf3
 v3 := Tryz.zeroValue3
 t4 := Tryz.underlying4
 a4 := Tryz.isAgg4
 z4 := Tryz.sizeOf4
 v4 := Tryz.zeroValue4
 t5 := Tryz.underlying5
 a5 := Tryz.isAgg5
 z5 := Tryz.sizeOf5
 v5 := Tryz.zeroValue5
 t9 := Tryz.underlying9
 a9 := Tryz.isAgg9
 z9 := Tryz.sizeOf9
 v9 := Tryz.zeroValue9
 t21 := Tryz.underlying21
 a21 := Tryz.isAgg21
 z21 := Tryz.sizeOf21
 v21 := Tryz.zeroValue21
 t31 := Tryz.underlying27
 a31 := Tryz.isAgg27
 z31 := Tryz.sizeOf27
 v31 := Tryz.zeroValue27
 t46 := Tryz.underlying71
 a46 := Tryz.isAgg71
 z46 := Tryz.sizeOf71
 v46 := Tryz.zeroValue71
 t51 := Tryz.underlying178
 a51 := Tryz.isAgg178
 z51 := Tryz.sizeOf178
 v51 := Tryz.zeroValue178
 t105 := Tryz.underlying246
 a105 := Tryz.isAgg246
 z105 := Tryz.sizeOf246
 v105 := Tryz.zeroValue246
 t119 := Tryz.underlying261
 a119 := Tryz.isAgg261
 z119 := Tryz.sizeOf261
 t138 := Tryz.underlying263
 a138 := Tryz.isAgg263
 z138 := Tryz.sizeOf263
 v138 := Tryz.zeroValue263
 t139 := Tryz.underlying264
 a139 := Tryz.isAgg264
 z139 := Tryz.sizeOf264
 v139 := Tryz.zeroValue264
 t146 := Tryz.underlying218
 a146 := Tryz.isAgg218
 z146 := Tryz.sizeOf218
 v146 := Tryz.zeroValue218
 g1 := by kernel_rfl
 g3 := by kernel_rfl
 g4 := by kernel_rfl }
open Go.RowKit Go.Lib in
theorem Tryz.strings_genSplit (s sep : ByteArray) (sv : Nat) (n : Int) (N : Nat) (m : Int) (w : World) (hs : s.size < 4294967281) (hm : w.cell? ⟨0, 0, none⟩ = some (.int .i64 m)) (h1 : 1 ≤ sep.size) (hsv : sv ≤ sep.size) (hn0 : n ≠ 0) (hn63 : n ≤ 9223372036854775807) (hN : (N : Int) = min (if n < 0 then (Lib.countB s sep : Int) + 1 else n) ((s.size : Int) + 1)) :
  Calls Tryz.prog 202 #[.string s, .string sep, .int .i64 sv, .int .i64 n] w fun e w' =>
   e = .returned (.slice (some ⟨w.heap.size, 0, none⟩) (Lib.splitB sep sv (N - 1) s).length N) ∧ w' = w.alloc (.cells (Lib.cellsOf (Lib.splitB sep sv (N - 1) s) N) 9) := Any.strings_genSplit Tryz.Adb (by kernel_rfl) s sep sv n N m w hs hm h1 hsv hn0 hn63 hN
def Tryz.Alw : Go.Shelf.Ren := ⟨fun | 6 => 95 | 8 => 93 | 9 => 144 | 19 => 141 | 20 => 142 | 21 => 182 | 22 => 183 | 23 => 184 | 24 => 185 | 25 => 186 | 26 => 187 | 27 => 188 | 28 => 189 | 29 => 190 | 36 => 223 | 31 => 177 | 32 => 178 | 37 => 224 | 38 => 225 | 39 => 226 | 41 => 238 | n => n, fun | 27 => 27 | 29 => 9 | 3 => 3 | 32 => 71 | 26 => 27 | 0 => 0 | 44 => 178 | 46 => 118 | 4 => 4 | 36 => 170 | 35 => 169 | 41 => 175 | 5 => 5 | 9 => 9 | 53 => 202 | 57 => 206 | 63 => 242 | 64 => 111 | n => n, fun | n => n⟩
theorem Tryz.Alu : Go.Proofs.SlLaysM.n6 Tryz.prog Tryz.Alw := {
 mixed := by kernel_rfl
 f6 := ⟨Tryz.f95.name, by decide, Tryz.func95.trans (congrArg some (by kernel_rfl))⟩
 f8 := Tryz.func93.trans (congrArg some (by kernel_rfl))
 f9 := ⟨Tryz.f144.name, by decide, Tryz.func144.trans (congrArg some (by kernel_rfl))⟩
 f19 := Tryz.func141.trans (congrArg some (by kernel_rfl))
 f20 := Tryz.func142.trans (congrArg some (by kernel_rfl))
 f21 := ⟨Tryz.f182.name, by decide, Tryz.func182.trans (congrArg some (by kernel_rfl))⟩
 f22 := ⟨Tryz.f183.name, by decide, Tryz.func183.trans (congrArg some (by kernel_rfl))⟩
 f23 := ⟨Tryz.f184.name, by decide, Tryz.func184.trans (congrArg some (by kernel_rfl))⟩
 f24 := ⟨Tryz.f185.name, by decide, Tryz.func185.trans (congrArg some (by kernel_rfl))⟩
 f25 := ⟨Tryz.f186.name, by decide, Tryz.func186.trans (congrArg some (by kernel_rfl))⟩
 f26 := ⟨Tryz.f187.name, by decide, Tryz.func187.trans (congrArg some (by kernel_rfl))⟩
 f27 := ⟨Tryz.f188.name, by decide, Tryz.func188.trans (congrArg some (by kernel_rfl))⟩
 f28 := ⟨Tryz.f189.name, by decide, Tryz.func189.trans (congrArg some (by kernel_rfl))⟩
 f29 := ⟨Tryz.f190.name, by decide, Tryz.func190.trans (congrArg some (by kernel_rfl))⟩
 f31 := Tryz.func177.trans (congrArg some (by kernel_rfl))
 f32 := Tryz.func178.trans (congrArg some (by kernel_rfl))
 f36 := ⟨Tryz.f223.name, by decide, Tryz.func223.trans (congrArg some (by kernel_rfl))⟩
 f37 := ⟨Tryz.f224.name, by decide, Tryz.func224.trans (congrArg some (by kernel_rfl))⟩
 f38 := ⟨Tryz.f225.name, by decide, Tryz.func225.trans (congrArg some (by kernel_rfl))⟩
 f39 := ⟨Tryz.f226.name, by decide, Tryz.func226.trans (congrArg some (by kernel_rfl))⟩
 f41 := ⟨Tryz.f238.name, by decide, Tryz.func238.trans (congrArg some (by kernel_rfl))⟩
 t0 := Tryz.underlying0
 a0 := Tryz.isAgg0
 z0 := Tryz.sizeOf0
 v0 := Tryz.zeroValue0
 t3 := Tryz.underlying3
 a3 := Tryz.isAgg3
 z3 := Tryz.sizeOf3
 v3 := Tryz.zeroValue3
 t4 := Tryz.underlying4
 a4 := Tryz.isAgg4
 z4 := Tryz.sizeOf4
 v4 := Tryz.zeroValue4
 t5 := Tryz.underlying5
 a5 := Tryz.isAgg5
 z5 := Tryz.sizeOf5
 v5 := Tryz.zeroValue5
 t9 := Tryz.underlying9
 a9 := Tryz.isAgg9
 z9 := Tryz.sizeOf9
 v9 := Tryz.zeroValue9
 t26 := Tryz.underlying27
 a26 := Tryz.isAgg27
 z26 := Tryz.sizeOf27
 v26 := Tryz.zeroValue27
 t27 := Tryz.underlying27
 a27 := Tryz.isAgg27
 z27 := Tryz.sizeOf27
 v27 := Tryz.zeroValue27
 t29 := Tryz.underlying9
 a29 := Tryz.isAgg9
 z29 := Tryz.sizeOf9
 v29 := Tryz.zeroValue9
 t32 := Tryz.underlying71
 a32 := Tryz.isAgg71
 z32 := Tryz.sizeOf71
 v32 := Tryz.zeroValue71
 t35 := Tryz.underlying169
 a35 := Tryz.isAgg169
 z35 := Tryz.sizeOf169
 v35 := Tryz.zeroValue169
 t36 := Tryz.underlying170
 a36 := Tryz.isAgg170
 z36 := Tryz.sizeOf170
 v36 := Tryz.zeroValue170
 t41 := Tryz.underlying175
 a41 := Tryz.isAgg175
 z41 := Tryz.sizeOf175
 v41 := Tryz.zeroValue175
 t44 := Tryz.underlying178
 a44 := Tryz.isAgg178
 z44 := Tryz.sizeOf178
 v44 := Tryz.zeroValue178
 t46 := Tryz.underlying118
 a46 := Tryz.isAgg118
 z46 := Tryz.sizeOf118
 v46 := Tryz.zeroValue118
 t53 := Tryz.underlying202
 a53 := Tryz.isAgg202
 z53 := Tryz.sizeOf202
 v53 := Tryz.zeroValue202
 t57 := Tryz.underlying206
 a57 := Tryz.isAgg206
 z57 := Tryz.sizeOf206
 v57 := Tryz.zeroValue206
 t63 := Tryz.underlying242
 a63 := Tryz.isAgg242
 z63 := Tryz.sizeOf242
 v63 := Tryz.zeroValue242
 t64 := Tryz.underlying111
 a64 := Tryz.isAgg111
 z64 := Tryz.sizeOf111
 v64 := Tryz.zeroValue111 }
open Go.Sort Go.RowKit in
theorem Tryz.slices_Sort_string (blk off cap : Nat) (ss : List (List UInt8)) (w : World) (hH : Holds encStr w blk off ss.toArray) (hblk : blk < w.heap.size) (hsz : ss.length < 4611686018427387904) :
  Calls Tryz.prog 95 #[.slice (some ⟨blk, off, none⟩) ss.length cap] w fun e w' =>
   e = .returned (.tuple #[]) ∧ ∃ n os, w' = grow (putRow encStr (Sort.ahead w n) blk off (ss.mergeSort fun x y => decide (x ≤ y)).toArray) os := AnyM.slices_Sort_string Tryz.Alu blk off cap ss w hH hblk hsz
open Go.RowKit Go.Sort in
theorem Tryz.slices_Sort_string_none (p : Option Addr) (cap : Nat) (w : World) :
  Calls Tryz.prog 95 #[.slice p 0 cap] w fun e w' => e = .returned (.tuple #[]) ∧ w' = w := AnyM.slices_Sort_string_none Tryz.Alu p cap w
def Tryz.Ai4 : Go.Shelf.Ren := ⟨fun | 6 => 119 | 15 => 93 | 14 => 169 | 28 => 141 | 29 => 142 | 20 => 212 | 21 => 213 | 22 => 214 | 23 => 215 | 24 => 216 | 25 => 217 | 26 => 218 | 27 => 219 | 46 => 235 | 47 => 177 | 48 => 178 | 49 => 236 | 50 => 237 | 57 => 248 | n => n, fun | 22 => 37 | 24 => 67 | 25 => 161 | 3 => 3 | 39 => 71 | 0 => 0 | 53 => 178 | 55 => 118 | 4 => 4 | 46 => 170 | 45 => 169 | 50 => 175 | 5 => 5 | 9 => 9 | 66 => 202 | 70 => 206 | 76 => 242 | 77 => 111 | n => n, fun | n => n⟩
theorem Tryz.AkT : Go.Proofs.SlLaysF0.n6 Tryz.prog Tryz.Ai4 := {
 mixed := by kernel_rfl
 f6 := ⟨Tryz.f119.name, by decide, Tryz.func119.trans (congrArg some (by kernel_rfl))⟩
 f14 := ⟨Tryz.f169.name, by decide, Tryz.func169.trans (congrArg some (by kernel_rfl))⟩
 f15 := Tryz.func93.trans (congrArg some (by kernel_rfl))
 f20 := ⟨Tryz.f212.name, by decide, Tryz.func212.trans (congrArg some (by kernel_rfl))⟩
 f21 := ⟨Tryz.f213.name, by decide, Tryz.func213.trans (congrArg some (by kernel_rfl))⟩
 f22 := ⟨Tryz.f214.name, by decide, Tryz.func214.trans (congrArg some (by kernel_rfl))⟩
 f23 := ⟨Tryz.f215.name, by decide, Tryz.func215.trans (congrArg some (by kernel_rfl))⟩
 f24 := ⟨Tryz.f216.name, by decide, Tryz.func216.trans (congrArg some (by kernel_rfl))⟩
 f25 := ⟨Tryz.f217.name, by decide, Tryz.func217.trans (congrArg some (by kernel_rfl))⟩
 f26 := ⟨Tryz.f218.name, by decide, Tryz.func218.trans (congrArg some (by kernel_rfl))⟩
 f27 := ⟨Tryz.f219.name, by decide, Tryz.func219.trans (congrArg some (by kernel_rfl))⟩
 f28 := Tryz.func141.trans (congrArg some (by kernel_rfl))
 f29 := Tryz.func142.trans (congrArg some (by kernel_rfl))
 f46 := ⟨Tryz.f235.name, by decide, Tryz.func235.trans (congrArg some (by kernel_rfl))⟩
 f47 := Tryz.func177.trans (congrArg some (by kernel_rfl))
 f48 := Tryz.func178.trans (congrArg some (by kernel_rfl))
 f49 := ⟨Tryz.f236.name, by decide, Tryz.func236.trans (congrArg some (by kernel_rfl))⟩
 f50 := ⟨Tryz.f237.name, by decide, Tryz.func237.trans (congrArg some (by kernel_rfl))⟩
 f57 := ⟨Tryz.f248.name, by decide, Tryz.func248.trans (congrArg some (by kernel_rfl))⟩
 t0 := Tryz.underlying0
 a0 := Tryz.isAgg0
 z0 := Tryz.sizeOf0
 v0 := Tryz.zeroValue0
 t3 := Tryz.underlying3
 a3 := Tryz.isAgg3
 z3 := Tryz.sizeOf3
 v3 := Tryz.zeroValue3
 t4 := Tryz.underlying4
 a4 := Tryz.isAgg4
 z4 := Tryz.sizeOf4
 v4 := Tryz.zeroValue4
 t5 := Tryz.underlying5
 a5 := Tryz.isAgg5
 z5 := Tryz.sizeOf5
 v5 := Tryz.zeroValue5
 t9 := Tryz.underlying9
 a9 := Tryz.isAgg9
 z9 := Tryz.sizeOf9
 v9 := Tryz.zeroValue9
 t22 := Tryz.underlying37
 a22 := Tryz.isAgg37
 z22 := Tryz.sizeOf37
 v22 := Tryz.zeroValue37
 t25 := Tryz.underlying161
 a25 := Tryz.isAgg161
 z25 := Tryz.sizeOf161
 v25 := Tryz.zeroValue161
 t39 := Tryz.underlying71
 a39 := Tryz.isAgg71
 z39 := Tryz.sizeOf71
 v39 := Tryz.zeroValue71
 t45 := Tryz.underlying169
 a45 := Tryz.isAgg169
 z45 := Tryz.sizeOf169
 v45 := Tryz.zeroValue169
 t46 := Tryz.underlying170
 a46 := Tryz.isAgg170
 z46 := Tryz.sizeOf170
 v46 := Tryz.zeroValue170
 t50 := Tryz.underlying175
 a50 := Tryz.isAgg175
 z50 := Tryz.sizeOf175
 v50 := Tryz.zeroValue175
 t53 := Tryz.underlying178
 a53 := Tryz.isAgg178
 z53 := Tryz.sizeOf178
 v53 := Tryz.zeroValue178
 t55 := Tryz.underlying118
 a55 := Tryz.isAgg118
 z55 := Tryz.sizeOf118
 v55 := Tryz.zeroValue118
 t66 := Tryz.underlying202
 a66 := Tryz.isAgg202
 z66 := Tryz.sizeOf202
 v66 := Tryz.zeroValue202
 t70 := Tryz.underlying206
 a70 := Tryz.isAgg206
 z70 := Tryz.sizeOf206
 v70 := Tryz.zeroValue206
 t76 := Tryz.underlying242
 a76 := Tryz.isAgg242
 z76 := Tryz.sizeOf242
 v76 := Tryz.zeroValue242
 t77 := Tryz.underlying111
 a77 := Tryz.isAgg111
 z77 := Tryz.sizeOf111
 v77 := Tryz.zeroValue111 }
def Tryz.AlJ : Go.Shelf.Ren := ⟨fun | 7 => 72 | 10 => 96 | n => n, fun | 23 => 95 | 26 => 9 | 3 => 9 | 28 => 100 | 0 => 0 | 27 => 99 | 33 => 129 | 4 => 4 | n => n, fun | n => n⟩
theorem Tryz.Amt : Go.Proofs.SlLaysZ.n7 Tryz.prog Tryz.AlJ := {
 mixed := by kernel_rfl
 f7 := ⟨Tryz.f72.name, by decide, Tryz.func72.trans (congrArg some (by kernel_rfl))⟩
 f10 := ⟨Tryz.f96.name, by decide, Tryz.func96.trans (congrArg some (by kernel_rfl))⟩
 t0 := Tryz.underlying0
 a0 := Tryz.isAgg0
 z0 := Tryz.sizeOf0
 v0 := Tryz.zeroValue0
 t4 := Tryz.underlying4
 a4 := Tryz.isAgg4
 z4 := Tryz.sizeOf4
 v4 := Tryz.zeroValue4
 t23 := Tryz.underlying95
 a23 := Tryz.isAgg95
 z23 := Tryz.sizeOf95
 v23 := Tryz.zeroValue95
 t26 := Tryz.underlying9
 a26 := Tryz.isAgg9
 z26 := Tryz.sizeOf9
 v26 := Tryz.zeroValue9
 t27 := Tryz.underlying99
 a27 := Tryz.isAgg99
 z27 := Tryz.sizeOf99
 v27 := Tryz.zeroValue99
 t28 := Tryz.underlying100
 a28 := Tryz.isAgg100
 z28 := Tryz.sizeOf100
 v28 := Tryz.zeroValue100
 t33 := Tryz.underlying129
 a33 := Tryz.isAgg129
 z33 := Tryz.sizeOf129
 v33 := Tryz.zeroValue129 }
def Tryz.AlA : Go.Shelf.Ren := ⟨fun | 6 => 71 | 8 => 94 | 9 => 95 | 11 => 143 | 13 => 93 | 12 => 144 | 23 => 141 | 24 => 142 | 14 => 182 | 15 => 183 | 16 => 184 | 17 => 185 | 18 => 186 | 19 => 187 | 20 => 188 | 21 => 189 | 22 => 190 | 25 => 223 | 26 => 177 | 27 => 178 | 28 => 224 | 29 => 225 | 30 => 226 | 31 => 238 | n => n, fun | 26 => 9 | 28 => 100 | 24 => 27 | 0 => 0 | 3 => 3 | 37 => 71 | 48 => 178 | 50 => 118 | 4 => 4 | 40 => 170 | 39 => 169 | 45 => 175 | 5 => 5 | 9 => 9 | 51 => 202 | 55 => 206 | 57 => 242 | 58 => 111 | 33 => 129 | n => n, fun | n => n⟩
theorem Tryz.Ams : Go.Proofs.SlLaysZ.n6 Tryz.prog Tryz.AlA := {
 mixed := by kernel_rfl
 f6 := ⟨Tryz.f71.name, by decide, Tryz.func71.trans (congrArg some (by kernel_rfl))⟩
 f8 := ⟨Tryz.f94.name, by decide, Tryz.func94.trans (congrArg some (by kernel_rfl))⟩
 f11 := ⟨Tryz.f143.name, by decide, Tryz.func143.trans (congrArg some (by kernel_rfl))⟩
 t0 := Tryz.underlying0
 a0 := Tryz.isAgg0
 z0 := Tryz.sizeOf0
 v0 := Tryz.zeroValue0
 t24 := Tryz.underlying27
 a24 := Tryz.isAgg27
 z24 := Tryz.sizeOf27
 v24 := Tryz.zeroValue27
 t26 := Tryz.underlying9
 a26 := Tryz.isAgg9
 z26 := Tryz.sizeOf9
 v26 := Tryz.zeroValue9
 t28 := Tryz.underlying100
 a28 := Tryz.isAgg100
 z28 := Tryz.sizeOf100
 v28 := Tryz.zeroValue100
 i26 := by kernel_rfl }
def Tryz.Amj : Go.Shelf.Ren := ⟨fun | 6 => 95 | 8 => 93 | 9 => 144 | 19 => 141 | 20 => 142 | 21 => 182 | 22 => 183 | 23 => 184 | 24 => 185 | 25 => 186 | 26 => 187 | 27 => 188 | 28 => 189 | 29 => 190 | 36 => 223 | 31 => 177 | 32 => 178 | 37 => 224 | 38 => 225 | 39 => 226 | 41 => 238 | n => n, fun | 27 => 27 | 29 => 9 | 3 => 3 | 32 => 71 | 26 => 27 | 0 => 0 | 44 => 178 | 46 => 118 | 4 => 4 | 36 => 170 | 35 => 169 | 41 => 175 | 5 => 5 | 9 => 9 | 53 => 202 | 57 => 206 | 63 => 242 | 64 => 111 | n => n, fun | n => n⟩
theorem Tryz.Amv : Go.Proofs.SlLaysM.n6 Tryz.prog Tryz.Amj := {
 mixed := by kernel_rfl
 f6 := ⟨Tryz.f95.name, by decide, Tryz.func95.trans (congrArg some (by kernel_rfl))⟩
 f8 := Tryz.func93.trans (congrArg some (by kernel_rfl))
 f9 := ⟨Tryz.f144.name, by decide, Tryz.func144.trans (congrArg some (by kernel_rfl))⟩
 f19 := Tryz.func141.trans (congrArg some (by kernel_rfl))
 f20 := Tryz.func142.trans (congrArg some (by kernel_rfl))
 f21 := ⟨Tryz.f182.name, by decide, Tryz.func182.trans (congrArg some (by kernel_rfl))⟩
 f22 := ⟨Tryz.f183.name, by decide, Tryz.func183.trans (congrArg some (by kernel_rfl))⟩
 f23 := ⟨Tryz.f184.name, by decide, Tryz.func184.trans (congrArg some (by kernel_rfl))⟩
 f24 := ⟨Tryz.f185.name, by decide, Tryz.func185.trans (congrArg some (by kernel_rfl))⟩
 f25 := ⟨Tryz.f186.name, by decide, Tryz.func186.trans (congrArg some (by kernel_rfl))⟩
 f26 := ⟨Tryz.f187.name, by decide, Tryz.func187.trans (congrArg some (by kernel_rfl))⟩
 f27 := ⟨Tryz.f188.name, by decide, Tryz.func188.trans (congrArg some (by kernel_rfl))⟩
 f28 := ⟨Tryz.f189.name, by decide, Tryz.func189.trans (congrArg some (by kernel_rfl))⟩
 f29 := ⟨Tryz.f190.name, by decide, Tryz.func190.trans (congrArg some (by kernel_rfl))⟩
 f31 := Tryz.func177.trans (congrArg some (by kernel_rfl))
 f32 := Tryz.func178.trans (congrArg some (by kernel_rfl))
 f36 := ⟨Tryz.f223.name, by decide, Tryz.func223.trans (congrArg some (by kernel_rfl))⟩
 f37 := ⟨Tryz.f224.name, by decide, Tryz.func224.trans (congrArg some (by kernel_rfl))⟩
 f38 := ⟨Tryz.f225.name, by decide, Tryz.func225.trans (congrArg some (by kernel_rfl))⟩
 f39 := ⟨Tryz.f226.name, by decide, Tryz.func226.trans (congrArg some (by kernel_rfl))⟩
 f41 := ⟨Tryz.f238.name, by decide, Tryz.func238.trans (congrArg some (by kernel_rfl))⟩
 t0 := Tryz.underlying0
 a0 := Tryz.isAgg0
 z0 := Tryz.sizeOf0
 v0 := Tryz.zeroValue0
 t3 := Tryz.underlying3
 a3 := Tryz.isAgg3
 z3 := Tryz.sizeOf3
 v3 := Tryz.zeroValue3
 t4 := Tryz.underlying4
 a4 := Tryz.isAgg4
 z4 := Tryz.sizeOf4
 v4 := Tryz.zeroValue4
 t5 := Tryz.underlying5
 a5 := Tryz.isAgg5
 z5 := Tryz.sizeOf5
 v5 := Tryz.zeroValue5
 t9 := Tryz.underlying9
 a9 := Tryz.isAgg9
 z9 := Tryz.sizeOf9
 v9 := Tryz.zeroValue9
 t26 := Tryz.underlying27
 a26 := Tryz.isAgg27
 z26 := Tryz.sizeOf27
 v26 := Tryz.zeroValue27
 t27 := Tryz.underlying27
 a27 := Tryz.isAgg27
 z27 := Tryz.sizeOf27
 v27 := Tryz.zeroValue27
 t29 := Tryz.underlying9
 a29 := Tryz.isAgg9
 z29 := Tryz.sizeOf9
 v29 := Tryz.zeroValue9
 t32 := Tryz.underlying71
 a32 := Tryz.isAgg71
 z32 := Tryz.sizeOf71
 v32 := Tryz.zeroValue71
 t35 := Tryz.underlying169
 a35 := Tryz.isAgg169
 z35 := Tryz.sizeOf169
 v35 := Tryz.zeroValue169
 t36 := Tryz.underlying170
 a36 := Tryz.isAgg170
 z36 := Tryz.sizeOf170
 v36 := Tryz.zeroValue170
 t41 := Tryz.underlying175
 a41 := Tryz.isAgg175
 z41 := Tryz.sizeOf175
 v41 := Tryz.zeroValue175
 t44 := Tryz.underlying178
 a44 := Tryz.isAgg178
 z44 := Tryz.sizeOf178
 v44 := Tryz.zeroValue178
 t46 := Tryz.underlying118
 a46 := Tryz.isAgg118
 z46 := Tryz.sizeOf118
 v46 := Tryz.zeroValue118
 t53 := Tryz.underlying202
 a53 := Tryz.isAgg202
 z53 := Tryz.sizeOf202
 v53 := Tryz.zeroValue202
 t57 := Tryz.underlying206
 a57 := Tryz.isAgg206
 z57 := Tryz.sizeOf206
 v57 := Tryz.zeroValue206
 t63 := Tryz.underlying242
 a63 := Tryz.isAgg242
 z63 := Tryz.sizeOf242
 v63 := Tryz.zeroValue242
 t64 := Tryz.underlying111
 a64 := Tryz.isAgg111
 z64 := Tryz.sizeOf111
 v64 := Tryz.zeroValue111 }
def Tryz.AkE : Go.Shelf.Ren := ⟨fun | 8 => 48 | 6 => 88 | n => n, fun | 22 => 37 | 23 => 67 | 25 => 78 | 4 => 4 | 3 => 3 | 0 => 0 | n => n, fun | n => n⟩
theorem Tryz.cfD : Go.Proofs.SlLaysH0.n8 Tryz.prog Tryz.AkE := {
 mixed := by kernel_rfl
 f6 := ⟨Tryz.f88.name, by decide, Tryz.func88.trans (congrArg some (by kernel_rfl))⟩
 f8 := ⟨Tryz.f48.name, by decide, Tryz.func48.trans (congrArg some (by kernel_rfl))⟩
 t0 := Tryz.underlying0
 a0 := Tryz.isAgg0
 z0 := Tryz.sizeOf0
 v0 := Tryz.zeroValue0
 t3 := Tryz.underlying3
 a3 := Tryz.isAgg3
 z3 := Tryz.sizeOf3
 v3 := Tryz.zeroValue3
 t4 := Tryz.underlying4
 a4 := Tryz.isAgg4
 z4 := Tryz.sizeOf4
 v4 := Tryz.zeroValue4
 t22 := Tryz.underlying37
 a22 := Tryz.isAgg37
 z22 := Tryz.sizeOf37
 v22 := Tryz.zeroValue37
 t25 := Tryz.underlying78
 a25 := Tryz.isAgg78
 z25 := Tryz.sizeOf78
 v25 := Tryz.zeroValue78 }
end Go.Proofs
