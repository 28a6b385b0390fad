/- Rows of one cell an element: sorted, compacted, cut down by the library; as lists. -/
import Derived.Test.YtdnomijflodcgaaGreatDoorKKY
import Derived.Test.YtdnomijflodcgaaGreatDoorKKShelf
import Derived.Test.YtdnomijflodcgaaGreatDoorKS0
import Derived.Sort.OwnSorted
import Derived.Lib.SlicesCompact
import Derived.WalkSmall
import Derived.Deep.QuietTactic
import Derived.BigQuiet
set_option linter.unusedVariables false
set_option linter.unusedSimpArgs false
set_option linter.unusedSectionVars false
open List renaming getElem?_eq_getElem → Qa0, getElem?_take_of_lt → Qa1, getElem?_take_eq_none → Qa2, getElem?_map → Qa3
open Nat renaming le_refl → Qa4, lt_or_ge → Qa7, le_trans → Qa8
open Array renaming getElem?_toList → Qa5, getElem?_modify → Qa6
namespace Go.VS
open Go.RowKit Go Go.Sort Go.Proofs Go.Shelf
section
variable {α : Type} [Inhabited α] {enc : α → Value}
theorem QA {l : List α} {j : Nat} (h : j < l.length) : l.toArray[j]! = l[j] := by
 rw [getElem!_pos _ j (by simpa using h)]; simp
theorem Ox {w : World} {g : Nat} {cur : Array Value} {e : TypeId} {l : List α} (hb : w.heap[g]? = some (.cells cur e (0, 0))) (ht : cur.toList.take l.length = l.map enc) : Holds enc w g 0 l.toArray := by
 intro j hj
 have hj' : j < l.length := by simpa using hj
 have h1 : (cur.toList.take l.length)[j]? = (l.map enc)[j]? := by rw [ht]
 rw [Qa1 hj', Qa3, Qa0 hj', Qa5] at h1; refine ⟨?_, by simp [World.frozen?, hb]⟩; rw [Nat.zero_add, QA hj']; exact (AG hb j).trans h1
theorem Abz {w : World} {g n : Nat} {os : Array Obj} {cur : Array Value} {e : TypeId} {fr : Nat × Nat} (d : Array α) (hb : w.heap[g]? = some (.cells cur e fr)) : (grow (putRow enc (Sort.ahead w n) g 0 d) os).heap[g]? = some (.cells (putCells enc 0 d cur) e fr) := by
 have hg : g < w.heap.size := (Array.getElem?_eq_some_iff.1 hb).1; rw [heap_grow_old _ _ (by simpa using hg)]; simp [putRow, mapBlock, Sort.ahead, Qa6, hb, onCells]
theorem Ot {w : World} {g n : Nat} {os : Array Obj} (d : Array α) : w.grownBy (grow (putRow enc (Sort.ahead w n) g 0 d) os) (some g) := by
 refine ⟨rfl, rfl, rfl, by simp, fun k hk hne => ?_⟩; rw [heap_grow_old _ _ (by simpa using hk)]
 have : g ≠ k := fun e => hne (by rw [e])
 simp [putRow, mapBlock, Sort.ahead, Qa6, this]
theorem Acd (cur : Array Value) (d : List α) {m : Nat} (hm : m ≤ d.length) (h : d.length ≤ cur.size) : (putCells enc 0 d.toArray cur).toList.take m = (d.take m).map enc := by
 apply List.ext_getElem?; intro j
 by_cases hj : j < m
 ·rw [Qa1 hj, Qa5, Qa3, Qa1 hj, Qa0 (by omega)]; have hg := QA (l := d) (j := j) (by omega); simp [putCells, show j < cur.size by omega, show j < d.length by omega]
 ·rw [Qa2 (by omega), Qa3, Qa2 (by omega)]; rfl
theorem QX {w : World} {base g cap n : Nat} {e : TypeId} {os : Array Obj} {cur : Array Value} {d : List α} {m : Nat} (hm : m ≤ d.length) (hbase : base ≤ g) (hb : w.heap[g]? = some (.cells cur e (0, 0))) (h1 : d.length ≤ cap) (h2 : cap ≤ maxLen) (h3 : cur.size = cap * 1) :
  (grow (putRow enc (Sort.ahead w n) g 0 d.toArray) os).ownsRow base e 1 (.slice (some ⟨g, 0, none⟩) m cap) m ((d.take m).map enc) :=
 ⟨by rw [List.length_map, List.length_take]; omega, .inr ⟨g, cap, _, rfl, hbase, Abz _ hb, by omega, h2, by simp [putCells, h3], by
  rw [Nat.mul_one]; exact Acd cur d hm (by omega)⟩⟩
end
theorem Vb {l : List Int} (h : l.Pairwise fun x y => x ≤ y) : ((Lib.compact l).Pairwise fun x y => x < y) ∧ ∀ x, x ∈ Lib.compact l ↔ x ∈ l := by
 have hget : ∀ {j : Nat}, j < l.length → l.toArray[j]! = l.getD j 0 := fun {j} hj => by rw [QA hj, getD_eq hj]
 have hmono : ∀ {i j : Nat}, i ≤ j → j < l.length → l.getD i 0 ≤ l.getD j 0 := fun {i j} hij hj => by
  rcases Qa7 i j with hlt | hge
  ·rw [getD_eq (by omega), getD_eq hj]; exact (List.pairwise_iff_getElem.1 h) i j (by omega) hj hlt
  ·rw [show i = j by omega]; exact Int.le_refl _
 have key : ∀ m, m ≤ l.length → ((Lib.compactUpTo l.toArray m).Pairwise fun x y => x < y) ∧ ∀ x, x ∈ Lib.compactUpTo l.toArray m ↔ ∃ j, j < m ∧ l.getD j 0 = x := by
  intro m
  induction m with
  | zero => exact fun _ => ⟨by unfold Lib.compactUpTo; exact .nil, fun x => ⟨fun h => (by unfold Lib.compactUpTo at h; cases h), fun ⟨j, hj, _⟩ => absurd hj (Nat.not_lt_zero _)⟩⟩
  | succ m ih =>
   intro hm; obtain ⟨h1, h2⟩ := ih (by omega); rw [Lib.compactUpTo_succ]; have hg := hget (j := m) (by omega)
   cases hk : Lib.keeps l.toArray m with
   | true =>
    rw [if_pos rfl, hg]
    have hlt : ∀ x ∈ Lib.compactUpTo l.toArray m, x < l.getD m 0 := fun x hx => by
     obtain ⟨j, hj, rfl⟩ := (h2 x).1 hx; have a1 := hmono (i := j) (j := m - 1) (by omega) (by omega); have a2 := hmono (i := m - 1) (j := m) (by omega) (by omega)
     have a3 : l.getD (m - 1) 0 ≠ l.getD m 0 := fun e => by
      have := Lib.keeps_neg (d := l.toArray) (m := m) (by omega) (by rw [hg, hget (by omega), e]); rw [hk] at this; cases this
     omega
    refine ⟨List.pairwise_append.2 ⟨h1, List.pairwise_singleton _ _, fun x hx y hy => by rw [List.mem_singleton.1 hy]; exact hlt x hx⟩, fun x => ?_⟩
    rw [List.mem_append, List.mem_singleton, h2]; constructor
    ·rintro (⟨j, hj, e⟩ | rfl)
     ·exact ⟨j, by omega, e⟩
     ·exact ⟨m, by omega, rfl⟩
    ·rintro ⟨j, hj, e⟩
     rcases Qa7 j m with hlt | hge
     ·exact .inl ⟨j, hlt, e⟩
     ·exact .inr (by rw [← e, show j = m by omega])
   | false =>
    rw [if_neg (by decide), List.append_nil]; refine ⟨h1, fun x => ?_⟩; rw [h2]; constructor
    ·rintro ⟨j, hj, e⟩; exact ⟨j, by omega, e⟩
    ·rintro ⟨j, hj, e⟩
     rcases Qa7 j m with hlt | hge
     ·exact ⟨j, hlt, e⟩
     ·have hj : j = m := by omega
      subst hj
      have h0 : 0 < j := by
       rcases Nat.eq_zero_or_pos j with h0 | h0
       ·subst h0; have := Lib.keeps_lt_one l.toArray 0 (by omega); rw [hk] at this; cases this
       ·exact h0
      by_cases e2 : l.toArray[j]! = l.toArray[j - 1]!
      ·rw [hg, hget (by omega)] at e2; exact ⟨j - 1, by omega, by rw [← e2]; exact e⟩
      ·have := Lib.keeps_pos e2; rw [hk] at this; cases this
 obtain ⟨h1, h2⟩ := key l.length (Qa4 _); refine ⟨h1, fun x => ?_⟩; unfold Lib.compact; rw [h2]; constructor
 ·rintro ⟨j, hj, rfl⟩; exact Br hj
 ·intro hx; obtain ⟨j, hj⟩ := List.getElem?_of_mem hx; obtain ⟨hl, he⟩ := List.getElem?_eq_some_iff.1 hj; exact ⟨j, hl, by rw [getD_eq hl, he]⟩
end Go.VS
namespace Go.Proofs.Tryz
open Go.Shelf Go.RowKit Go.VS Go Go.Sort
def Fs (w : World) (B : Nat) (v : Value) (l : List Int) : Prop := w.ownsRow B 3 1 v l.length (l.map (Value.int .i64))
theorem S8 {w : World} {B B' : Nat} {v : Value} {l : List Int} (h : Fs w B v l) (hb : B' ≤ B) : Fs w B' v l := by
 refine ⟨h.1, ?_⟩
 rcases h.2 with h | ⟨g, cap, cur, h1, h2, h3, h4⟩
 ·exact .inl h
 ·exact .inr ⟨g, cap, cur, h1, Qa8 hb h2, h3, h4⟩
theorem X1 {w : World} {B : Nat} {v : Value} {l : List Int} (h : Fs w B v l) (o : Obj) : Fs (w.alloc o) B v l := World.ownsRow.alloc h o
theorem X2 {w w' : World} {B : Nat} {v : Value} {l : List Int} (h : Fs w B v l) (hb : Below w.heap.size w w') : Fs w' B v l := by
 refine ⟨h.1, ?_⟩
 rcases h.2 with h | ⟨g, cap, cur, h1, h2, h3, h4⟩
 ·exact .inl h
 ·have hlt : g < w.heap.size := (Array.getElem?_eq_some_iff.1 h3).1; exact .inr ⟨g, cap, cur, h1, h2, (hb.block g hlt).trans h3, h4⟩
theorem V6 (w : World) (B : Nat) : Fs w B (.slice none 0 0) [] := World.ownsRow_nil _ _ _ _
theorem below_grow {B : Nat} {w0 w w' : World} {row : Option Nat} (hB : Below B w0 w) (hg : w.grownBy w' row) (hr : ∀ i, row = some i → B ≤ i) (hs : B ≤ w0.heap.size) : Below B w0 w' :=
 ⟨hg.os.trans hB.os, hg.tape.trans hB.tape, hg.output.trans hB.output, Qa8 hB.size hg.size, fun i hi => by
  have hs := hB.size
  exact (hg.block i (by omega) (fun e1 => by have := hr i e1.symm; omega)).trans (hB.block i hi)⟩
theorem QV {w : World} {B : Nat} {v : Value} {l : List Int} (h : Fs w B v l) : ∀ i, v.ownBlock = some i → B ≤ i := fun i hi => (World.ownsRow.lt h i hi).1
theorem ahead_zero (w : World) (n : Nat) (g : Nat) (d : Array Int) : putRow (Value.int .i64) (Sort.ahead w n) g 0 d = grow (putRow (Value.int .i64) (Sort.ahead w n) g 0 d) #[] := (grow_empty _).symm
theorem WA (B : Nat) (v : Value) (l : List Int) (W : World) (hown : Fs W B v l) (hl : l.length ≤ 4000000) : Calls prog 64 #[v] W fun e w' => e = .returned (.tuple #[]) ∧ W.grownBy w' v.ownBlock ∧ Fs w' B v (l.mergeSort fun x y => decide (x ≤ y)) := by
 have hown' := hown; obtain ⟨hlen, h⟩ := hown
 rcases h with ⟨rfl, hn⟩ | ⟨g, cap, cur, rfl, hg, hb, hnc, hcm, hcs, htk⟩
 ·have hn : l = [] := List.length_eq_zero_iff.1 hn; subst hn; refine (AnyM.slices_Sort_int_none Tryz.Aea none 0 W).mono ?_; rintro e w' ⟨rfl, rfl⟩; exact ⟨rfl, ⟨rfl, rfl, rfl, Qa4 _, fun _ _ _ => rfl⟩, by rw [List.mergeSort_nil]; exact hown'⟩
 ·have hlt : g < W.heap.size := (Array.getElem?_eq_some_iff.1 hb).1; rw [Nat.mul_one] at htk; refine (AnyM.slices_Sort_int Tryz.Aea g 0 cap l W (Ox hb htk) hlt (by omega)).mono ?_; rintro e w' ⟨rfl, n, os, rfl⟩; have hml : (l.mergeSort fun x y => decide (x ≤ y)).length = l.length := (List.mergeSort_perm l _).length_eq; refine ⟨rfl, Ot _, ?_⟩
  have := QX (enc := Value.int .i64) (n := n) (os := os) (d := l.mergeSort fun x y => decide (x ≤ y)) (m := l.length) (by omega) hg hb (by omega) hcm hcs; rw [List.take_of_length_le (by omega)] at this; unfold Fs; rw [hml]; exact this
theorem U9 (B : Nat) (v : Value) (l : List Int) (W : World) (hown : Fs W B v l) (hl : l.length ≤ 4000000) : Calls prog 65 #[v] W fun e w' => ∃ v', e = .returned v' ∧ W.grownBy w' v.ownBlock ∧ Fs w' B v' (Lib.compact l) := by
 have hown' := hown; obtain ⟨hlen, h⟩ := hown
 rcases h with ⟨rfl, hn⟩ | ⟨g, cap, cur, rfl, hg, hb, hnc, hcm, hcs, htk⟩
 ·have hn : l = [] := List.length_eq_zero_iff.1 hn; subst hn; refine (AnyG.slices_Compact_int_empty Tryz.Aa9 none 0 W).mono ?_; rintro e w' ⟨rfl, rfl⟩; exact ⟨_, rfl, ⟨rfl, rfl, rfl, Qa4 _, fun _ _ _ => rfl⟩, hown'⟩
 ·rw [Nat.mul_one] at htk; refine (AnyG.slices_Compact_int Tryz.Aa9 g 0 cap l W (Ox hb htk) (by unfold maxLen at hcm; omega) hnc).mono ?_
  rintro e w' ⟨rfl, n, rfl⟩; rw [ahead_zero]
  have hle : (Lib.compact l).length ≤ l.length := by
   unfold Lib.compact Lib.compactUpTo; rw [List.length_map]; exact Qa8 (List.length_filter_le _ _) (by simp)
  have hdl : (Lib.compact l ++ List.replicate (l.length - (Lib.compact l).length) 0).length = l.length := by rw [List.length_append, List.length_replicate]; omega
  refine ⟨_, rfl, Ot _, ?_⟩; have := QX (enc := Value.int .i64) (n := n) (os := #[]) (d := Lib.compact l ++ List.replicate (l.length - (Lib.compact l).length) 0) (m := (Lib.compact l).length) (by omega) hg hb (by omega) hcm hcs; rw [List.take_left] at this; exact this
structure W7 (w : World) (a : Option Addr) (l : List Int) : Prop where
 at_ : ∀ (k : Nat) (x : Int), l[k]? = some x → ∃ b off, a = some ⟨b, off, none⟩ ∧ b < w.heap.size ∧ w.cell? ⟨b, off + k, none⟩ = some (.int .i64 x)
theorem W7.below {w w' : World} {a : Option Addr} {l : List Int} (h : W7 w a l) (hb : Below w.heap.size w w') : W7 w' a l :=
 ⟨fun k x hk => by
  obtain ⟨b, off, h1, h2, h3⟩ := h.at_ k x hk
  exact ⟨b, off, h1, Nat.lt_of_lt_of_le h2 hb.size, (hb.cell (p := ⟨b, off + k, none⟩) h2).trans h3⟩⟩
theorem AbF {C : Ctx} {w : World} {l : List Int} {v : Value} {f : List Nat} (h : RV C w (.sl .brw 1 (l.map ((BT.int .i64).enc .leaf))) v f) : ∃ a c, v = .slice a l.length c ∧ W7 w a l := by
 obtain ⟨a, c, hv, hat⟩ := U6 (t := .int .i64) rfl h; refine ⟨a, c, hv, ⟨fun k x hx => ?_⟩⟩; obtain ⟨b, off, h1, h2, h3⟩ := hat k x hx; exact ⟨b, off, h1, h2, by have := h3 0 (.int .i64 x) rfl; rw [show k * (BT.int IntKind.i64).size + 0 = k by show k * 1 + 0 = k; omega] at this; exact this⟩
theorem TL (l : List Int) (a : Option Addr) (c : Nat) (W : World) (hv : W7 W a l) (hl : l.length ≤ 4000000) : Calls prog 63 #[.slice a l.length c] W fun e w' => ∃ v', e = .returned v' ∧ Fs w' W.heap.size v' l ∧ Below W.heap.size W w' := by
 cases a with
 | none =>
  have hn : l = [] := by
   cases l with
   | nil => rfl
   | cons x r => obtain ⟨b, off, h, _⟩ := hv.at_ 0 x rfl; cases h
  subst hn; refine (AnyG.slices_Clone_int_nil Tryz.Xv 0 c W).mono ?_; rintro e w' ⟨rfl, rfl⟩; exact ⟨_, rfl, V6 _ _, Below.refl _ _⟩
 | some a =>
  by_cases hn : l = []
  ·subst hn; refine (AnyG.slices_Clone_int_zero Tryz.Xv a c W).mono ?_; rintro e w' ⟨v', rfl, h1, _, h2⟩; exact ⟨_, rfl, h1, h2⟩
  ·obtain ⟨x, hx⟩ : ∃ x, l[0]? = some x := ⟨_, Qa0 (List.length_pos_iff.2 hn)⟩
   obtain ⟨b, off, ha, _, _⟩ := hv.at_ 0 x hx; cases ha; refine (AnyG.slices_Clone_int Tryz.Xv b off l.length c l W (Qa4 _) (by omega) fun j hj => ?_).mono ?_
   ·obtain ⟨b', off', h1, _, h2⟩ := hv.at_ j l[j] (Qa0 hj); cases h1; rw [getD_eq hj]; exact h2
   ·rintro e w' ⟨v', rfl, h1, _, h2⟩; rw [List.take_length] at h1; exact ⟨_, rfl, h1, h2⟩
end Go.Proofs.Tryz
