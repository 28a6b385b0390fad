/- tree.Apply: the keys of a map in their order; what is possible. -/
import Derived.Test.YtdnomijflodcgaaGreatDoorKKU
import Derived.Test.YtdnomijflodcgaaGreatDoorKKY
import Derived.Test.YtdnomijflodcgaaGreatDoorKKShelf
import Derived.Sort.KeysCollected
set_option linter.unusedVariables false
set_option linter.unusedSimpArgs false
namespace Go.Proofs.Tryz
open Go.Shelf Go.RowKit Go.VS Go Go.Maps Go.Sort
theorem Amr {w : World} {b n : Nat} {g : Bs → Option Bs} (h : MG w b n g) (hgl : ∀ p, (g p).isSome = true → p.length ≤ maxLen) : ∃ D : DataW Unit, w.ownsMap prog 9 (plainElem prog 9) b n D ∧ Maps.size D ≤ n ∧ (strKeys D).Nodup ∧ ∀ x, x ∈ strKeys D ↔ (g x).isSome = true := by
 obtain ⟨D, ho, hg⟩ := h
 refine ⟨D, ho, ho.size_le, ?_⟩
 obtain ⟨es, hD, hpw, _⟩ := ho.entries (string_keyed underlying9)
 obtain ⟨es', hD', hko⟩ := ho.keysOf
 obtain rfl : es = es' := by rw [hD] at hD'; simpa using hD'
 have hle := strKeys_le ho underlying9
 subst hD
 have hst : ∀ p ∈ es, ∃ x, p.1 = .string x := fun p hp => by
  obtain ⟨v, hv⟩ := hko p hp
  obtain ⟨x, _, hx, _⟩ := Maps.keyOf_str underlying9 hv
  exact ⟨x, hx⟩
 have hmem : ∀ x, x ∈ strKeys (.map es : DataW Unit) ↔ Maps.has (.map es : DataW Unit) (.string x) = true := fun x => by
  rw [has_eq, List.any_eq_true]
  show x ∈ es.map (fun p => Go.strOf p.1) ↔ _
  rw [List.mem_map]
  constructor
  ·rintro ⟨p, hp', rfl⟩
   obtain ⟨a, ha⟩ := hst p hp'
   exact ⟨p, hp', by rw [ha]; simp [Lit.sameKey, Go.strOf]⟩
  ·rintro ⟨p, hp', hs⟩
   obtain ⟨a, ha⟩ := hst p hp'
   rw [ha] at hs
   exact ⟨p, hp', by rw [ha]; simpa [Lit.sameKey, Go.strOf] using hs⟩
 refine ⟨?_, fun x => ?_⟩
 ·show (es.map fun p => Go.strOf p.1).Nodup
  refine List.pairwise_map.2 (hpw.imp_of_mem fun {p q} hp' hq' hne e => hne ?_)
  obtain ⟨a, ha⟩ := hst p hp'
  obtain ⟨b, hb⟩ := hst q hq'
  rw [ha, hb] at e ⊢
  exact congrArg _ e
 ·rw [hmem]
  constructor
  ·intro hh
   rw [← (hg x (hle x ((hmem x).2 hh))).1]
   exact hh
  ·intro hh
   rw [(hg x (hgl x hh)).1]
   exact hh
theorem Amu : ∀ x y : Bs, x < y ↔ Op.bytesLess x y = true
 | [], [] => by simp [Op.bytesLess]
 | [], b :: y => by simp [Op.bytesLess]
 | a :: x, [] => by simp [Op.bytesLess]
 | a :: x, b :: y => by
  rw [List.cons_lt_cons_iff, Amu x y]
  show _ ↔ (decide (a < b) || (a == b && Op.bytesLess x y)) = true
  simp only [Bool.or_eq_true, Bool.and_eq_true, decide_eq_true_eq, beq_iff_eq]
theorem Amy (x y : Bs) : decide (x ≤ y) = true ↔ Op.bytesLess y x = false := by
 rw [decide_eq_true_eq, ← List.not_lt, Amu, Bool.not_eq_true]
def AlK (g : Bs → Option Bs) (ts : List Bs) : Prop := (ts.Pairwise fun x y => Op.bytesLess x y = true) ∧ ∀ x, x ∈ ts ↔ (g x).isSome = true
theorem AlU {g : Bs → Option Bs} {ss : List Bs} (hnd : ss.Nodup) (hm : ∀ x, x ∈ ss ↔ (g x).isSome = true) : AlK g (ss.mergeSort fun x y => decide (x ≤ y)) := by
 refine ⟨?_, fun x => by rw [(List.mergeSort_perm ss _).mem_iff, hm]⟩
 have tr : ∀ a b c : Bs, decide (a ≤ b) = true → decide (b ≤ c) = true → decide (a ≤ c) = true := fun a b c h1 h2 => by
  simp only [decide_eq_true_eq] at *
  exact List.le_trans h1 h2
 have tot : ∀ a b : Bs, (decide (a ≤ b) || decide (b ≤ a)) = true := fun a b => by
  simp only [Bool.or_eq_true, decide_eq_true_eq]
  exact List.le_total a b
 have h1 := List.pairwise_mergeSort tr tot ss
 have h2 : (ss.mergeSort fun x y => decide (x ≤ y)).Pairwise fun x y => x ≠ y := (List.mergeSort_perm ss _).symm.pairwise hnd fun h e => h e.symm
 refine (h1.and h2).imp ?_
 rintro x y ⟨h3, h4⟩
 have h3 := (Amy x y).1 h3
 rcases Ah8 h4 with h5 | h5
 ·exact h5
 ·rw [h5] at h3; cases h3
theorem Amz (m : Nat) : AnyZ.SortsIn prog Tryz.AlA Fence.wide m :=
 ⟨fun blk off cap ss W hH hblk hsz => callsIn_wide.2 (AnyM.slices_Sort_string Tryz.Amv blk off cap ss W hH hblk hsz),
  fun p cap W => callsIn_wide.2 (AnyM.slices_Sort_string_none Tryz.Amv p cap W)⟩
theorem Al2 (b : Nat) (W : World) : Calls prog 72 #[.map (some b)] W fun e w' => e = .returned (.func (.func 96) #[] #[.pointer (some ⟨W.heap.size, 0, none⟩)]) ∧ w' = W.alloc (.cells #[.map (some b)] 95) :=
 (callsIn_wide (n := 5)).1 (AnyZ.keys_in Tryz.Amt Fence.wide 5 trivial rfl (some b) W)
structure Amx (w : World) (a : Option Addr) (l : List Bs) : Prop where
 at_ : ∀ (k : Nat) (s : Bs), l[k]? = some s → ∃ b off, a = some ⟨b, off, none⟩ ∧ b < w.heap.size ∧ w.cell? ⟨b, off + k, none⟩ = some (.string ⟨s.toArray⟩)
theorem Amf {w : World} {base : Nat} {v : Value} {l : List Bs} (h : w.ownsRow base 9 1 v l.length (l.map encStr)) : ∃ a c, v = .slice a l.length c ∧ Amx w a l := by
 rcases h.2 with ⟨rfl, hn⟩ | ⟨g, cap, cur, rfl, hg, hb, hnc, hcm, hcs, htk⟩
 ·have hn : l = [] := List.length_eq_zero_iff.1 hn
  subst hn
  exact ⟨none, 0, rfl, ⟨fun k s hs => nomatch hs⟩⟩
 ·refine ⟨some ⟨g, 0, none⟩, cap, rfl, ⟨fun k s hs => ⟨g, 0, rfl, (Array.getElem?_eq_some_iff.1 hb).1, ?_⟩⟩⟩
  have hk := (List.getElem?_eq_some_iff.1 hs).1
  have h1 : (cur.toList.take (l.length * 1))[k]? = (l.map encStr)[k]? := by rw [htk]
  rw [List.getElem?_take_of_lt (by omega), List.getElem?_map, hs] at h1
  simp only [World.cell?, hb, Nat.zero_add, Option.isSome_none, Bool.false_eq_true, if_false]
  rw [← Array.getElem?_toList, h1]
  rfl
set_option maxHeartbeats 1000000 in
theorem AlN (b n : Nat) (g : Bs → Option Bs) (W : World) (hM : MG W b n g) (hgl : ∀ p, (g p).isSome = true → p.length ≤ maxLen) (hn : n ≤ 4000000) :
  Calls prog 71 #[.func (.func 96) #[] #[.pointer (some ⟨W.heap.size, 0, none⟩)]] (W.alloc (.cells #[.map (some b)] 95)) fun e w' => ∃ a c ts, e = .returned (.slice a ts.length c) ∧ AlK g ts ∧ Amx w' a ts ∧ Below (W.alloc (.cells #[.map (some b)] 95)).heap.size (W.alloc (.cells #[.map (some b)] 95)) w' := by
 obtain ⟨D, ho, hsz, hnd, hmem⟩ := Amr hM hgl
 have hseq : SeqGives Fence.wide 2 prog 96 #[.pointer (some ⟨W.heap.size, 0, none⟩)] encStr (fun ss => ss.Perm (strKeys D)) (Maps.size D) (W.alloc (.cells #[.map (some b)] 95)) :=
  AnyZ.keys_gives (ρ := Tryz.AlJ) { Tryz.Amt with } Fence.wide _ trivial rfl (by omega) W.heap.size b n D _ (by simp) (by simp) (ho.alloc _)
 have cS := AnyZ.sorted_in Tryz.Ams Fence.wide 5 trivial trivial trivial trivial rfl (by omega) (Amz _) (enters_of func95 (by kernel_rfl) rfl) 96 #[.pointer (some ⟨W.heap.size, 0, none⟩)] trivial (enters_of func96 (by kernel_rfl) rfl) _ _ (by unfold maxLen; omega) (by omega) _ hseq
 refine ((callsIn_wide (n := 5)).1 cS).mono ?_
 rintro e w' ⟨v, ss, rfl, hp, hrow, hnil, hB⟩
 have hks := AlU (g := g) (ss := ss) (hp.symm.nodup hnd) fun x => by rw [hp.mem_iff, hmem]
 have hlen : (ss.mergeSort fun x y => decide (x ≤ y)).length = ss.length := (List.mergeSort_perm ss _).length_eq
 rw [← hlen] at hrow
 obtain ⟨a, c, rfl, hl⟩ := Amf hrow
 exact ⟨a, c, _, rfl, hks, hl, hB⟩
set_option maxHeartbeats 1000000 in
theorem Al4 (a b : List Bh) (x : DB) (R1 R2 n1 n2 B9 B10 : Nat) (W : World) (hMa : MG W R1 n1 (D0 a)) (hMb : MG W R2 n2 (D0 b)) (h9 : W.cell? ⟨B9, 0, none⟩ = some (.map (some R1))) (h10 : W.cell? ⟨B10, 0, none⟩ = some (.map (some R2))) (l9 : B9 < W.heap.size) (l10 : B10 < W.heap.size) :
  Calls prog 69 #[.agg #[.string ⟨x.1.1.toArray⟩, .int .i64 x.1.2], .pointer (some ⟨B9, 0, none⟩), .pointer (some ⟨B10, 0, none⟩)] W fun e w' => e = .returned (.bool (!Ald a b x.1)) ∧ Below W.heap.size W w' := by
 obtain ⟨⟨p, kd⟩, hp⟩ := x
 dsimp only at hp ⊢
 have n9 : B9 ≠ W.heap.size := by omega
 have n10 : B10 ≠ W.heap.size := by omega
 have hMa2 := Ec.alloc hMa (.cells #[.string ⟨p.toArray⟩, .int .i64 kd] 67)
 have hMb2 := Ec.alloc hMb (.cells #[.string ⟨p.toArray⟩, .int .i64 kd] 67)
 have hB2 := (Below.refl _ W).alloc (Nat.le_refl _) (.cells #[.string ⟨p.toArray⟩, .int .i64 kd] 67)
 have hcon := Al3 a b (p, kd) hp R1 R2 n1 n2 _ hMa2 hMb2
 dsimp only at hcon
 clear hMa hMb hMa2 hMb2
 generalize Ald a b (p, kd) = r at hcon ⊢
 go_enter func69, ntmps69
 go_wp2_with (go_at_call 70; refine hcon.mono ?_; rintro e w1 ⟨rfl, hB1⟩)
 go_ret
 exact ⟨rfl, hB2.trans (hB1.mono hB2.size)⟩
end Go.Proofs.Tryz
