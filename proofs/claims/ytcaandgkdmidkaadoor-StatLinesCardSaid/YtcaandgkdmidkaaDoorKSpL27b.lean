/- The lines of statistics. -/
import Derived.Test.YtcaandgkdmidkaaDoorKSpL27
import Derived.Test.YtcaandgkdmidkaaDoorKSpLn
import Derived.Test.YtcaandgkdmidkaaDoorKSpPri
set_option linter.unusedVariables false
set_option linter.unusedSimpArgs false
namespace Go.VS
variable {P : Pg}
theorem Uf : ∀ m u : Nat, u < m → ∀ b ∈ Lib.decDigits u, b ≠ 10
 | 0, u, h => absurd h (by omega)
 | m + 1, u, h => by
  have e48 : ∀ k : Nat, k < 10 → UInt8.ofNat (48 + k) ≠ 10 := by decide
  rw [Lib.decDigits]
  intro b hb
  split at hb
  ·rename_i hu
   rw [List.mem_singleton.1 hb]
   exact e48 u hu
  ·rename_i hu
   rcases List.mem_append.1 hb with hb | hb
   ·exact Uf m (u / 10) (by omega) b hb
   ·rw [List.mem_singleton.1 hb]
    exact e48 (u % 10) (by omega)
theorem TR (n : Int) : ∀ b ∈ Ed n, b ≠ 10 := by
 unfold Ed
 split
 ·simp
 ·exact Uf _ _ (Nat.lt_succ_self _)
theorem Up (s : Bs) : ∀ b ∈ CY s, b ≠ 10 := fun b hb e => by
 subst e
 have := (Um s 10 hb).1
 exact absurd this (by decide)
theorem T4 (most width : Int) (s : Stat) : T9 (Cj most width s) := by
 refine ⟨_, rfl, fun b hb => ?_⟩
 simp only [List.mem_append] at hb
 rcases hb with (((((hb | hb) | hb) | hb) | hb) | hb) | hb
 ·rw [List.mem_singleton.1 hb]; decide
 ·exact Up _ b hb
 ·intro e; subst e; revert hb; decide
 ·exact TR _ b hb
 ·rw [List.mem_singleton.1 hb]; decide
 ·rw [(List.mem_replicate.1 hb).2]; decide
 ·rw [(List.mem_replicate.1 hb).2]; decide
theorem T8 (n a r : Int) : T9 (LG n a r) := by
 refine ⟨(((((([32] : Bs) ++ Ed n) ++ [32, 102, 105, 108, 101, 115, 44, 32]) ++ Ed a) ++ [32, 97, 100, 100, 101, 100, 44, 32]) ++ Ed r) ++ [32, 114, 101, 109, 111, 118, 101, 100], ?_, fun b hb => ?_⟩
 ·unfold LG
  simp only [List.append_assoc, List.cons_append, List.nil_append]
 ·simp only [List.mem_append] at hb
  rcases hb with (((((hb | hb) | hb) | hb) | hb) | hb) | hb
  ·rw [List.mem_singleton.1 hb]; decide
  ·exact TR _ b hb
  ·intro e; subst e; revert hb; decide
  ·exact TR _ b hb
  ·intro e; subst e; revert hb; decide
  ·exact TR _ b hb
  ·intro e; subst e; revert hb; decide
theorem Uo (most width : Int) (s : Stat) : ∃ r, Cj most width s = 32 :: r := ⟨_, by unfold Cj; simp only [List.append_assoc, List.cons_append, List.nil_append]; rfl⟩
theorem Us (n a r : Int) : ∃ t, LG n a r = 32 :: t := ⟨_, by unfold LG; simp only [List.append_assoc, List.cons_append, List.nil_append]; rfl⟩
def spB (l : Bs) : Prop := T9 l ∧ (∃ r, l = 32 :: r) ∧ l.length ≤ 3000
theorem Ui {l : Bs} (h : T9 l) : TZ l = true := by
 obtain ⟨k, rfl, _⟩ := h
 unfold TZ
 have e1 : (k ++ [10] == ([] : Bs)) = false := by cases k <;> rfl
 have e2 : (k ++ [10]).getD ((k ++ [10]).length - 1) 0 = 10 := by simp
 rw [e1, e2]
 rfl
theorem Ua : ∀ (l : List Stat) (a r m : Int), (∀ s ∈ l, 0 ≤ s.2.1 ∧ s.2.1 < 50 ∧ 0 ≤ s.2.2 ∧ s.2.2 < 30) → 0 ≤ a → 0 ≤ r → a + r + 80 * l.length ≤ 2147483647 → (Fx l a r m).2.2.2 = true
 | [], a, r, m, h, h1, h2, h3 => rfl
 | s :: l, a, r, m, h, h1, h2, h3 => by
  have hs := h s (List.mem_cons_self ..)
  rw [List.length_cons] at h3
  have hok : Qo s a r := ⟨⟨by omega, by omega⟩, ⟨by omega, by omega⟩, ⟨by omega, by omega⟩⟩
  rw [Fx, if_pos hok]
  exact Ua l _ _ _ (fun t ht => h t (List.mem_cons_of_mem _ ht)) (by omega) (by omega) (by omega)
def TK (l : List Stat) : Prop := l.length ≤ 5 ∧ ∀ s ∈ l, s.1.length ≤ 3 ∧ 0 ≤ s.2.1 ∧ s.2.1 < 50 ∧ 0 ≤ s.2.2 ∧ s.2.2 < 30
theorem TK.few {l : List Stat} (h : TK l) : Few l := ⟨by have := h.1; omega, fun s hs => by have := (h.2 s hs).1; omega⟩
theorem UA {l : List Stat} {w : Int} (hl : TK l) (h1 : 2 ≤ w) (h2 : w ≤ 1000) : (sfF l w).2 = 0 ∧ (lnF (sfF l w).1).length = l.length + 1 ∧ (sfF l w).1.length ≤ 100000 ∧ ∀ k ∈ lnF (sfF l w).1, spB k := by
 have ht : (Fw l).2.2.2 = true := Ua l 0 0 0 (fun s hs => (hl.2 s hs).2) (by omega) (by omega) (by have := hl.1; omega)
 have htot := OS ht (by omega) (by omega) (by omega) (by omega) (by omega)
 unfold sfF
 rw [if_neg (by rw [ht]; simp; omega)]
 have e : lnF (l.flatMap (Cj (Fw l).2.2.1 w) ++ LG l.length (Fw l).1 (Fw l).2.1) = l.map (Cj (Fw l).2.2.1 w) ++ [LG l.length (Fw l).1 (Fw l).2.1] := by
  rw [List.flatMap_def, Uj _ _ (by
   intro k hk
   obtain ⟨s, _, rfl⟩ := List.mem_map.1 hk
   exact T4 _ _ _)]
  have := Ur (T8 (l.length) (Fw l).1 (Fw l).2.1) []
  rw [List.append_nil] at this
  rw [this]
  rfl
 dsimp only
 refine ⟨rfl, by rw [e]; simp, ?_, fun k hk => ?_⟩
 ·have he := Ug l.length (Fw l).1 (Fw l).2.1
  have hf : ∀ (m : List Stat), (∀ s ∈ m, s ∈ l) → (m.flatMap (Cj (Fw l).2.2.1 w)).length ≤ 3000 * m.length := by
   intro m
   induction m with
   | nil => intro _; simp
   | cons s m ih =>
    intro hm
    have h3 := ih fun t ht => hm t (List.mem_cons_of_mem _ ht)
    have hs := htot.2.2.2.2.2 s (hm s (List.mem_cons_self ..))
    have h4 := Pj (most := (Fw l).2.2.1) (width := w) (s := s) hs.1 hs.2.1 hs.2.2 h1 h2 (by have := (hl.2 s (hm s (List.mem_cons_self ..))).1; omega)
    rw [List.flatMap_cons, List.length_append, List.length_cons]
    omega
  have := hf l fun s hs => hs
  have := hl.1
  rw [List.length_append]
  omega
 ·rw [e] at hk
  rcases List.mem_append.1 hk with hk | hk
  ·obtain ⟨s, hs, rfl⟩ := List.mem_map.1 hk
   have h3 := htot.2.2.2.2.2 s hs
   exact ⟨T4 _ _ _, Uo _ _ _, Pj h3.1 h3.2.1 h3.2.2 h1 h2 (by have := (hl.2 s hs).1; omega)⟩
  ·rw [List.mem_singleton.1 hk]
   exact ⟨T8 _ _ _, Us _ _ _, by have := Ug l.length (Fw l).1 (Fw l).2.1; omega⟩
theorem Uc (h : Has P Tw) (hM : Jc P) (hA : Ud P) (hL : Ub P) (hS : GM P) (hN : TN P) (hE : TW P) (hAw : D5 P) (x : List Int × (Int × Int)) :
  Fn P UF Tt x fun (d : Bool) _ => d = true := by
 obtain ⟨raw, n, w⟩ := x
 refine TO h ?_
 unfold TE
 dsimp only
 refine BI.mid TK ?_ ?_
 ·refine Mb.of (fun q => 0 ≤ q.2 ∧ (q.1.length : Int) = q.2 ∧ TK q.1) (fun q => (6 - q.2).toNat) ⟨by decide, rfl, by decide, fun s hs => nomatch hs⟩ ?_
  rintro ⟨m, i⟩ ⟨i0, hi, hm⟩
  dsimp only at i0 hi hm ⊢
  refine hM.at (by decide) (by decide) ?_
  have hr := Tl (a := n) (n := 6) (by decide) (by decide)
  generalize Q6 n 6 = u at *
  refine ⟨fun hc => ?_, fun hc => hm⟩
  have hc := of_decide_eq_true hc
  refine BI.mid (fun q => (q.length : Int) = i + 1 ∧ TK q) ?_ ?_
  ·refine (hL i).to ?_
   rintro (d : Bs) _ hd
   have hd : d.length ≤ 3 := hd
   rw [w64 (n := 2 * i) (by omega) (by omega), w64 (n := 2 * i + 1) (by omega) (by omega)]
   refine hA.at (by omega) (hM.at (by decide) (by decide) (hA.at (by omega) (hM.at (by decide) (by decide) ?_)))
   have r1 := Tl (a := atF raw (2 * i)) (n := 50) (by decide) (by decide)
   have r2 := Tl (a := atF raw (2 * i + 1)) (n := 30) (by decide) (by decide)
   have := hm.1
   refine ⟨by simp only [List.length_cons, List.length_nil]; omega, by simp only [List.length_append, List.length_cons, List.length_nil]; omega, by simp only [List.length_append, List.length_cons, List.length_nil]; omega, fun s hs => ?_⟩
   rcases List.mem_append.1 hs with hs | hs
   ·exact hm.2 s hs
   ·rw [List.mem_singleton.1 hs]
    exact ⟨hd, r1.1, r1.2, r2.1, r2.2⟩
  ·rintro q ⟨hq, hq2⟩
   rw [w64 (by omega) (by omega)]
   exact ⟨⟨by omega, hq, hq2⟩, by omega⟩
 ·intro m hm
  refine hM.at (by decide) (by decide) ?_
  have hr := Tl (a := w) (n := 60) (by decide) (by decide)
  generalize Q6 w 60 = v at *
  rw [w64 (n := 2 + v) (by omega) (by omega)]
  refine (hS (m, 2 + v) hm.few).to ?_
  rintro (d : Bs × Int) _ hd
  have hd : d = sfF m (2 + v) := hd
  obtain ⟨k1, k2, k3, k4⟩ := UA (w := 2 + v) hm (by omega) (by omega)
  rw [← hd] at k1 k2 k3 k4
  refine (hN d.1 (by omega)).to ?_
  rintro (L : List Bs) _ hL
  have hL : L = lnF d.1 := hL
  rw [← hL] at k2 k4
  have h5 := hm.1
  rw [w64 (n := (m.length : Int) + 1) (by omega) (by omega), k1]
  refine ⟨fun hc => ?_, fun _ => ?_⟩
  ·simp at hc
   omega
  refine BI.mid (fun q => True) ?_ fun _ _ => hAw.at rfl
  refine Mb.of (fun q => 0 ≤ q.2) (fun q => (L.length - q.2).toNat) (by decide) ?_
  rintro ⟨b, i⟩ i0
  dsimp only at i0 ⊢
  refine ⟨fun hc => ?_, fun hc => trivial⟩
  have hc := of_decide_eq_true hc
  have hi : i.toNat < L.length := by omega
  have hk := k4 _ (Ux (d := ([] : Bs)) hi)
  obtain ⟨kl, ⟨r, kr⟩, kn⟩ := hk
  have hle : (L.getD i.toNat []).length ≤ 140737488351232 := by omega
  have hen := Ui kl
  have e0 : (L.getD i.toNat []).getD (Int.toNat 0) 0 = 32 := by rw [kr]; rfl
  have e1 : ((((32 : UInt8).toNat : Nat) : Int) != 32) = false := rfl
  have hlp : 0 < (L.getD i.toNat []).length := by rw [kr]; simp
  rw [e0, e1]
  refine BI.mid (fun q => True) ⟨⟨i0, hc⟩, hi, ⟨by decide, by omega⟩, fun _ => ⟨i0, hc⟩, fun _ => hi, BI.mid (fun q => q = true) ⟨fun _ => (hE _ hle).to ?_, fun hh => absurd hh (by decide), trivial⟩ ?_⟩ ?_
  ·rintro (q : Bool) _ hq
   have hq : q = TZ _ := hq
   rw [hq, hen]
  ·rintro q rfl
   exact ⟨fun hh => absurd hh (by decide), fun _ => trivial⟩
  ·intro q _
   rw [w64 (by omega) (by omega)]
   exact ⟨by omega, by omega⟩
end Go.VS
