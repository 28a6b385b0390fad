/- Words and numbers: what is read is what was written. -/
import Derived.Test.YtcaandgkdmidkaaKSpWords
import Derived.Test.YtcaandgkdmidkaaKSpCmd
set_option linter.unusedVariables false
set_option linter.unusedSimpArgs false
namespace Go.VS
theorem OQ (s : Bs) : ∀ (f i : Nat), i ≤ s.length → i ≤ plN s f i ∧ plN s f i ≤ s.length ∧ ∀ t, i ≤ t → t < plN s f i → CP (byt s t) = true
 | 0, i, h => ⟨Nat.le_refl _, h, fun t h1 h2 => absurd h2 (by rw [plN]; omega)⟩
 | f + 1, i, h => by
  rw [plN]
  split
  ·rename_i hc
   obtain ⟨h1, h2, h3⟩ := OQ s f (i + 1) (by omega)
   refine ⟨by omega, h2, fun t ht hl => ?_⟩
   by_cases e : t = i
   ·subst e; exact hc.2
   ·exact h3 t (by omega) hl
  ·exact ⟨Nat.le_refl _, h, fun t h1 h2 => absurd h2 (by omega)⟩
theorem V4 {s : Bs} {i : Nat} {w : Bs} {j : Int} (h : Dv (s, (i : Int)) = (w, (j, true))) : Dt s i j = Av w ∧ 0 ≤ j := by
 unfold Dv at h
 dsimp only at h
 split at h
 ·cases h
 rename_i hi
 have hi2 : i < s.length := by omega
 rw [show ((i : Nat) : Int).toNat = i by omega] at h
 split at h
 ·split at h
  ·cases h
  ·split at h
   ·rename_i hq
    cases h
    exact ⟨hq.symm, by omega⟩
   ·cases h
 ·split at h
  ·cases h
  ·rename_i hne
   cases h
   obtain ⟨p1, p2, p3⟩ := OQ s (s.length + 1) i (by omega)
   have hpl : (Dt s i (plE s i : Nat)).all CO = true := Og fun t h1 h2 => p3 t (by omega) (by unfold plE at h2; omega)
   have hq := LD hpl
   have hnz : (Dt s i (plE s i : Nat)).isEmpty = false := by
    have : 0 < (Dt s i (plE s i : Nat)).length := by
     unfold Dt
     rw [List.length_drop, List.length_take]
     have : i < plE s i := by unfold plE at hne ⊢; omega
     have : plE s i ≤ s.length := p2
     omega
    cases hh : Dt s i (plE s i : Nat) with
    | nil => rw [hh] at this; simp at this
    | cons => rfl
   rw [hnz] at hq
   exact ⟨(by simpa using hq : Av _ = _).symm, by omega⟩
theorem Qc (s : Bs) {i j : Nat} (h1 : i ≤ j) (h2 : j ≤ s.length) : s.drop i = Dt s i j ++ s.drop j := by
 unfold Dt
 rw [show ((i : Nat) : Int).toNat = i by omega, show ((j : Nat) : Int).toNat = j by omega]
 conv => lhs; rw [← List.take_append_drop j s]
 rw [List.drop_append_of_le_length (by rw [List.length_take]; omega)]
theorem To (s : Bs) : ∀ (f : Nat) (out : List Bs) (i : Nat) (L : List Bs), wdN s f out i = (L, true) → ∃ l, l ≠ [] ∧ L = out ++ l ∧ s.drop i = jq l
 | 0, _, _, _, h => by cases h
 | f + 1, out, i, L, h => by
  rw [wdN] at h
  split at h
  ·cases h
  rename_i hok
  rcases hu : Dv (s, (i : Int)) with ⟨w, j, ok⟩
  rw [hu] at h hok
  dsimp only at h hok
  have hok : ok = true := by simpa using hok
  subst hok
  obtain ⟨hc, h0⟩ := V4 hu
  have hpos := Lb w
  have hij : i < j.toNat ∧ i < s.length := by
   rw [← hc] at hpos
   unfold Dt at hpos
   rw [List.length_drop, List.length_take, show ((i : Nat) : Int).toNat = i by omega] at hpos
   omega
  have hj : j = ((j.toNat : Nat) : Int) := by omega
  split at h
  ·rename_i hend
   cases h
   refine ⟨[w], by simp, rfl, ?_⟩
   rw [Qc s (i := i) (j := s.length) (by omega) (Nat.le_refl _), List.drop_length, List.append_nil, ← hend, hc]
   rfl
  ·split at h
   ·cases h
   ·rename_i hne hb
    have hb : byt s j.toNat = 32 := by simpa using hb
    have hjl : j.toNat < s.length := by
     rcases Nat.lt_or_ge j.toNat s.length with h' | h'
     ·exact h'
     ·unfold byt at hb
      rw [List.getD_eq_getElem?_getD, List.getElem?_eq_none h'] at hb
      simp at hb
    have hj1 : j + 1 = ((j.toNat + 1 : Nat) : Int) := by omega
    rw [hj1] at h
    obtain ⟨l, l1, l2, l3⟩ := To s f _ _ _ h
    refine ⟨w :: l, by simp, by rw [l2]; simp, ?_⟩
    have hd : s.drop j.toNat = 32 :: s.drop (j.toNat + 1) := by
     rw [List.drop_eq_getElem_cons hjl]
     congr 1
     unfold byt at hb
     rw [List.getD_eq_getElem?_getD, List.getElem?_eq_getElem hjl] at hb
     exact UInt8.toNat_inj.1 (by rw [show (32 : UInt8).toNat = 32 from rfl]; simp at hb; omega)
    rw [Qc s (i := i) (j := j.toNat) (by omega) (by omega), ← hj, hc, hd, l3]
    cases l with
    | nil => exact absurd rfl l1
    | cons b l => rfl
theorem NN {s : Bs} {l : List Bs} (h : CQ s = (l, true)) : s = jq l := by
 unfold CQ at h
 split at h
 ·rename_i hs
  cases h
  rw [hs]; rfl
 ·obtain ⟨l', _, h2, h3⟩ := To s _ [] 0 l h
  rw [List.nil_append] at h2
  subst h2
  simpa using h3
theorem OI {w : Bs} : ∀ {f : Nat} {n : Int} {i : Nat} {m : Int}, IL w 0 f n i = some (m, w.length) → i ≤ w.length →
  digs (w.drop i) ∧ F5 n (w.drop i) = m ∧ (∀ k, i ≤ k → 0 < k → k < w.length → byt w 0 ≠ 48) ∧ (i = 0 → w ≠ [])
 | 0, _, _, _, h, _ => by cases h
 | f + 1, n, i, m, h, hi => by
  rw [IL] at h
  split at h
  ·rename_i hd
   split at h
   ·cases h
   rename_i hz
   split at h
   ·cases h
   have hdd : i < w.length ∧ 48 ≤ byt w i ∧ byt w i ≤ 57 := by simpa [isD] using hd
   obtain ⟨hl, hd1, hd2⟩ := hdd
   obtain ⟨h1, h2, h3, _⟩ := OI h (by omega)
   have hb : byt w i = ((w[i].toNat : Nat) : Int) := by unfold byt; rw [getD_eq hl]
   rw [List.drop_eq_getElem_cons hl]
   refine ⟨fun b hb' => ?_, ?_, fun k k1 k2 k3 => ?_, fun _ hw => by rw [hw] at hl; simp at hl⟩
   ·rcases List.mem_cons.1 hb' with rfl | hb'
    ·omega
    ·exact h1 b hb'
   ·rw [F5, ← hb]
    exact h2
   ·by_cases e : k = i
    ·subst e
     intro h48
     exact hz ⟨k2, h48⟩
    ·exact h3 k (by omega) k2 k3
  ·split at h
   ·cases h
   ·rename_i hi0
    cases h
    rw [List.drop_length]
    exact ⟨(by intro b hb; cases hb), rfl, (fun k k1 k2 k3 => absurd k3 (by omega)), (fun h0 hw => hi0 h0)⟩
theorem V6 {b : UInt8} {l : Bs} (h : digs (b :: l)) (hb : b.toNat ≠ 48) : 1 ≤ F5 0 (b :: l) := by
 have h1 := h b (List.mem_cons_self ..)
 have := PS (l := l) (n := 10 * 0 + ((b.toNat : Int) - 48)) (fun c hc => h c (List.mem_cons_of_mem _ hc)) (by omega)
 rw [F5]
 omega
theorem Qb : ∀ (k : Nat) (w : Bs), w.length = k → digs w → w ≠ [] → (2 ≤ w.length → byt w 0 ≠ 48) → Lib.decDigits (F5 0 w).toNat = w
 | k, w, hk, hd, hne, h0 => by
  obtain ⟨l, d, rfl⟩ : ∃ l d, w = l ++ [d] := ⟨w.dropLast, w.getLast hne, (List.dropLast_concat_getLast hne).symm⟩
  have hdd := hd d (by simp)
  have hdl : digs l := fun b hb => hd b (by simp [hb])
  rw [NL]
  have hof : ∀ x : Nat, x = d.toNat - 48 → UInt8.ofNat (48 + x) = d := fun x hx => by
   subst hx
   rw [show 48 + (d.toNat - 48) = d.toNat by omega]
   exact UInt8.ofNat_toNat
  show Lib.decDigits (10 * F5 0 l + ((d.toNat : Int) - 48)).toNat = l ++ [d]
  cases l with
  | nil =>
   rw [show F5 0 [] = 0 from rfl, Lib.decDigits, dif_pos (by omega), hof _ (by omega)]
   rfl
  | cons b l =>
   have hb48 : b.toNat ≠ 48 := by
    have := h0 (by simp)
    rw [List.cons_append, B8] at this
    omega
   have hv := V6 hdl hb48
   have ih := Qb (k - 1) (b :: l) (by rw [List.length_append] at hk; simp at hk ⊢; omega) hdl (by simp) (fun _ => by rw [B8]; omega)
   generalize F5 0 (b :: l) = v at hv ih
   rw [Lib.decDigits, dif_neg (by omega), hof _ (by omega), show (10 * v + ((d.toNat : Int) - 48)).toNat / 10 = v.toNat by omega, ih]
termination_by k => k
decreasing_by
 have : 0 < k := by rw [← hk]; simp
 omega
theorem T5 {w : Bs} {n : Int} (h : Hv w = some n) : inC n ∧ B6 n = w := by
 unfold Hv at h
 split at h
 ·rename_i hc
  cases h
  unfold Dm K9 at hc ⊢
  dsimp only at hc ⊢
  rw [if_neg (by omega), show ((0 : Int)).toNat = 0 from rfl, if_pos (by omega)] at hc ⊢
  cases hn : IL w 0 (w.length + 1) 0 0 with
  | none => rw [hn] at hc; exact absurd hc.1 (by decide)
  | some r =>
   obtain ⟨m, j⟩ := r
   rw [hn] at hc
   have hj : j = w.length := by
    have := hc.2
    dsimp only [WL] at this
    omega
   subst hj
   have hle := SY hn (by decide) (by decide) (Nat.le_refl _) (by omega)
   obtain ⟨h1, h2, h3, h4⟩ := OI hn (by omega)
   rw [List.drop_zero] at h1 h2
   show inC m ∧ B6 m = w
   refine ⟨⟨hle.1, hle.2.1⟩, ?_⟩
   rw [L6 hle.1 hle.2.1, ← h2]
   exact Qb _ w rfl h1 (h4 rfl) fun h => h3 1 (by omega) (by omega) (by omega)
 ·cases h
theorem Nb {n : Int} (h : inC n) : Hv (B6 n) = some n := by
 have := Vy [] [] n.toNat (by have := h.2; omega) rfl
 rw [List.nil_append, List.append_nil, ← L6 h.1 h.2] at this
 unfold Hv
 rw [show ((([] : Bs).length : Nat) : Int) = 0 from rfl] at this
 rw [this, if_pos]
 ·have := h.1
  rw [show ((n.toNat : Nat) : Int) = n by omega]
 ·rw [L6 h.1 h.2]
  simp
end Go.VS
