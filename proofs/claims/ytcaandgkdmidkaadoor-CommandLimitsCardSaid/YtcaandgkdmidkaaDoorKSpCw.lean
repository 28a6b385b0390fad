/- Words and numbers: what is read is what was written. -/
import Derived.Test.YtcaandgkdmidkaaDoorKSpWords
import Derived.Test.YtcaandgkdmidkaaDoorKSpCmd
set_option linter.unusedVariables false
set_option linter.unusedSimpArgs false
namespace Go.VS
theorem N8 (s : Bs) : ∀ (f i : Nat), i ≤ s.length → i ≤ plN s f i ∧ plN s f i ≤ s.length ∧ ∀ t, i ≤ t → t < plN s f i → C5 (byt s t) = true
 | 0, i, h => ⟨Nat.le_refl _, h, fun t h1 h2 => absurd h2 (by rw [plN]; omega)⟩
 | f + 1, i, h => by
  rw [plN]
  split
  ·rename_i hc
   obtain ⟨h1, h2, h3⟩ := N8 s f (i + 1) (by omega)
   refine ⟨by omega, h2, fun t ht hl => ?_⟩
   by_cases e : t = i
   ·subst e; exact hc.2
   ·exact h3 t (by omega) hl
  ·exact ⟨Nat.le_refl _, h, fun t h1 h2 => absurd h2 (by omega)⟩
theorem VB {s : Bs} {i : Nat} {w : Bs} {j : Int} (h : FL (s, (i : Int)) = (w, (j, true))) : DG s i j = Ar w ∧ 0 ≤ j := by
 unfold FL at h
 dsimp only at h
 split at h
 ·cases h
 rename_i hi
 have hi2 : i < s.length := by omega
 rw [show ((i : Nat) : Int).toNat = i by omega] at h
 split at h
 ·split at h
  ·cases h
  ·split at h
   ·rename_i hq
    cases h
    exact ⟨hq.symm, by omega⟩
   ·cases h
 ·split at h
  ·cases h
  ·rename_i hne
   cases h
   obtain ⟨p1, p2, p3⟩ := N8 s (s.length + 1) i (by omega)
   have hpl : (DG s i (plE s i : Nat)).all CE = true := NB fun t h1 h2 => p3 t (by omega) (by unfold plE at h2; omega)
   have hq := Lf hpl
   have hnz : (DG s i (plE s i : Nat)).isEmpty = false := by
    have : 0 < (DG s i (plE s i : Nat)).length := by
     unfold DG
     rw [List.length_drop, List.length_take]
     have : i < plE s i := by unfold plE at hne ⊢; omega
     have : plE s i ≤ s.length := p2
     omega
    cases hh : DG s i (plE s i : Nat) with
    | nil => rw [hh] at this; simp at this
    | cons => rfl
   rw [hnz] at hq
   exact ⟨(by simpa using hq : Ar _ = _).symm, by omega⟩
theorem Py (s : Bs) {i j : Nat} (h1 : i ≤ j) (h2 : j ≤ s.length) : s.drop i = DG s i j ++ s.drop j := by
 unfold DG
 rw [show ((i : Nat) : Int).toNat = i by omega, show ((j : Nat) : Int).toNat = j by omega]
 conv => lhs; rw [← List.take_append_drop j s]
 rw [List.drop_append_of_le_length (by rw [List.length_take]; omega)]
theorem SF (s : Bs) : ∀ (f : Nat) (out : List Bs) (i : Nat) (L : List Bs), wdN s f out i = (L, true) → ∃ l, l ≠ [] ∧ L = out ++ l ∧ s.drop i = jq l
 | 0, _, _, _, h => by cases h
 | f + 1, out, i, L, h => by
  rw [wdN] at h
  split at h
  ·cases h
  rename_i hok
  rcases hu : FL (s, (i : Int)) with ⟨w, j, ok⟩
  rw [hu] at h hok
  dsimp only at h hok
  have hok : ok = true := by simpa using hok
  subst hok
  obtain ⟨hc, h0⟩ := VB hu
  have hpos := KJ w
  have hij : i < j.toNat ∧ i < s.length := by
   rw [← hc] at hpos
   unfold DG at hpos
   rw [List.length_drop, List.length_take, show ((i : Nat) : Int).toNat = i by omega] at hpos
   omega
  have hj : j = ((j.toNat : Nat) : Int) := by omega
  split at h
  ·rename_i hend
   cases h
   refine ⟨[w], by simp, rfl, ?_⟩
   rw [Py s (i := i) (j := s.length) (by omega) (Nat.le_refl _), List.drop_length, List.append_nil, ← hend, hc]
   rfl
  ·split at h
   ·cases h
   ·rename_i hne hb
    have hb : byt s j.toNat = 32 := by simpa using hb
    have hjl : j.toNat < s.length := by
     rcases Nat.lt_or_ge j.toNat s.length with h' | h'
     ·exact h'
     ·unfold byt at hb
      rw [List.getD_eq_getElem?_getD, List.getElem?_eq_none h'] at hb
      simp at hb
    have hj1 : j + 1 = ((j.toNat + 1 : Nat) : Int) := by omega
    rw [hj1] at h
    obtain ⟨l, l1, l2, l3⟩ := SF s f _ _ _ h
    refine ⟨w :: l, by simp, by rw [l2]; simp, ?_⟩
    have hd : s.drop j.toNat = 32 :: s.drop (j.toNat + 1) := by
     rw [List.drop_eq_getElem_cons hjl]
     congr 1
     unfold byt at hb
     rw [List.getD_eq_getElem?_getD, List.getElem?_eq_getElem hjl] at hb
     exact UInt8.toNat_inj.1 (by rw [show (32 : UInt8).toNat = 32 from rfl]; simp at hb; omega)
    rw [Py s (i := i) (j := j.toNat) (by omega) (by omega), ← hj, hc, hd, l3]
    cases l with
    | nil => exact absurd rfl l1
    | cons b l => rfl
theorem RM {s : Bs} {l : List Bs} (h : Ei s = (l, true)) : s = jq l := by
 unfold Ei at h
 split at h
 ·rename_i hs
  cases h
  rw [hs]; rfl
 ·obtain ⟨l', _, h2, h3⟩ := SF s _ [] 0 l h
  rw [List.nil_append] at h2
  subst h2
  simpa using h3
theorem NY {w : Bs} : ∀ {f : Nat} {n : Int} {i : Nat} {m : Int}, JD w 0 f n i = some (m, w.length) → i ≤ w.length →
  digs (w.drop i) ∧ FN n (w.drop i) = m ∧ (∀ k, i ≤ k → 0 < k → k < w.length → byt w 0 ≠ 48) ∧ (i = 0 → w ≠ [])
 | 0, _, _, _, h, _ => by cases h
 | f + 1, n, i, m, h, hi => by
  rw [JD] at h
  split at h
  ·rename_i hd
   split at h
   ·cases h
   rename_i hz
   split at h
   ·cases h
   have hdd : i < w.length ∧ 48 ≤ byt w i ∧ byt w i ≤ 57 := by simpa [isD] using hd
   obtain ⟨hl, hd1, hd2⟩ := hdd
   obtain ⟨h1, h2, h3, _⟩ := NY h (by omega)
   have hb : byt w i = ((w[i].toNat : Nat) : Int) := by unfold byt; rw [getD_eq hl]
   rw [List.drop_eq_getElem_cons hl]
   refine ⟨fun b hb' => ?_, ?_, fun k k1 k2 k3 => ?_, fun _ hw => by rw [hw] at hl; simp at hl⟩
   ·rcases List.mem_cons.1 hb' with rfl | hb'
    ·omega
    ·exact h1 b hb'
   ·rw [FN, ← hb]
    exact h2
   ·by_cases e : k = i
    ·subst e
     intro h48
     exact hz ⟨k2, h48⟩
    ·exact h3 k (by omega) k2 k3
  ·split at h
   ·cases h
   ·rename_i hi0
    cases h
    rw [List.drop_length]
    exact ⟨(by intro b hb; cases hb), rfl, (fun k k1 k2 k3 => absurd k3 (by omega)), (fun h0 hw => hi0 h0)⟩
theorem VD {b : UInt8} {l : Bs} (h : digs (b :: l)) (hb : b.toNat ≠ 48) : 1 ≤ FN 0 (b :: l) := by
 have h1 := h b (List.mem_cons_self ..)
 have := O9 (l := l) (n := 10 * 0 + ((b.toNat : Int) - 48)) (fun c hc => h c (List.mem_cons_of_mem _ hc)) (by omega)
 rw [FN]
 omega
theorem Px : ∀ (k : Nat) (w : Bs), w.length = k → digs w → w ≠ [] → (2 ≤ w.length → byt w 0 ≠ 48) → Lib.decDigits (FN 0 w).toNat = w
 | k, w, hk, hd, hne, h0 => by
  obtain ⟨l, d, rfl⟩ : ∃ l d, w = l ++ [d] := ⟨w.dropLast, w.getLast hne, (List.dropLast_concat_getLast hne).symm⟩
  have hdd := hd d (by simp)
  have hdl : digs l := fun b hb => hd b (by simp [hb])
  rw [M7]
  have hof : ∀ x : Nat, x = d.toNat - 48 → UInt8.ofNat (48 + x) = d := fun x hx => by
   subst hx
   rw [show 48 + (d.toNat - 48) = d.toNat by omega]
   exact UInt8.ofNat_toNat
  show Lib.decDigits (10 * FN 0 l + ((d.toNat : Int) - 48)).toNat = l ++ [d]
  cases l with
  | nil =>
   rw [show FN 0 [] = 0 from rfl, Lib.decDigits, dif_pos (by omega), hof _ (by omega)]
   rfl
  | cons b l =>
   have hb48 : b.toNat ≠ 48 := by
    have := h0 (by simp)
    rw [List.cons_append, B2] at this
    omega
   have hv := VD hdl hb48
   have ih := Px (k - 1) (b :: l) (by rw [List.length_append] at hk; simp at hk ⊢; omega) hdl (by simp) (fun _ => by rw [B2]; omega)
   generalize FN 0 (b :: l) = v at hv ih
   rw [Lib.decDigits, dif_neg (by omega), hof _ (by omega), show (10 * v + ((d.toNat : Int) - 48)).toNat / 10 = v.toNat by omega, ih]
termination_by k => k
decreasing_by
 have : 0 < k := by rw [← hk]; simp
 omega
theorem Tn {w : Bs} {n : Int} (h : HD w = some n) : inC n ∧ B5 n = w := by
 unfold HD at h
 split at h
 ·rename_i hc
  cases h
  unfold Gw P4 at hc ⊢
  dsimp only at hc ⊢
  rw [if_neg (by omega), show ((0 : Int)).toNat = 0 from rfl, if_pos (by omega)] at hc ⊢
  cases hn : JD w 0 (w.length + 1) 0 0 with
  | none => rw [hn] at hc; exact absurd hc.1 (by decide)
  | some r =>
   obtain ⟨m, j⟩ := r
   rw [hn] at hc
   have hj : j = w.length := by
    have := hc.2
    dsimp only [XN] at this
    omega
   subst hj
   have hle := Sk hn (by decide) (by decide) (Nat.le_refl _) (by omega)
   obtain ⟨h1, h2, h3, h4⟩ := NY hn (by omega)
   rw [List.drop_zero] at h1 h2
   show inC m ∧ B5 m = w
   refine ⟨⟨hle.1, hle.2.1⟩, ?_⟩
   rw [LC hle.1 hle.2.1, ← h2]
   exact Px _ w rfl h1 (h4 rfl) fun h => h3 1 (by omega) (by omega) (by omega)
 ·cases h
theorem P6 {n : Int} (h : inC n) : HD (B5 n) = some n := by
 have := U7 [] [] n.toNat (by have := h.2; omega) rfl
 rw [List.nil_append, List.append_nil, ← LC h.1 h.2] at this
 unfold HD
 rw [show ((([] : Bs).length : Nat) : Int) = 0 from rfl] at this
 rw [this, if_pos]
 ·have := h.1
  rw [show ((n.toNat : Nat) : Int) = n by omega]
 ·rw [LC h.1 h.2]
  simp
end Go.VS
