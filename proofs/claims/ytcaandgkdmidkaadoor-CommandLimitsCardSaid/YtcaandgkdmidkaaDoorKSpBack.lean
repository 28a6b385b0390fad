/- Numbers read back. -/
import Derived.Test.YtcaandgkdmidkaaDoorKSpFmt
import Derived.Test.YtcaandgkdmidkaaDoorKSpWrd
set_option linter.unusedVariables false
set_option linter.unusedSimpArgs false
namespace Go.VS
variable {P : Pg}
theorem Lx (p r : Bs) (k : Nat) : byt (p ++ r) (p.length + k) = byt r k := by
 unfold byt
 rw [List.getD_eq_getElem?_getD, List.getD_eq_getElem?_getD, List.getElem?_append_right (by omega), show p.length + k - p.length = k by omega]
theorem Fm (p r : Bs) : byt (p ++ r) p.length = byt r 0 := Lx p r 0
theorem L0 (p r : Bs) {k : Nat} (h : k < p.length) : byt (p ++ r) k = byt p k := by
 unfold byt
 rw [List.getD_eq_getElem?_getD, List.getD_eq_getElem?_getD, List.getElem?_append_left h]
theorem B2 (b : UInt8) (r : Bs) : byt (b :: r) 0 = b.toNat := by simp [byt]
theorem HY (b : UInt8) (r : Bs) (k : Nat) : byt (b :: r) (k + 1) = byt r k := by simp [byt]
theorem Sa (p r : Bs) : isD (p ++ r) p.length = isD r 0 := by
 unfold isD
 rw [Fm, List.length_append]
 congr 1
 by_cases h : 0 < r.length
 ·simp [h]
 ·simp [h]
def digs (l : Bs) : Prop := ∀ b ∈ l, 48 ≤ b.toNat ∧ b.toNat ≤ 57
def FN : Int → Bs → Int
 | n, [] => n
 | n, b :: l => FN (10 * n + ((b.toNat : Int) - 48)) l
theorem O9 : ∀ {l : Bs} {n : Int}, digs l → 0 ≤ n → n ≤ FN n l
 | [], n, _, _ => Int.le_refl _
 | b :: l, n, h, h0 => by
  have hb := h b (by simp)
  have := O9 (l := l) (n := 10 * n + ((b.toNat : Int) - 48)) (fun c hc => h c (by simp [hc])) (by omega)
  rw [FN]
  omega
theorem M7 : ∀ (l m : Bs) (n : Int), FN n (l ++ m) = FN (FN n l) m
 | [], _, _ => rfl
 | _ :: l, m, _ => M7 l m _
theorem P5 : ∀ (ds p r : Bs) (a0 f : Nat) (n : Int), digs ds → isD r 0 = false → ds.length < f → 0 ≤ n → FN n ds ≤ 2147483647 → (p.length = a0 → ds ≠ []) → a0 ≤ p.length →
  (ds ≠ [] → p.length > a0 → byt (p ++ (ds ++ r)) a0 ≠ 48) → (2 ≤ ds.length → byt (p ++ (ds ++ r)) a0 ≠ 48) → JD (p ++ (ds ++ r)) a0 f n p.length = some (FN n ds, p.length + ds.length)
 | [], p, r, a0, f + 1, n, _, hr, _, _, _, h1, h2, _, _ => by
  rw [JD, Sa, List.nil_append, hr, if_neg (by simp), if_neg (fun h => h1 h rfl)]
  rfl
 | b :: ds, p, r, a0, f + 1, n, hd, hr, hf, h0, hm, h1, h2, h3, h4 => by
  have hb := hd b (by simp)
  have hds : digs ds := fun c hc => hd c (by simp [hc])
  have hby : byt (p ++ (b :: ds ++ r)) p.length = b.toNat := by rw [Fm, List.cons_append, B2]
  have hD : isD (p ++ (b :: ds ++ r)) p.length = true := by
   rw [Sa]
   unfold isD
   rw [List.cons_append, B2]
   simp
   omega
  have hge := O9 (n := 10 * n + ((b.toNat : Int) - 48)) hds (by omega)
  rw [FN] at hm
  rw [JD, hD, if_pos rfl, hby, if_neg (fun h => h3 (by simp) h.1 h.2), if_neg (by omega)]
  have e : p ++ (b :: ds ++ r) = (p ++ [b]) ++ (ds ++ r) := by simp
  have el : p.length + 1 = (p ++ [b]).length := by simp
  rw [e] at h4 ⊢
  rw [el, P5 ds (p ++ [b]) r a0 f _ hds hr (by simp at hf; omega) (by omega) hm (by simp; omega) (by simp; omega) (fun hne _ => h4 (by
   have := List.length_pos_iff.2 hne
   simp; omega)) (fun h => h4 (by simp; omega))]
  simp [FN]
  omega
 | _, _, _, _, 0, _, _, _, hf, _, _, _, _, _, _ => absurd hf (by omega)
theorem Sl : ∀ k : Nat, k < 10 → (UInt8.ofNat (48 + k)).toNat = 48 + k := by decide
theorem QY : ∀ m u : Nat, u < m → digs (Lib.decDigits u) ∧ FN 0 (Lib.decDigits u) = u ∧ Lib.decDigits u ≠ [] ∧ (1 ≤ u → byt (Lib.decDigits u) 0 ≠ 48) ∧ (u < 10 → (Lib.decDigits u).length = 1)
 | 0, u, h => absurd h (by omega)
 | m + 1, u, h => by
  rw [Lib.decDigits]
  split
  ·rename_i hu
   have e := Sl u hu
   refine ⟨fun b hb => ?_, ?_, by simp, fun h1 => ?_, fun _ => rfl⟩
   ·rw [List.mem_singleton.1 hb, e]; omega
   ·rw [FN, FN, e]; omega
   ·rw [B2, e]; omega
  ·rename_i hu
   obtain ⟨h1, h2, h3, h4, _⟩ := QY m (u / 10) (by omega)
   have e := Sl (u % 10) (by omega)
   refine ⟨fun b hb => ?_, ?_, by simp, fun _ => ?_, fun h => absurd h hu⟩
   ·rcases List.mem_append.1 hb with hb | hb
    ·exact h1 b hb
    ·rw [List.mem_singleton.1 hb, e]; omega
   ·rw [M7, h2, FN, FN, e]; omega
   ·rw [L0 _ _ (List.length_pos_iff.2 h3)]
    exact h4 (by omega)
theorem U7 (p r : Bs) (u : Nat) (hu : u ≤ 2147483647) (hr : isD r 0 = false) : Gw (p ++ (Lib.decDigits u ++ r), (p.length : Int)) = ((u : Int), (((p.length + (Lib.decDigits u).length : Nat) : Int), true)) := by
 obtain ⟨h1, h2, h3, h4, h5⟩ := QY (u + 1) u (by omega)
 unfold Gw P4
 dsimp only
 rw [if_neg (by omega), show ((p.length : Nat) : Int).toNat = p.length by omega, if_pos (by simp)]
 have hpos := List.length_pos_iff.2 h3
 rw [P5 (Lib.decDigits u) p r p.length _ 0 h1 hr (by simp; omega) (by omega) (by rw [h2]; omega) (fun _ => h3) (Nat.le_refl _) (fun _ h => absurd h (by omega)) (fun h => ?_), h2]
 ·rfl
 ·rw [Fm, L0 _ _ hpos]
  refine h4 ?_
  by_cases h1 : 1 ≤ u
  ·exact h1
  ·have := h5 (by omega)
   omega
theorem LC {n : Int} (h0 : 0 ≤ n) (h1 : n ≤ 2147483647) : B5 n = Lib.decDigits n.toNat := by
 unfold B5
 rw [if_neg (by omega)]
end Go.VS
