/- Bars: plain arithmetic. -/
import Derived.Test.YtcaandgkdmidkaaDoorKSpBase
set_option linter.unusedVariables false
set_option linter.unusedSimpArgs false
namespace Go.VS
def scl (n most width : Int) : Int := if n = 0 then 0 else 1 + n * (width - 1) / most
def GN (a r most width : Int) : Int := if a > 0 ∧ r > 0 ∧ scl (a + r) most width < 2 then 2 else scl (a + r) most width
def Cz (a r most width : Int) : Int × Int :=
 if most ≤ width then (a, r)
 else if a ≤ r then (scl a most width, GN a r most width - scl a most width) else (GN a r most width - scl r most width, scl r most width)
theorem EH {n most width : Int} (h0 : 0 ≤ n) (h1 : n ≤ most) (hm : 0 < most) (hw : 2 ≤ width) : 0 ≤ scl n most width ∧ scl n most width ≤ width ∧ (scl n most width = 0 ↔ n = 0) := by
 unfold scl
 split
 ·rename_i h
  exact ⟨by omega, by omega, fun _ => h, fun _ => rfl⟩
 ·rename_i h
  have e0 : 0 ≤ n * (width - 1) / most := Int.ediv_nonneg (Int.mul_nonneg h0 (by omega)) (by omega)
  have e1 : n * (width - 1) / most ≤ width - 1 := by
   have : n * (width - 1) ≤ most * (width - 1) := Int.mul_le_mul_of_nonneg_right h1 (by omega)
   have h2 := Int.ediv_le_ediv hm this
   rw [Int.mul_ediv_cancel_left _ (by omega)] at h2
   exact h2
  exact ⟨by omega, by omega, fun hh => by omega, fun hh => absurd hh h⟩
theorem OM {a r most width : Int} (h0 : 0 < a) (h1 : a ≤ r) (hm : 0 < most) (hw : 2 ≤ width) : 2 * scl a most width ≤ scl (a + r) most width + 1 := by
 unfold scl
 rw [if_neg (by omega), if_neg (by omega)]
 have e1 : 2 * (a * (width - 1) / most) ≤ (a + r) * (width - 1) / most := by
  refine Int.le_ediv_of_mul_le hm ?_
  have h2 : a * (width - 1) / most * most ≤ a * (width - 1) := Int.ediv_mul_le _ (by omega)
  have h3 : (a + a) * (width - 1) ≤ (a + r) * (width - 1) := Int.mul_le_mul_of_nonneg_right (by omega) (by omega)
  have h4 : (a + a) * (width - 1) = 2 * (a * (width - 1)) := by rw [Int.add_mul]; omega
  have h5 : 2 * (a * (width - 1) / most) * most = 2 * (a * (width - 1) / most * most) := by rw [Int.mul_assoc]
  omega
 omega
theorem Nc {a b most width : Int} (h0 : 0 ≤ a) (h1 : a ≤ b) (hm : 0 < most) (hw : 2 ≤ width) : scl a most width ≤ scl b most width := by
 unfold scl
 split
 ·split
  ·exact Int.le_refl _
  ·have e0 : 0 ≤ b * (width - 1) / most := Int.ediv_nonneg (Int.mul_nonneg (by omega) (by omega)) (by omega)
   omega
 ·rename_i h
  rw [if_neg (by omega)]
  have := Int.ediv_le_ediv hm (Int.mul_le_mul_of_nonneg_right h1 (show 0 ≤ width - 1 by omega))
  omega
theorem QT {a r most width : Int} (ha : 0 ≤ a) (hr : 0 ≤ r) (h : a + r ≤ most) (hw : 2 ≤ width) (hm : width < most) :
  (Cz a r most width).1 + (Cz a r most width).2 ≤ width ∧ ((Cz a r most width).1 > 0 ↔ a > 0) ∧ ((Cz a r most width).2 > 0 ↔ r > 0) ∧ 0 ≤ (Cz a r most width).1 ∧ 0 ≤ (Cz a r most width).2 := by
 have hsum := EH (n := a + r) (by omega) h (by omega) hw
 have hA := EH (n := a) ha (by omega) (by omega : 0 < most) hw
 have hR := EH (n := r) hr (by omega) (by omega : 0 < most) hw
 have mA := Nc (a := a) (b := a + r) (most := most) ha (by omega) (by omega) hw
 have mR := Nc (a := r) (b := a + r) (most := most) hr (by omega) (by omega) hw
 unfold Cz
 rw [if_neg (by omega)]
 unfold GN
 by_cases hle : a ≤ r
 ·rw [if_pos hle]
  dsimp only
  by_cases ha0 : a > 0
  ·have := OM ha0 hle (by omega : 0 < most) hw
   split <;> refine ⟨?_, ⟨?_, ?_⟩, ⟨?_, ?_⟩, ?_, ?_⟩ <;> omega
  ·rw [if_neg (by omega)]
   refine ⟨?_, ⟨?_, ?_⟩, ⟨?_, ?_⟩, ?_, ?_⟩ <;> omega
 ·rw [if_neg hle]
  dsimp only
  by_cases hr0 : r > 0
  ·have := OM (a := r) (r := a) hr0 (by omega) (by omega : 0 < most) hw
   rw [show r + a = a + r by omega] at this
   split <;> refine ⟨?_, ⟨?_, ?_⟩, ⟨?_, ?_⟩, ?_, ?_⟩ <;> omega
  ·rw [if_neg (by omega)]
   refine ⟨?_, ⟨?_, ?_⟩, ⟨?_, ?_⟩, ?_, ?_⟩ <;> omega
end Go.VS
