/- Numbers in texts; bytes. -/
import Derived.Test.YtcaandgkdmidkaaDoorKSpMod
set_option linter.unusedVariables false
set_option linter.unusedSimpArgs false
namespace Go.VS
variable {P : Pg}
abbrev Bs := List UInt8
def byt (s : Bs) (a : Nat) : Int := ((UInt8.toNat (List.getD s a 0) : Nat) : Int)
theorem Gq (s : Bs) (a : Nat) : 0 ≤ byt s a ∧ byt s a ≤ 255 := by
 unfold byt
 have := UInt8.toNat_lt (List.getD s a 0)
 omega
def isc (s : Bs) (a : Nat) (c : Int) : Bool := decide (a < s.length) && (byt s a == c)
theorem PU {s : Bs} {a : Nat} {c : Int} : isc s a c = true ↔ a < s.length ∧ byt s a = c := by simp [isc]
theorem Tf {s : Bs} {a : Nat} {c : Int} : isc s a c = false ↔ ¬ (a < s.length ∧ byt s a = c) := by
 rw [← PU]; simp
def isD (s : Bs) (a : Nat) : Bool := decide (a < s.length) && (decide (48 ≤ byt s a) && decide (byt s a ≤ 57))
def JD (s : Bs) (a0 : Nat) : Nat → Int → Nat → Option (Int × Nat)
 | 0, _, _ => none
 | f + 1, n, i => if isD s i = true then (if i > a0 ∧ byt s a0 = 48 then none else if 10 * n + (byt s i - 48) > 2147483647 then none else JD s a0 f (10 * n + (byt s i - 48)) (i + 1)) else if i = a0 then none else some (n, i)
def P4 (s : Bs) (a : Nat) : Option (Int × Nat) := if a ≤ s.length then JD s a (s.length + 1) 0 a else none
def XN : Option (Int × Nat) → Int × (Int × Bool)
 | none => (0, (0, false))
 | some (n, i) => (n, ((i : Int), true))
theorem Sk {s : Bs} {a0 : Nat} : ∀ {f : Nat} {n : Int} {i : Nat} {m : Int} {j : Nat}, JD s a0 f n i = some (m, j) → 0 ≤ n → n ≤ 2147483647 → a0 ≤ i → i ≤ s.length → 0 ≤ m ∧ m ≤ 2147483647 ∧ a0 < j ∧ i ≤ j ∧ j ≤ s.length
 | 0, _, _, _, _, h, _, _, _, _ => by simp [JD] at h
 | f + 1, n, i, m, j, h, n0, n1, hi, hl => by
  rw [JD] at h
  have hb := Gq s i
  split at h
  ·rename_i hd
   simp only [isD, Bool.and_eq_true, decide_eq_true_eq] at hd
   split at h
   ·cases h
   split at h
   ·cases h
   have := Sk h (by omega) (by omega) (by omega) (by omega)
   omega
  ·split at h
   ·cases h
   cases h
   omega
def ZI (P : Pg) : Prop := ∀ x : Bs × Int, x.1.length ≤ 140737488351232 → Fn P VL YH x fun d _ => d = if x.2 < 0 then (0, (0, false)) else XN (P4 x.1 x.2.toNat)
theorem AbH (h : Has P Y7) : ZI P := by
 rintro ⟨s, a⟩ hl
 dsimp only at hl
 refine Aat h ?_
 unfold ZU
 dsimp only
 refine ⟨fun hc => ?_, fun hc => ?_⟩
 ·rw [Bool.cond_eq_ite] at hc
  split at hc
  ·rename_i h1
   rw [if_pos (of_decide_eq_true h1)]
  ·rename_i h1
   have h2 := of_decide_eq_true hc
   split
   ·rfl
   ·unfold P4
    rw [if_neg (by omega)]
    rfl
 have hr : 0 ≤ a ∧ a ≤ (s.length : Int) := by
  rw [Bool.cond_eq_ite] at hc
  split at hc
  ·cases hc
  ·rename_i h1
   have h2 := of_decide_eq_false hc
   simp at h1
   omega
 rw [if_neg (by omega)]
 refine Ao.mid (fun d => XN (P4 s a.toNat) = if d.2.2.2.2 = a then (0, (0, false)) else (d.2.2.2.1, (d.2.2.2.2, true))) ?_ ?_
 ·refine Dm.of (fun d => a ≤ d.2.2.2.2 ∧ d.2.2.2.2 ≤ s.length ∧ 0 ≤ d.2.2.2.1 ∧ d.2.2.2.1 ≤ 2147483647 ∧ ∃ f, s.length + 1 - d.2.2.2.2.toNat ≤ f ∧ P4 s a.toNat = JD s a.toNat f d.2.2.2.1 d.2.2.2.2.toNat) (fun d => (s.length - d.2.2.2.2).toNat) ?_ ?_
  ·dsimp only
   refine ⟨Int.le_refl _, by omega, by omega, by omega, s.length + 1, by omega, ?_⟩
   unfold P4
   rw [if_pos (by omega)]
  ·rintro ⟨q1, q2, q3, n, i⟩ ⟨i0, i1, n0, n1, f, hf, e⟩
   dsimp only at i0 i1 n0 n1 hf e ⊢
   cases f with
   | zero => omega
   | succ f =>
   rw [JD] at e
   have hb := Gq s i.toNat
   have hbi : ((UInt8.toNat (List.getD s (Int.toNat i) 0) : Nat) : Int) = byt s i.toNat := rfl
   have hba : ((UInt8.toNat (List.getD s (Int.toNat a) 0) : Nat) : Int) = byt s a.toNat := rfl
   have hcd : (cond (cond (decide (i < (s.length : Int))) (decide (byt s i.toNat ≥ 48)) false) (decide (byt s i.toNat ≤ 57)) false) = isD s i.toNat := by
    unfold isD
    by_cases h1 : i < (s.length : Int)
    ·have h2 : i.toNat < s.length := by omega
     simp [h1, h2]
    ·have h2 : ¬ i.toNat < s.length := by omega
     simp [h1, h2]
   rw [hbi, hba, hcd]
   refine ⟨fun hc => ⟨by omega, of_decide_eq_true hc⟩, fun hc => ?_, fun hc => ?_, fun hc => ?_⟩
   ·rw [Bool.cond_eq_ite] at hc
    split at hc
    ·rename_i h1; exact ⟨by omega, of_decide_eq_true h1⟩
    ·cases hc
   ·rw [hc, if_pos rfl] at e
    have hd := hc
    simp only [isD, Bool.and_eq_true, decide_eq_true_eq] at hd
    refine Ao.of ⟨fun h1 => ⟨by omega, by have := of_decide_eq_true h1; omega⟩, fun h1 => ?_, fun h1 => ⟨⟨by omega, by omega⟩, ?_⟩⟩
    ·rw [Bool.cond_eq_ite] at h1
     split at h1
     ·rename_i h2
      have h2 := of_decide_eq_true h2
      rw [if_pos ⟨by omega, by simpa using h1⟩] at e
      rw [e]; rfl
     ·cases h1
    ·have hn : ¬ (i.toNat > a.toNat ∧ byt s a.toNat = 48) := by
      rintro ⟨h2, h3⟩
      have h4 : decide (i > a) = true := decide_eq_true (by omega)
      rw [h4] at h1
      simp [h3] at h1
     rw [if_neg hn] at e
     have ew : IntKind.u8.wrap (byt s i.toNat - 48) = byt s i.toNat - 48 := wu8 (by omega) (by omega)
     rw [ew, w64 (n := byt s i.toNat - 48) (by omega) (by omega), w64 (n := 10 * n) (by omega) (by omega), w64 (n := 10 * n + (byt s i.toNat - 48)) (by omega) (by omega)]
     refine ⟨fun h2 => ?_, fun h2 => ?_⟩
     ·rw [if_pos (of_decide_eq_true h2)] at e
      rw [e]; rfl
     ·have h2 := of_decide_eq_false h2
      rw [if_neg h2] at e
      rw [w64 (n := i + 1) (by omega) (by omega)]
      dsimp only
      refine ⟨⟨by omega, by omega, by omega, by omega, f, by omega, ?_⟩, by omega⟩
      rw [e, show (i + 1).toNat = i.toNat + 1 by omega]
   ·rw [hc, if_neg (by simp)] at e
    rw [e]
    by_cases h1 : i = a
    ·rw [if_pos (by omega), if_pos h1]; rfl
    ·rw [if_neg (by omega), if_neg h1]
     show (n, ((i.toNat : Int), true)) = _
     rw [show (i.toNat : Int) = i by omega]
 ·rintro ⟨q1, q2, q3, n, i⟩ e
  dsimp only at e ⊢
  rw [e]
  refine ⟨fun hc => ?_, fun hc => ?_⟩
  ·rw [if_pos (by simpa using hc)]
  ·rw [if_neg (by simpa using hc)]
end Go.VS
