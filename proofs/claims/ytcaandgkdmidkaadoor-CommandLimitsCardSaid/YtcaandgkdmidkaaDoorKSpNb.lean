/- Numbers in texts; bytes. -/
import Derived.Test.YtcaandgkdmidkaaDoorKSpBase
import Derived.Test.YtcaandgkdmidkaaDoorKGf0
set_option linter.unusedVariables false
set_option linter.unusedSimpArgs false
namespace Go.VS
variable {P : Pg}
abbrev Bs := List UInt8
def byt (s : Bs) (a : Nat) : Int := ((UInt8.toNat (List.getD s a 0) : Nat) : Int)
theorem Gq (s : Bs) (a : Nat) : 0 ≤ byt s a ∧ byt s a ≤ 255 := by
 unfold byt
 have := UInt8.toNat_lt (List.getD s a 0)
 omega
def isc (s : Bs) (a : Nat) (c : Int) : Bool := decide (a < s.length) && (byt s a == c)
theorem PU {s : Bs} {a : Nat} {c : Int} : isc s a c = true ↔ a < s.length ∧ byt s a = c := by simp [isc]
theorem Tf {s : Bs} {a : Nat} {c : Int} : isc s a c = false ↔ ¬ (a < s.length ∧ byt s a = c) := by
 rw [← PU]; simp
def isD (s : Bs) (a : Nat) : Bool := decide (a < s.length) && (decide (48 ≤ byt s a) && decide (byt s a ≤ 57))
def JD (s : Bs) (a0 : Nat) : Nat → Int → Nat → Option (Int × Nat)
 | 0, _, _ => none
 | f + 1, n, i => if isD s i = true then (if i > a0 ∧ byt s a0 = 48 then none else if 10 * n + (byt s i - 48) > 2147483647 then none else JD s a0 f (10 * n + (byt s i - 48)) (i + 1)) else if i = a0 then none else some (n, i)
def P4 (s : Bs) (a : Nat) : Option (Int × Nat) := if a ≤ s.length then JD s a (s.length + 1) 0 a else none
def XN : Option (Int × Nat) → Int × (Int × Bool)
 | none => (0, (0, false))
 | some (n, i) => (n, ((i : Int), true))
theorem Sk {s : Bs} {a0 : Nat} : ∀ {f : Nat} {n : Int} {i : Nat} {m : Int} {j : Nat}, JD s a0 f n i = some (m, j) → 0 ≤ n → n ≤ 2147483647 → a0 ≤ i → i ≤ s.length → 0 ≤ m ∧ m ≤ 2147483647 ∧ a0 < j ∧ i ≤ j ∧ j ≤ s.length
 | 0, _, _, _, _, h, _, _, _, _ => by simp [JD] at h
 | f + 1, n, i, m, j, h, n0, n1, hi, hl => by
  rw [JD] at h
  have hb := Gq s i
  split at h
  ·rename_i hd
   simp only [isD, Bool.and_eq_true, decide_eq_true_eq] at hd
   split at h
   ·cases h
   split at h
   ·cases h
   have := Sk h (by omega) (by omega) (by omega) (by omega)
   omega
  ·split at h
   ·cases h
   cases h
   omega
end Go.VS
