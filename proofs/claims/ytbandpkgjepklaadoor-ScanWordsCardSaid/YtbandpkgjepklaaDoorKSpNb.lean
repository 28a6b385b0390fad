/- Numbers in texts; bytes. -/
import Derived.Test.YtbandpkgjepklaaDoorKSpMod
set_option linter.unusedVariables false
set_option linter.unusedSimpArgs false
namespace Go.VS
variable {P : Program}
abbrev Bs := List UInt8
def byt (s : Bs) (a : Nat) : Int := ((UInt8.toNat (List.getD s a 0) : Nat) : Int)
theorem byt_range (s : Bs) (a : Nat) : 0 ≤ byt s a ∧ byt s a ≤ 255 := by
 unfold byt
 have := UInt8.toNat_lt (List.getD s a 0)
 omega
def isc (s : Bs) (a : Nat) (c : Int) : Bool := decide (a < s.length) && (byt s a == c)
theorem isc_true {s : Bs} {a : Nat} {c : Int} : isc s a c = true ↔ a < s.length ∧ byt s a = c := by simp [isc]
theorem isc_false {s : Bs} {a : Nat} {c : Int} : isc s a c = false ↔ ¬ (a < s.length ∧ byt s a = c) := by
 rw [← isc_true]; simp
def isD (s : Bs) (a : Nat) : Bool := decide (a < s.length) && (decide (48 ≤ byt s a) && decide (byt s a ≤ 57))
def numN (s : Bs) (a0 : Nat) : Nat → Int → Nat → Option (Int × Nat)
 | 0, _, _ => none
 | f + 1, n, i => if isD s i = true then (if i > a0 ∧ byt s a0 = 48 then none else if 10 * n + (byt s i - 48) > 2147483647 then none else numN s a0 f (10 * n + (byt s i - 48)) (i + 1)) else if i = a0 then none else some (n, i)
def numF (s : Bs) (a : Nat) : Option (Int × Nat) := if a ≤ s.length then numN s a (s.length + 1) 0 a else none
def numX : Option (Int × Nat) → Int × (Int × Bool)
 | none => (0, (0, false))
 | some (n, i) => (n, ((i : Int), true))
end Go.VS
