/- The document's search. -/
import Derived.Test.YtobddjdmgebmgaaKSpEnds
set_option linter.unusedVariables false
set_option linter.unusedSimpArgs false
namespace Go.VS
variable {P : Program}
structure Fnd (a : Auto) (s : List UInt8) (p i j : Nat) : Prop where
 ge : p ≤ i
 le : i ≤ s.length
 is : acc a s i j
 first : ∀ i' j', p ≤ i' → acc a s i' j' → i' ≤ s.length → i ≤ i'
 long : ∀ j', acc a s i j' → j' ≤ j
def NotFnd (a : Auto) (s : List UInt8) (p : Nat) : Prop := ∀ i j, p ≤ i → i ≤ s.length → ¬ acc a s i j
theorem Fnd.not {a : Auto} {s : List UInt8} {p i j : Nat} (h : Fnd a s p i j) : ¬ NotFnd a s p := fun n => n i j h.ge h.le h.is
def FndIs (a : Auto) (s : List UInt8) (p : Nat) (d : Int × Int) (ok : Bool) : Prop := (ok = true ∧ ∃ i j : Nat, d = ((i : Int), (j : Int)) ∧ Fnd a s p i j) ∨ (ok = false ∧ d = (0, 0) ∧ NotFnd a s p)
end Go.VS
