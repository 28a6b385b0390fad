/- The document's search. -/
import Derived.Test.YtobddjdmgebmgaaKSpEnds
set_option linter.unusedVariables false
set_option linter.unusedSimpArgs false
set_option linter.unusedSectionVars false
namespace Go.VS
variable {P : Program}

/-- The first match from an offset on, the longest of several; or none. -/
structure Fnd (a : Auto) (s : List UInt8) (p i j : Nat) : Prop where
  ge : p ≤ i
  le : i ≤ s.length
  is : acc a s i j
  first : ∀ i' j', p ≤ i' → acc a s i' j' → i' ≤ s.length → i ≤ i'
  long : ∀ j', acc a s i j' → j' ≤ j
def NotFnd (a : Auto) (s : List UInt8) (p : Nat) : Prop := ∀ i j, p ≤ i → i ≤ s.length → ¬ acc a s i j
theorem Fnd.not {a : Auto} {s : List UInt8} {p i j : Nat} (h : Fnd a s p i j) : ¬ NotFnd a s p := fun n => n i j h.ge h.le h.is
theorem Fnd.uniq {a : Auto} {s : List UInt8} {p i j i' j' : Nat} (h : Fnd a s p i j) (k : Fnd a s p i' j') : i = i' ∧ j = j' := by
  have e : i = i' := Nat.le_antisymm (h.first _ _ k.ge k.is k.le) (k.first _ _ h.ge h.is h.le)
  subst e
  exact ⟨rfl, Nat.le_antisymm (k.long _ h.is) (h.long _ k.is)⟩
/-- What is found is said so. -/
def FndIs (a : Auto) (s : List UInt8) (p : Nat) (d : Int × Int) (ok : Bool) : Prop := (ok = true ∧ ∃ i j : Nat, d = ((i : Int), (j : Int)) ∧ Fnd a s p i j) ∨ (ok = false ∧ d = (0, 0) ∧ NotFnd a s p)
theorem FndIs.uniq {a : Auto} {s : List UInt8} {p : Nat} {d d' : Int × Int} {ok ok' : Bool} (h : FndIs a s p d ok) (k : FndIs a s p d' ok') : d = d' ∧ ok = ok' := by
  rcases h with ⟨rfl, i, j, rfl, h⟩ | ⟨rfl, rfl, h⟩ <;> rcases k with ⟨rfl, i', j', rfl, k⟩ | ⟨rfl, rfl, k⟩
  · obtain ⟨rfl, rfl⟩ := h.uniq k; exact ⟨rfl, rfl⟩
  · exact (h.not k).elim
  · exact (k.not h).elim
  · exact ⟨rfl, rfl⟩

abbrev FindIn := Auto × (List UInt8 × Int)
/-- What both Finds answer. -/
def FindPost (x : FindIn) (d : (Int × Int) × (Bool × Int)) : Prop :=
  (¬ Valid x.1 → d = ((0, 0), (false, 2))) ∧ (Valid x.1 → (¬ (0 ≤ x.2.2 ∧ x.2.2 ≤ x.2.1.length) → d = ((0, 0), (false, 3))) ∧ ((0 ≤ x.2.2 ∧ x.2.2 ≤ x.2.1.length) → d.2.2 = 0 ∧ FndIs x.1 x.2.1 x.2.2.toNat d.1 d.2.1))
theorem FindPost.uniq {x : FindIn} {d d' : (Int × Int) × (Bool × Int)} (h : FindPost x d) (k : FindPost x d') : d = d' := by
  by_cases v : Valid x.1
  · by_cases r : 0 ≤ x.2.2 ∧ x.2.2 ≤ x.2.1.length
    · obtain ⟨h1, h2⟩ := (h.2 v).2 r
      obtain ⟨k1, k2⟩ := (k.2 v).2 r
      obtain ⟨e1, e2⟩ := h2.uniq k2
      obtain ⟨d1, d2, d3⟩ := d
      obtain ⟨d1', d2', d3'⟩ := d'
      dsimp only at h1 k1 e1 e2
      subst h1 k1 e1 e2
      rfl
    · rw [(h.2 v).1 r, (k.2 v).1 r]
  · rw [h.1 v, k.1 v]

end Go.VS
