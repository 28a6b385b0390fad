/- Whole, Any, Find, All: the program's and the document's. -/
import Derived.Test.YtobddjdmgebmgaaKSpFind
set_option linter.unusedVariables false
set_option linter.unusedSimpArgs false
set_option linter.unusedSectionVars false
namespace Go.VS
variable {P : Program}

abbrev TextIn := Auto × List UInt8
inductive AllFrom (a : Auto) (s : List UInt8) : Nat → List (Int × Int) → Prop
  | stop {p : Nat} (h : s.length < p) : AllFrom a s p []
  | none {p : Nat} (h : p ≤ s.length) (n : NotFnd a s p) : AllFrom a s p []
  | next {p i j : Nat} {l : List (Int × Int)} (h : p ≤ s.length) (f : Fnd a s p i j) (t : AllFrom a s (if j = i then j + 1 else j) l) : AllFrom a s p (((i : Int), (j : Int)) :: l)
theorem AllFrom.uniq {a : Auto} {s : List UInt8} {p : Nat} {l m : List (Int × Int)} (h : AllFrom a s p l) (k : AllFrom a s p m) : l = m := by
  induction h generalizing m with
  | stop h =>
    cases k with
    | stop => rfl
    | none => rfl
    | next h2 f t => omega
  | none h n =>
    cases k with
    | stop => rfl
    | none => rfl
    | next h2 f t => exact (f.not n).elim
  | next h f t ih =>
    cases k with
    | stop h2 => omega
    | none h2 n => exact (f.not n).elim
    | next h2 f2 t2 =>
      obtain ⟨rfl, rfl⟩ := f.uniq f2
      rw [ih t2]
def AllPost (x : TextIn) (d : List (Int × Int) × Int) : Prop := (¬ Valid x.1 → d = ([], 2)) ∧ (Valid x.1 → d.2 = 0 ∧ AllFrom x.1 x.2 0 d.1)
theorem AllPost.uniq {x : TextIn} {d d' : List (Int × Int) × Int} (h : AllPost x d) (k : AllPost x d') : d = d' := by
  by_cases v : Valid x.1
  · obtain ⟨h1, h2⟩ := h.2 v
    obtain ⟨k1, k2⟩ := k.2 v
    obtain ⟨d1, d2⟩ := d
    obtain ⟨d1', d2'⟩ := d'
    dsimp only at h1 h2 k1 k2
    subst h1 k1
    rw [h2.uniq k2]
  · rw [h.1 v, k.1 v]

/-- Is there a match? -/
def AnyPost (x : TextIn) (d : Bool × Int) : Prop := (¬ Valid x.1 → d = (false, 2)) ∧ (Valid x.1 → d.2 = 0 ∧ (d.1 = true ↔ ¬ NotFnd x.1 x.2 0))
theorem boolUniq {b c : Bool} {p : Prop} (h : b = true ↔ p) (k : c = true ↔ p) : b = c := by rw [Bool.eq_iff_iff]; exact h.trans k.symm
theorem AnyPost.uniq {x : TextIn} {d d' : Bool × Int} (h : AnyPost x d) (k : AnyPost x d') : d = d' := by
  by_cases v : Valid x.1
  · obtain ⟨h1, h2⟩ := h.2 v
    obtain ⟨k1, k2⟩ := k.2 v
    obtain ⟨d1, d2⟩ := d
    obtain ⟨d1', d2'⟩ := d'
    dsimp only at h1 h2 k1 k2
    subst h1 k1
    rw [boolUniq h2 k2]
  · rw [h.1 v, k.1 v]
/-- Is the whole text a match? -/
def WholePost (x : TextIn) (d : Bool × Int) : Prop := (¬ Valid x.1 → d = (false, 2)) ∧ (Valid x.1 → d.2 = 0 ∧ (d.1 = true ↔ acc x.1 x.2 0 x.2.length))
theorem WholePost.uniq {x : TextIn} {d d' : Bool × Int} (h : WholePost x d) (k : WholePost x d') : d = d' := by
  by_cases v : Valid x.1
  · obtain ⟨h1, h2⟩ := h.2 v
    obtain ⟨k1, k2⟩ := k.2 v
    obtain ⟨d1, d2⟩ := d
    obtain ⟨d1', d2'⟩ := d'
    dsimp only at h1 h2 k1 k2
    subst h1 k1
    rw [boolUniq h2 k2]
  · rw [h.1 v, k.1 v]
end Go.VS
