/- Which states are reached without reading; the document's closure. -/
import Derived.Test.YtobddjdmgebmgaaKSpAut
set_option linter.unusedVariables false
set_option linter.unusedSimpArgs false
set_option linter.unusedSectionVars false
namespace Go.VS
variable {P : Program}

def epsR (A : List State) (st en : Bool) (i j : Nat) : Prop :=
  ((A.getD i zState).1 = 1 ∧ (j = (A.getD i zState).2.2.1.toNat ∨ j = (A.getD i zState).2.2.2.toNat)) ∨ ((A.getD i zState).1 = 2 ∧ st = true ∧ j = (A.getD i zState).2.2.1.toNat) ∨ ((A.getD i zState).1 = 3 ∧ en = true ∧ j = (A.getD i zState).2.2.1.toNat)
inductive Rch (A : List State) (st en : Bool) : Nat → Nat → Prop
  | refl (i : Nat) : Rch A st en i i
  | tail {i j k : Nat} (h : Rch A st en i j) (e : epsR A st en j k) : Rch A st en i k
theorem Rch.trans {A : List State} {st en : Bool} {i j k : Nat} (h : Rch A st en i j) (h2 : Rch A st en j k) : Rch A st en i k := by
  induction h2 with
  | refl => exact h
  | tail _ e ih => exact ih.tail e
/-- The steps stay among the states. -/
def OkL (A : List State) : Prop := ∀ i, i < A.length → okState A.length (A.getD i zState)
theorem eps_lt {A : List State} (h : OkL A) {st en : Bool} {i j : Nat} (hi : i < A.length) (e : epsR A st en i j) : j < A.length := by
  obtain ⟨h1, h2, h3, h4⟩ := h i hi
  rcases e with ⟨k, rfl | rfl⟩ | ⟨k, _, rfl⟩ | ⟨k, _, rfl⟩
  · have := h3 (by omega); omega
  · have := h4 k; omega
  · have := h3 (by omega); omega
  · have := h3 (by omega); omega
theorem count_set_true {l : List Bool} {i : Nat} (h : i < l.length) (hf : l.getD i false = false) : (l.set i true).count false + 1 = l.count false := by
  rw [getD_eq h] at hf
  have hpos : 0 < l.count false := List.count_pos_iff.2 (hf ▸ List.getElem_mem h)
  rw [List.count_set h, hf]
  simp
  omega

end Go.VS
