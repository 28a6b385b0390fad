/- changes: the lists of a commit. -/
import Derived.Test.YtdnomijflodcgaaDoorKSpDagR
import Derived.Test.YtdnomijflodcgaaDoorKSpDiff3
import Derived.Test.YtdnomijflodcgaaDoorKSpLn
import Derived.Test.YtdnomijflodcgaaDoorKSpRTree
import Derived.Test.YtdnomijflodcgaaDoorKSpApp
set_option linter.unusedVariables false
set_option linter.unusedSimpArgs false
namespace Go.VS
variable {P : Pg}
theorem Ep {g : List Aq} (h : DF g 0) : Ia g ∧ HN g ∧ ¬L8 g ∧ Oe g ∧ HF g = 0 := by
 have k1 : Ia g := Classical.byContradiction fun k => by have := h.1 k; omega
 have k2 : HN g := Classical.byContradiction fun k => by have := h.2.1 k1 k; omega
 have k3 : ¬L8 g := fun k => by have := h.2.2.1 k1 k2 k; omega
 have k4 : Oe g := Classical.byContradiction fun k => by have := h.2.2.2.1 k1 k2 k3 k; omega
 exact ⟨k1, k2, k3, k4, (h.2.2.2.2 k1 k2 k3 k4).symm⟩
theorem AcH (g : List Aq) (c : Int) : (cond (decide (c ≥ (0 : Int))) (decide (c < ((List.length g : Nat) : Int))) false) = true ↔ inR g c := by
 unfold inR
 rw [Bool.cond_eq_ite]
 by_cases h : c ≥ 0
 ·rw [if_pos (decide_eq_true h)]
  exact ⟨fun k => ⟨h, of_decide_eq_true k⟩, fun k => decide_eq_true k.2⟩
 ·rw [if_neg (by simpa using h)]
  exact ⟨fun k => (by cases k), fun k => absurd k.1 h⟩
theorem Ke {α : Type} {l : List α} {k : Nat} {d : α} (h : k < l.length) : l.take (k + 1) = l.take k ++ [l.getD k d] := by
 rw [List.take_add_one, List.getD_eq_getElem?_getD, List.getElem?_eq_getElem h]
 rfl
end Go.VS
