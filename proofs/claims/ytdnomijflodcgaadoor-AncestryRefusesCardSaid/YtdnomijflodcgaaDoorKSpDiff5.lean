/- What tree.Diff gathers, and that it is the differences once sorted. -/
import Derived.Test.YtdnomijflodcgaaDoorKSpDiff3
set_option linter.unusedVariables false
set_option linter.unusedSimpArgs false
namespace Go.VS
variable {P : Pg}
theorem JK.blob {l : List AA} (h : JK l) {f : AA} (hf : f ∈ l) : AQ l f.1 = some f.2 := by
 have h1 := h.ne
 clear h
 induction l with
 | nil => cases hf
 | cons g r ih =>
  have h2 := List.pairwise_cons.1 h1
  rw [AQ]
  rcases List.mem_cons.1 hf with rfl | hf
  ·cases hb : AQ r f.1 with
   | none => dsimp only; rw [if_pos rfl]
   | some v =>
    obtain ⟨g, hg, he⟩ := (D8 r f.1).1 (by rw [hb]; rfl)
    exact absurd he.symm (h2.1 g hg)
  ·rw [ih hf h2.2]
end Go.VS
