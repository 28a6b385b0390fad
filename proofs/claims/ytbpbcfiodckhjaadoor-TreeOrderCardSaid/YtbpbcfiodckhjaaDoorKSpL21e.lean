/- TreeApplies. -/
import Derived.Test.YtbpbcfiodckhjaaDoorKSpL21c
import Derived.Test.YtbpbcfiodckhjaaDoorKSpAppR
set_option linter.unusedVariables false
set_option linter.unusedSimpArgs false
namespace Go.VS
variable {P : Pg}
theorem Abt {a b : List Aw} {d : List A0} (h : GW a b d) {t : A0} (ht : t ∈ d) : (∃ f ∈ a, f.1 = t.1) ∨ ∃ f ∈ b, f.1 = t.1 := by
 have h1 := (h.2 t.1 t.2).1 ht
 unfold JS at h1
 cases h2 : AU a t.1 with
 | some v => exact .inl ((CN a t.1).1 (by rw [h2]; rfl))
 | none =>
  cases h3 : AU b t.1 with
  | some v => exact .inr ((CN b t.1).1 (by rw [h3]; rfl))
  | none => rw [h2, h3] at h1; cases h1
end Go.VS
