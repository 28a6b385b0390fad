/- TreeRestores. -/
import Derived.Test.YtdnomijflodcgaaDoorKSpL21c
import Derived.Test.YtdnomijflodcgaaDoorKSpAppR
set_option linter.unusedVariables false
set_option linter.unusedSimpArgs false
namespace Go.VS
variable {P : Pg}
theorem Aeg {a b : List AJ} {p : Bs} (h : Yg a b p = none) : BL a p = BL b p := by
 unfold Yg at h
 cases h1 : BL a p with
 | none =>
  cases h2 : BL b p with
  | none => rfl
  | some v => rw [h1, h2] at h; cases h
 | some u =>
  cases h2 : BL b p with
  | none => rw [h1, h2] at h; cases h
  | some v =>
   rw [h1, h2] at h
   dsimp only at h
   split at h
   ·rename_i e; rw [e]
   ·cases h
end Go.VS
