/- Numbers as the program reads them. -/
import Derived.Test.YtcaandgkdmidkaaDoorKSpNb
import Derived.Test.YtcaandgkdmidkaaDoorKSpGen
set_option linter.unusedVariables false
set_option linter.unusedSimpArgs false
namespace Go.VS
variable {P : Pg}
theorem cor {p q : Prop} [Decidable p] [Decidable q] : cond (decide p) true (decide q) = true ↔ p ∨ q := by
 by_cases h : p <;> simp [h]
theorem corf {p q : Prop} [Decidable p] [Decidable q] : cond (decide p) true (decide q) = false ↔ ¬ p ∧ ¬ q := by
 by_cases h : p <;> simp [h]
end Go.VS
