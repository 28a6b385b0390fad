/- The document's performing of differences. -/
import Derived.Test.YtdnomijflodcgaaDoorKSpApp
import Derived.Test.YtdnomijflodcgaaDoorKSpDiff4
set_option linter.unusedVariables false
set_option linter.unusedSimpArgs false
namespace Go.VS
variable {P : Pg}
theorem AdN {l : List AJ} (h : JA l) (p : Bs) : findF l p = ((BL l p).getD [], (BL l p).isSome) := by
 rw [Adz h.ne]
 cases BL l p <;> rfl
end Go.VS
