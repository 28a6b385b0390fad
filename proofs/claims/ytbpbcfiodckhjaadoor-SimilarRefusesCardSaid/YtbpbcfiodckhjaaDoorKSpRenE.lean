/- Renames of trees that are not valid. -/
import Derived.Test.YtbpbcfiodckhjaaDoorKSpDiff
set_option linter.unusedVariables false
set_option linter.unusedSimpArgs false
namespace Go.VS
variable {P : Pg}
def Z8 (P : Pg) : Prop := ∀ x : List Aw × (List Aw × Int), CH x.1 → CH x.2.1 → Hl x.1 x.2.1 ≠ 0 → Fn P V5 ZE x fun (d : List (Bs × (Bs × Int)) × Int) _ => d = ([], Hl x.1 x.2.1)
end Go.VS
