/- All strings, one behind another. -/
import Derived.Test.YtcaandgkdmidkaaDoorKSpNb
set_option linter.unusedVariables false
set_option linter.unusedSimpArgs false
namespace Go.VS
variable {P : Pg}
def YC (P : Pg) : Prop := ∀ x : List Bs, x.flatten.length ≤ 100000000 → x.length ≤ 1000000 → Fn P "mergelens/mergelensref02.All" Pb x fun (d : Bs) _ => d = x.flatten
end Go.VS
