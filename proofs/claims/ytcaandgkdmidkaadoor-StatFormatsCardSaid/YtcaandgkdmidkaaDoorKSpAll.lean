/- All strings, one behind another. -/
import Derived.Test.YtcaandgkdmidkaaDoorKSpNb
set_option linter.unusedVariables false
set_option linter.unusedSimpArgs false
namespace Go.VS
variable {P : Pg}
def Vl (P : Pg) : Prop := ∀ x : List Bs, x.flatten.length ≤ 100000000 → x.length ≤ 1000000 → Fn P V4 U3 x fun (d : Bs) _ => d = x.flatten
end Go.VS
