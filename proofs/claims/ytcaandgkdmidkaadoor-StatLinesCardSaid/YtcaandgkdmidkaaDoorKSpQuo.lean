/- Quoting in the document; what a plain byte is. -/
import Derived.Test.YtcaandgkdmidkaaDoorKSpScan
set_option linter.unusedVariables false
set_option linter.unusedSimpArgs false
namespace Go.VS
variable {P : Pg}
def Tq (P : Pg) : Prop := ∀ s : Bs, s.length ≤ 17592186044416 → Fn P "mergelens/scan.Quote" Ts s fun (d : Bs) _ => d = CY s
end Go.VS
