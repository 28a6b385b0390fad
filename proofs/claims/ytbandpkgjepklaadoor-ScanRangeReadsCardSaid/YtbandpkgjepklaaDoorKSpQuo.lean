/- Quoting in the document; what a plain byte is. -/
import Derived.Test.YtbandpkgjepklaaDoorKSpScan
set_option linter.unusedVariables false
set_option linter.unusedSimpArgs false
namespace Go.VS
variable {P : Program}
def Sp_Quote (P : Program) : Prop := ∀ s : Bs, s.length ≤ 17592186044416 → Fn P "mergelens/scan.Quote" S_scan_Quote s fun (d : Bs) _ => d = quoteF s
def Sp_plain (P : Program) : Prop := ∀ x : Int, Fn P "mergelens/scan.plain" S_scan_plain x fun (d : Bool) _ => d = plainF x
theorem sp_plain (h : Has P F_scan_plain) : Sp_plain P := by
 intro x
 refine fn_scan_plain h ?_
 unfold W_scan_plain plainF
 rfl
end Go.VS
