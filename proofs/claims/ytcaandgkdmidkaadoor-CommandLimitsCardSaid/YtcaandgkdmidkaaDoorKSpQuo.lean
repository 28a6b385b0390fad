/- Quoting in the document; what a plain byte is. -/
import Derived.Test.YtcaandgkdmidkaaDoorKSpScan
set_option linter.unusedVariables false
set_option linter.unusedSimpArgs false
namespace Go.VS
variable {P : Pg}
def LK (P : Pg) : Prop := ∀ s : Bs, s.length ≤ 17592186044416 → Fn P zS0 Bq s fun (d : Bs) _ => d = Ar s
def LQ (P : Pg) : Prop := ∀ x : Int, Fn P zS8 Ca x fun (d : Bool) _ => d = C5 x
theorem Vw (h : Has P EW) : LQ P := by
 intro x
 refine Ng h ?_
 unfold Jh C5
 rfl
end Go.VS
