/- The document's list of differences. -/
import Derived.Test.YtdnomijflodcgaaDoorKSpDiff2
set_option linter.unusedVariables false
set_option linter.unusedSimpArgs false
namespace Go.VS
variable {P : Pg}
theorem JK.ne {l : List AA} (h : JK l) : l.Pairwise (fun x y => x.1 ≠ y.1) := by
 rw [List.pairwise_iff_getElem]
 intro i j hi hj hij e
 have h1 := (h j hj i hij).1
 have h2 : pth l i = pth l j := by
  unfold pth
  rw [getD_eq hi, getD_eq hj]
  exact e
 rw [h2, E0] at h1
 cases h1
end Go.VS
