/- The lines of statistics. -/
import Derived.Test.YtcaandgkdmidkaaDoorKSpL27
import Derived.Test.YtcaandgkdmidkaaDoorKSpLn
import Derived.Test.YtcaandgkdmidkaaDoorKSpScan
import Derived.Test.YtcaandgkdmidkaaDoorKSpNb
set_option linter.unusedVariables false
set_option linter.unusedSimpArgs false
namespace Go.VS
variable {P : Pg}
def TK (l : List Stat) : Prop := l.length ≤ 5 ∧ ∀ s ∈ l, s.1.length ≤ 3 ∧ 0 ≤ s.2.1 ∧ s.2.1 < 50 ∧ 0 ≤ s.2.2 ∧ s.2.2 < 30
theorem TK.few {l : List Stat} (h : TK l) : Few l := ⟨by have := h.1; omega, fun s hs => by have := (h.2 s hs).1; omega⟩
end Go.VS
