/- Commands in the document: the reader. -/
import Derived.Test.YtcaandgkdmidkaaDoorKSpRc
set_option linter.unusedVariables false
set_option linter.unusedSimpArgs false
namespace Go.VS
variable {P : Pg}
theorem S9 : ∀ f ∈ AL, G7 (f.2.1, f.2.2.1) = (f.1, KI f) := by decide
end Go.VS
