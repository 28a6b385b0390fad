/- ChangesRefuses. -/
import Derived.Test.YtdnomijflodcgaaDoorKSpChg
import Derived.Test.YtdnomijflodcgaaDoorKSpDiff5
import Derived.Test.YtdnomijflodcgaaDoorKSpDiff3
set_option linter.unusedVariables false
set_option linter.unusedSimpArgs false
namespace Go.VS
variable {P : Pg}
theorem Aiy {g : List Aq} (h : (BT.sl AB).Good g) : MR g := fun c hc f hf => ((h.2 c hc).2.2).2 f hf
end Go.VS
