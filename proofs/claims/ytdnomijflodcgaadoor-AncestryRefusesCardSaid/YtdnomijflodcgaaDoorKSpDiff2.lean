/- The document's differences. -/
import Derived.Test.YtdnomijflodcgaaDoorKSpTree
import Derived.Test.YtdnomijflodcgaaDoorKSpRTree
set_option linter.unusedVariables false
set_option linter.unusedSimpArgs false
namespace Go.VS
variable {P : Pg}
theorem JK.mono {l : List AA} (h : JK l) {i k : Nat} (hk : k < l.length) (hi : i < k) : Op.bytesLess (pth l i) (pth l k) = true := (h k hk i hi).1
end Go.VS
