/- Numbers in texts; bytes. -/
import Derived.Test.YtdnomijflodcgaaDoorKSpBase
import Derived.Test.YtdnomijflodcgaaDoorKGf0
import Derived.Test.YtdnomijflodcgaaDoorKGf1
set_option linter.unusedVariables false
set_option linter.unusedSimpArgs false
namespace Go.VS
variable {P : Pg}
abbrev Bs := List UInt8
end Go.VS
