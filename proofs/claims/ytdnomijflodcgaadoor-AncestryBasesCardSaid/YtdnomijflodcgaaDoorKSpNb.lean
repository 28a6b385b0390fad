/- Numbers in texts; bytes. -/
import Derived.Test.YtdnomijflodcgaaDoorKSpMod
set_option linter.unusedVariables false
set_option linter.unusedSimpArgs false
namespace Go.VS
variable {P : Pg}
abbrev Bs := List UInt8
end Go.VS
