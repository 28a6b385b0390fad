/- Words read back. -/
import Derived.Test.YtdnomijflodcgaaDoorKSpNb
import Derived.Test.YtdnomijflodcgaaDoorKSpBase
import Derived.Test.YtdnomijflodcgaaDoorKGf0
import Derived.Test.YtdnomijflodcgaaDoorKGf1
import Derived.Lib.ItoaNum
set_option linter.unusedVariables false
set_option linter.unusedSimpArgs false
namespace Go.VS
variable {P : Pg}
def up (l : Bs) : List Int := l.map fun b => ((b.toNat : Nat) : Int)
end Go.VS
