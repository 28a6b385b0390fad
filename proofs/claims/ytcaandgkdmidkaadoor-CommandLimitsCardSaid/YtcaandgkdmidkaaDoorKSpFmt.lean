/- Numbers and ranges: as they are written, as they are read. -/
import Derived.Test.YtcaandgkdmidkaaDoorKSpScan
import Derived.Lib.ItoaNum
set_option linter.unusedVariables false
set_option linter.unusedSimpArgs false
namespace Go.VS
variable {P : Pg}
def B5 (n : Int) : Bs := if n < 0 ∨ n > 2147483647 then [] else Lib.decDigits n.toNat
end Go.VS
