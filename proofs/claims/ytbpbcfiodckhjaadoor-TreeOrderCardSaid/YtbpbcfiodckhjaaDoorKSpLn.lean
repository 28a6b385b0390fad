/- The lines of a text. -/
import Derived.Test.YtbpbcfiodckhjaaDoorKSpGen
import Derived.Test.YtbpbcfiodckhjaaDoorKSpMod
import Derived.Test.YtbpbcfiodckhjaaDoorKSpNb
set_option linter.unusedVariables false
set_option linter.unusedSimpArgs false
namespace Go.VS
variable {P : Pg}
def lnN (acc : Bs) : Bs → List Bs
 | [] => []
 | b :: r => if b = 10 ∨ r = [] then (acc ++ [b]) :: lnN [] r else lnN (acc ++ [b]) r
def lnF (s : Bs) : List Bs := lnN [] s
end Go.VS
