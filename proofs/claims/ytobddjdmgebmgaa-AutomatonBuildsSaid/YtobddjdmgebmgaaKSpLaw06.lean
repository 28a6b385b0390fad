/- The statements about layer 6. -/
import Derived.Test.YtobddjdmgebmgaaKSpSearch
set_option linter.unusedVariables false
set_option linter.unusedSimpArgs false
namespace Go.VS
variable {P : Program}
abbrev S97 : Set4 := putF ((0 : Int), ((0 : Int), ((0 : Int), (0 : Int)))) 97
end Go.VS
