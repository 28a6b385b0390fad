/- TreeDiffs. -/
import Derived.Test.YtbpbcfiodckhjaaDoorKSpDiff4
import Derived.Test.YtbpbcfiodckhjaaDoorKSpLn
import Derived.Test.YtbpbcfiodckhjaaDoorKSpRTree
import Derived.Test.YtbpbcfiodckhjaaDoorKSpDiff5
set_option linter.unusedVariables false
set_option linter.unusedSimpArgs false
namespace Go.VS
variable {P : Pg}
def IU (a b : List Aw) (d : List A0 × Int) : Prop := d.2 = Hl a b ∧ (d.2 ≠ 0 → d.1 = []) ∧ (d.2 = 0 → GW a b d.1)
end Go.VS
