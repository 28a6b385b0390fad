/- TreeDiffs. -/
import Derived.Test.YtdnomijflodcgaaDoorKSpEq
import Derived.Test.YtdnomijflodcgaaDoorKSpRTree
import Derived.Test.YtdnomijflodcgaaDoorKSpLn
import Derived.Test.YtdnomijflodcgaaDoorKSpApp
set_option linter.unusedVariables false
set_option linter.unusedSimpArgs false
namespace Go.VS
variable {P : Pg}
def Mo (a b : List AJ) (d : List Bm × Int) : Prop := d.2 = Jh a b ∧ (d.2 ≠ 0 → d.1 = []) ∧ (d.2 = 0 → Mp a b d.1)
end Go.VS
