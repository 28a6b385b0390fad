/- More of the statements about layer 4. -/
import Derived.Test.YtbandpkgjepklaaKSpL04
import Derived.Test.YtbandpkgjepklaaKSpPatW
import Derived.Test.YtbandpkgjepklaaKSpPrs
set_option linter.unusedVariables false
set_option linter.unusedSimpArgs false
namespace Go.VS
variable {P : Pg}
theorem Ab6.at (h : Ab6 P) {l : List Node} (hv : Aad l) (hK : KB l) {K : Int → Unit → Prop} (hk : K 0 ()) : Fn P Ut AbF l K :=
 (h l hK (by have := hv.hi; omega)).to fun (d : Int) _ hd => by
  have hd : d = 0 := hd.1 hv
  subst hd
  exact hk
end Go.VS
