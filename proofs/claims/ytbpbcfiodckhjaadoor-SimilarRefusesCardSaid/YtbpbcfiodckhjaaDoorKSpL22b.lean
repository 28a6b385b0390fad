/- Scores: the statements. -/
import Derived.Test.YtbpbcfiodckhjaaDoorKSpSim
import Derived.Test.YtbpbcfiodckhjaaDoorKSpRTree
import Derived.Test.YtbpbcfiodckhjaaDoorKSpLn
set_option linter.unusedVariables false
set_option linter.unusedSimpArgs false
namespace Go.VS
variable {P : Pg}
theorem ZO.at (h : ZO P) {a b : Bs} (ha : a.length ≤ 140737488351232) (hb : b.length ≤ 140737488351232) {K : Int × Int → Unit → Prop} (hk : K (ZJ a b) ()) : Fn P zS9 Zz (a, b) K :=
 (h (a, b) ha hb).to fun (d : Int × Int) _ hd => by
  have hd : d = ZJ a b := hd
  subst hd
  exact hk
def ZI (P : Pg) : Prop := Fn P zS3 Zy () fun (d : Bool) _ => d = true
theorem Aaj (h : Has P ZG) (hS : ZO P) : ZI P := by
 refine ZZ h ?_
 unfold ZR
 refine hS.at (by decide) (by decide) (hS.at (by decide) (by decide) ?_)
 decide
theorem ZI.at (h : ZI P) {K : Bool → Unit → Prop} (hk : K true ()) : Fn P zS3 Zy () K :=
 Fn.to h fun (d : Bool) _ hd => by
  have hd : d = true := hd
  subst hd
  exact hk
end Go.VS
