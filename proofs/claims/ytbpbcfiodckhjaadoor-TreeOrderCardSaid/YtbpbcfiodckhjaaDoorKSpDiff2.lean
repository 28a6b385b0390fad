/- The document's differences. -/
import Derived.Test.YtbpbcfiodckhjaaDoorKSpDiff
import Derived.Test.YtbpbcfiodckhjaaDoorKSpRTree
set_option linter.unusedVariables false
set_option linter.unusedSimpArgs false
namespace Go.VS
variable {P : Pg}
def L7 (P : Pg) : Prop := ∀ x : List Aw × List Aw, CH x.1 → CH x.2 → Fn P "mergelens/tree.both" Dn x fun (d : Int) _ => d = Hl x.1 x.2
theorem VV (h : Has P F8) (hT : Du P) : L7 P := by
 rintro ⟨a, b⟩ ha hb
 dsimp only at ha hb
 refine Pk h ?_
 unfold Ll Hl
 dsimp only
 refine hT.at ha ⟨fun hc => ?_, fun hc => ?_⟩
 ·rw [if_pos (by simpa using hc)]
 ·rw [if_neg (by simpa using hc)]
  exact hT.at hb rfl
theorem Gn.mono {l : List Aw} (h : Gn l) {i k : Nat} (hk : k < l.length) (hi : i < k) : Op.bytesLess (pth l i) (pth l k) = true := (h k hk i hi).1
end Go.VS
