/- The document's differences. -/
import Derived.Test.YtdnomijflodcgaaDoorKSpDiff
import Derived.Test.YtdnomijflodcgaaDoorKSpRTree
set_option linter.unusedVariables false
set_option linter.unusedSimpArgs false
namespace Go.VS
variable {P : Pg}
def N9 (P : Pg) : Prop := ∀ x : List AJ × List AJ, ER x.1 → ER x.2 → Fn P "mergelens/tree.both" Ee x fun (d : Int) _ => d = Jh x.1 x.2
theorem YD (h : Has P Ho) (hT : Ej P) : N9 P := by
 rintro ⟨a, b⟩ ha hb
 dsimp only at ha hb
 refine Rq h ?_
 unfold Nc Jh
 dsimp only
 refine hT.at ha ⟨fun hc => ?_, fun hc => ?_⟩
 ·rw [if_pos (by simpa using hc)]
 ·rw [if_neg (by simpa using hc)]
  exact hT.at hb rfl
theorem JA.mono {l : List AJ} (h : JA l) {i k : Nat} (hk : k < l.length) (hi : i < k) : Op.bytesLess (pth l i) (pth l k) = true := (h k hk i hi).1
end Go.VS
