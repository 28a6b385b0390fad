/- The document's trees. -/
import Derived.Test.YtbpbcfiodckhjaaDoorKSpNb
import Derived.Test.YtbpbcfiodckhjaaDoorKSpTxt
set_option linter.unusedVariables false
set_option linter.unusedSimpArgs false
namespace Go.VS
variable {P : Pg}
def Vp (P : Pg) : Prop := ∀ s : Bs, s.length ≤ 140737488351232 → Fn P Q3 Va s fun (d : Int) _ => d = Hu s
theorem V2 (h : Has P Vi) (hL : VF P) : Vp P := by
 intro s hs
 refine VP h ?_
 unfold VB
 refine ⟨fun hc => ?_, fun hc => ?_⟩
 ·have hc := of_decide_eq_true hc
  refine ⟨fun _ => ?_, fun h => (nomatch h)⟩
  unfold Hu
  rw [if_pos (.inl (by omega))]
 ·have hc := of_decide_eq_false hc
  refine (hL s (by omega)).to ?_
  rintro (d : List Bs) _ hd
  have hd : d = lnF s := hd
  subst hd
  simp only [cond_false]
  unfold Hu
  refine ⟨fun h1 => ?_, fun h1 => ?_⟩
  ·have h1 := of_decide_eq_true h1
   rw [if_pos (.inr (by omega))]
  ·have h1 := of_decide_eq_false h1
   rw [if_neg (by omega)]
end Go.VS
