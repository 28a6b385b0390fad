/- Blobs and trees made of raw numbers: which they are. -/
import Derived.Test.YtbpbcfiodckhjaaDoorKSpDiff4
import Derived.Test.YtbpbcfiodckhjaaDoorKSpLn
set_option linter.unusedVariables false
set_option linter.unusedSimpArgs false
namespace Go.VS
variable {P : Pg}
theorem Zk : ∀ (s acc : Bs), (lnN acc s).length ≤ s.length
 | [], acc => by rw [lnN]; exact Nat.le_refl _
 | b :: r, acc => by
  rw [lnN]
  split
  ·have := Zk r []; simp only [List.length_cons]; omega
  ·have := Zk r (acc ++ [b]); simp only [List.length_cons]; omega
theorem Zl {s : Bs} (h : s.length ≤ 4000) : FZ s = 0 := by
 have h1 : (lnF s).length ≤ s.length := Zk s []
 unfold FZ
 rw [if_neg (by omega)]
end Go.VS
