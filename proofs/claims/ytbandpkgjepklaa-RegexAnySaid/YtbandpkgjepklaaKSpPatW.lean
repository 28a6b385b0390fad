/- Weights of what is read of a pattern. -/
import Derived.Test.YtbandpkgjepklaaKSpPars
import Derived.Test.YtbandpkgjepklaaKSpNode
set_option linter.unusedVariables false
set_option linter.unusedSimpArgs false
set_option linter.unusedSectionVars false
namespace Go.VS
variable {P : Pg}
section
variable {rec : Int → Nat → List Node → Eh} {s : Bs} {d : Int} {I : Nat → Prop} {c : Int}
end
theorem YC {s : Bs} {l : List Node} (h : Dy s = (l, 0)) : Aad l ∧ KB l ∧ s.length ≤ 256 := by
 unfold Dy at h
 split at h
 ·cases h
 rename_i hs
 have hg := C7 s 51 0 0 [] (Nat.zero_le _)
 split at h
 ·rename_i e he
  rw [he] at hg
  cases h
  exact absurd rfl hg
 rename_i k b l1 he
 rw [he] at hg
 have hg : Grow s 0 [] 0 k b l1 := hg
 split at h
 ·cases h
 cases h
 have hlen := hg.len; have hmore := hg.more; have hhi := hg.hi
 simp only [List.length_nil] at hlen hmore
 refine ⟨⟨by omega, by omega, fun i hi => (hg.ok i (Nat.zero_le _) hi).1⟩, fun i => ?_, by omega⟩
 rcases Nat.lt_or_ge i l.length with h1 | h1
 ·have := (hg.ok i (Nat.zero_le _) h1).2
  omega
 ·have : l.getD i Ak = Ak := by simp [List.getD_eq_getElem?_getD, List.getElem?_eq_none h1]
  rw [this]
  simp [Ak]
end Go.VS
