/- The document's Deltas. -/
import Derived.Test.YtbpbcfiodckhjaaDoorKSpDiff3
set_option linter.unusedVariables false
set_option linter.unusedSimpArgs false
namespace Go.VS
variable {P : Pg}
end Go.VS
namespace Go.VS
variable {P : Pg}
theorem LV {l : List Aw} (h : Eu l = 0) : Gn l := by
 unfold Eu at h
 split at h
 ·cases h
 ·split at h
  ·cases h
  ·split at h
   ·cases h
   ·rename_i h3
    exact (M3 l).1 (by simpa using h3)
end Go.VS
