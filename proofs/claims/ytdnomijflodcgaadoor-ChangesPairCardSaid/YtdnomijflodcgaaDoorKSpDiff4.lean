/- The document's Deltas. -/
import Derived.Test.YtdnomijflodcgaaDoorKSpDiff3
set_option linter.unusedVariables false
set_option linter.unusedSimpArgs false
namespace Go.VS
variable {P : Pg}
end Go.VS
namespace Go.VS
variable {P : Pg}
theorem NT {l : List AJ} (h : Du l = 0) : JA l := by
 unfold Du at h
 split at h
 ·cases h
 ·split at h
  ·cases h
  ·split at h
   ·cases h
   ·rename_i h3
    exact (O7 l).1 (by simpa using h3)
end Go.VS
