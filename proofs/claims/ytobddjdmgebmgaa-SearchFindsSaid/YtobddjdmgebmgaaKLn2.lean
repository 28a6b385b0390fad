/- The program has these functions. -/
import Derived.Test.YtobddjdmgebmgaaKGf0
import Derived.Test.YtobddjdmgebmgaaKGf1
import Derived.Test.YtobddjdmgebmgaaProg
import Derived.KernelRfl
set_option linter.unusedVariables false
set_option linter.unusedSimpArgs false
set_option linter.unusedSectionVars false
namespace Go.VS

theorem h_ref06_Whole : Has Go.Proofs.Try.prog F_ref06_Whole := has_of 22 Go.Proofs.Try.f22 (by kernel_rfl) (by kernel_rfl) (by kernel_rfl) (by decide) (by kernel_rfl) (by kernel_rfl)
theorem h_search_Whole : Has Go.Proofs.Try.prog F_search_Whole := has_of 21 Go.Proofs.Try.f21 (by kernel_rfl) (by kernel_rfl) (by kernel_rfl) (by decide) (by kernel_rfl) (by kernel_rfl)
theorem h_gen_Spans : Has Go.Proofs.Try.prog F_gen_Spans := has_of 18 Go.Proofs.Try.f18 (by kernel_rfl) (by kernel_rfl) (by kernel_rfl) (by decide) (by kernel_rfl) (by kernel_rfl)
theorem h_law06_word : Has Go.Proofs.Try.prog F_law06_word := has_of 15 Go.Proofs.Try.f15 (by kernel_rfl) (by kernel_rfl) (by kernel_rfl) (by decide) (by kernel_rfl) (by kernel_rfl)
theorem h_law06_made : Has Go.Proofs.Try.prog F_law06_made := has_of 14 Go.Proofs.Try.f14 (by kernel_rfl) (by kernel_rfl) (by kernel_rfl) (by decide) (by kernel_rfl) (by kernel_rfl)
theorem h_law06_star : Has Go.Proofs.Try.prog F_law06_star := has_of 48 Go.Proofs.Try.f48 (by kernel_rfl) (by kernel_rfl) (by kernel_rfl) (by decide) (by kernel_rfl) (by kernel_rfl)
theorem h_law06_awake : Has Go.Proofs.Try.prog F_law06_awake := has_of 19 Go.Proofs.Try.f19 (by kernel_rfl) (by kernel_rfl) (by kernel_rfl) (by decide) (by kernel_rfl) (by kernel_rfl)
theorem h_law06_SearchAll : Has Go.Proofs.Try.prog F_law06_SearchAll := has_of 3 Go.Proofs.Try.f3 (by kernel_rfl) (by kernel_rfl) (by kernel_rfl) (by decide) (by kernel_rfl) (by kernel_rfl)
theorem h_law06_SearchFinds : Has Go.Proofs.Try.prog F_law06_SearchFinds := has_of 4 Go.Proofs.Try.f4 (by kernel_rfl) (by kernel_rfl) (by kernel_rfl) (by decide) (by kernel_rfl) (by kernel_rfl)
theorem h_law06_SearchRefuses : Has Go.Proofs.Try.prog F_law06_SearchRefuses := has_of 5 Go.Proofs.Try.f5 (by kernel_rfl) (by kernel_rfl) (by kernel_rfl) (by decide) (by kernel_rfl) (by kernel_rfl)
theorem h_law06_SearchDisjoint : Has Go.Proofs.Try.prog F_law06_SearchDisjoint := has_of 6 Go.Proofs.Try.f6 (by kernel_rfl) (by kernel_rfl) (by kernel_rfl) (by decide) (by kernel_rfl) (by kernel_rfl)

end Go.VS
