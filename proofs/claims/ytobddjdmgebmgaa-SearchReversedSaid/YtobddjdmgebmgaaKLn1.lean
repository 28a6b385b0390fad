/- The program has these functions. -/
import Derived.Test.YtobddjdmgebmgaaKGf0
import Derived.Test.YtobddjdmgebmgaaKGf1
import Derived.Test.YtobddjdmgebmgaaProg
import Derived.KernelRfl
set_option linter.unusedVariables false
set_option linter.unusedSimpArgs false
set_option linter.unusedSectionVars false
namespace Go.VS

theorem h_search_machine_read : Has Go.Proofs.Try.prog F_search_machine_read := has_of 51 Go.Proofs.Try.f51 (by kernel_rfl) (by kernel_rfl) (by kernel_rfl) (by decide) (by kernel_rfl) (by kernel_rfl)
theorem h_search_find : Has Go.Proofs.Try.prog F_search_find := has_of 47 Go.Proofs.Try.f47 (by kernel_rfl) (by kernel_rfl) (by kernel_rfl) (by decide) (by kernel_rfl) (by kernel_rfl)
theorem h_search_All : Has Go.Proofs.Try.prog F_search_All := has_of 16 Go.Proofs.Try.f16 (by kernel_rfl) (by kernel_rfl) (by kernel_rfl) (by decide) (by kernel_rfl) (by kernel_rfl)
theorem h_search_Whole : Has Go.Proofs.Try.prog F_search_Whole := has_of 21 Go.Proofs.Try.f21 (by kernel_rfl) (by kernel_rfl) (by kernel_rfl) (by decide) (by kernel_rfl) (by kernel_rfl)
theorem h_gen_Spans : Has Go.Proofs.Try.prog F_gen_Spans := has_of 18 Go.Proofs.Try.f18 (by kernel_rfl) (by kernel_rfl) (by kernel_rfl) (by decide) (by kernel_rfl) (by kernel_rfl)
theorem h_law06_star : Has Go.Proofs.Try.prog F_law06_star := has_of 48 Go.Proofs.Try.f48 (by kernel_rfl) (by kernel_rfl) (by kernel_rfl) (by decide) (by kernel_rfl) (by kernel_rfl)
theorem h_law06_awake : Has Go.Proofs.Try.prog F_law06_awake := has_of 19 Go.Proofs.Try.f19 (by kernel_rfl) (by kernel_rfl) (by kernel_rfl) (by decide) (by kernel_rfl) (by kernel_rfl)
theorem h_regex_bounded : Has Go.Proofs.Try.prog F_regex_bounded := has_of 82 Go.Proofs.Try.f82 (by kernel_rfl) (by kernel_rfl) (by kernel_rfl) (by decide) (by kernel_rfl) (by kernel_rfl)
theorem h_regex_fits : Has Go.Proofs.Try.prog F_regex_fits := has_of 76 Go.Proofs.Try.f76 (by kernel_rfl) (by kernel_rfl) (by kernel_rfl) (by decide) (by kernel_rfl) (by kernel_rfl)
theorem h_regex_Check : Has Go.Proofs.Try.prog F_regex_Check := has_of 70 Go.Proofs.Try.f70 (by kernel_rfl) (by kernel_rfl) (by kernel_rfl) (by decide) (by kernel_rfl) (by kernel_rfl)

end Go.VS
