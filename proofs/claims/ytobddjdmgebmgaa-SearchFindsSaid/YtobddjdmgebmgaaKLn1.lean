/- The program has these functions. -/
import Derived.Test.YtobddjdmgebmgaaKGf0
import Derived.Test.YtobddjdmgebmgaaKGf1
import Derived.Test.YtobddjdmgebmgaaProg
import Derived.KernelRfl
set_option linter.unusedVariables false
set_option linter.unusedSimpArgs false
set_option linter.unusedSectionVars false
namespace Go.VS

theorem h_search_machine_add : Has Go.Proofs.Try.prog F_search_machine_add := has_of 50 Go.Proofs.Try.f50 (by kernel_rfl) (by kernel_rfl) (by kernel_rfl) (by decide) (by kernel_rfl) (by kernel_rfl)
theorem h_search_start : Has Go.Proofs.Try.prog F_search_start := has_of 49 Go.Proofs.Try.f49 (by kernel_rfl) (by kernel_rfl) (by kernel_rfl) (by decide) (by kernel_rfl) (by kernel_rfl)
theorem h_search_machine_accepted : Has Go.Proofs.Try.prog F_search_machine_accepted := has_of 52 Go.Proofs.Try.f52 (by kernel_rfl) (by kernel_rfl) (by kernel_rfl) (by decide) (by kernel_rfl) (by kernel_rfl)
theorem h_search_machine_keep : Has Go.Proofs.Try.prog F_search_machine_keep := has_of 65 Go.Proofs.Try.f65 (by kernel_rfl) (by kernel_rfl) (by kernel_rfl) (by decide) (by kernel_rfl) (by kernel_rfl)
theorem h_search_machine_read : Has Go.Proofs.Try.prog F_search_machine_read := has_of 51 Go.Proofs.Try.f51 (by kernel_rfl) (by kernel_rfl) (by kernel_rfl) (by decide) (by kernel_rfl) (by kernel_rfl)
theorem h_search_find : Has Go.Proofs.Try.prog F_search_find := has_of 47 Go.Proofs.Try.f47 (by kernel_rfl) (by kernel_rfl) (by kernel_rfl) (by decide) (by kernel_rfl) (by kernel_rfl)
theorem h_ref06_All : Has Go.Proofs.Try.prog F_ref06_All := has_of 17 Go.Proofs.Try.f17 (by kernel_rfl) (by kernel_rfl) (by kernel_rfl) (by decide) (by kernel_rfl) (by kernel_rfl)
theorem h_search_All : Has Go.Proofs.Try.prog F_search_All := has_of 16 Go.Proofs.Try.f16 (by kernel_rfl) (by kernel_rfl) (by kernel_rfl) (by decide) (by kernel_rfl) (by kernel_rfl)
theorem h_search_Find : Has Go.Proofs.Try.prog F_search_Find := has_of 25 Go.Proofs.Try.f25 (by kernel_rfl) (by kernel_rfl) (by kernel_rfl) (by decide) (by kernel_rfl) (by kernel_rfl)
theorem h_search_Any : Has Go.Proofs.Try.prog F_search_Any := has_of 23 Go.Proofs.Try.f23 (by kernel_rfl) (by kernel_rfl) (by kernel_rfl) (by decide) (by kernel_rfl) (by kernel_rfl)
theorem h_ref06_Any : Has Go.Proofs.Try.prog F_ref06_Any := has_of 24 Go.Proofs.Try.f24 (by kernel_rfl) (by kernel_rfl) (by kernel_rfl) (by decide) (by kernel_rfl) (by kernel_rfl)

end Go.VS
