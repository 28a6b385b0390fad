/- The program has these functions. -/
import Derived.Test.YtobddjdmgebmgaaKGf0
import Derived.Test.YtobddjdmgebmgaaKGf1
import Derived.Test.YtobddjdmgebmgaaProg
import Derived.KernelRfl
set_option linter.unusedVariables false
set_option linter.unusedSimpArgs false
set_option linter.unusedSectionVars false
namespace Go.VS

theorem h_ref04_reader_is : Has Go.Proofs.Try.prog F_ref04_reader_is := has_of 68 Go.Proofs.Try.f68 (by kernel_rfl) (by kernel_rfl) (by kernel_rfl) (by decide) (by kernel_rfl) (by kernel_rfl)
theorem h_ref04_reader_node : Has Go.Proofs.Try.prog F_ref04_reader_node := has_of 69 Go.Proofs.Try.f69 (by kernel_rfl) (by kernel_rfl) (by kernel_rfl) (by decide) (by kernel_rfl) (by kernel_rfl)
theorem h_ref04_reader_atom : Has Go.Proofs.Try.prog F_ref04_reader_atom := has_of 80 Go.Proofs.Try.f80 (by kernel_rfl) (by kernel_rfl) (by kernel_rfl) (by decide) (by kernel_rfl) (by kernel_rfl)
theorem h_ref04_reader_piece : Has Go.Proofs.Try.prog F_ref04_reader_piece := has_of 75 Go.Proofs.Try.f75 (by kernel_rfl) (by kernel_rfl) (by kernel_rfl) (by decide) (by kernel_rfl) (by kernel_rfl)
theorem h_ref04_reader_alternative : Has Go.Proofs.Try.prog F_ref04_reader_alternative := has_of 67 Go.Proofs.Try.f67 (by kernel_rfl) (by kernel_rfl) (by kernel_rfl) (by decide) (by kernel_rfl) (by kernel_rfl)
theorem h_ref04_reader_pattern : Has Go.Proofs.Try.prog F_ref04_reader_pattern := has_of 54 Go.Proofs.Try.f54 (by kernel_rfl) (by kernel_rfl) (by kernel_rfl) (by decide) (by kernel_rfl) (by kernel_rfl)
theorem h_ref04_Parse : Has Go.Proofs.Try.prog F_ref04_Parse := has_of 28 Go.Proofs.Try.f28 (by kernel_rfl) (by kernel_rfl) (by kernel_rfl) (by decide) (by kernel_rfl) (by kernel_rfl)
theorem h_law05_awake : Has Go.Proofs.Try.prog F_law05_awake := has_of 30 Go.Proofs.Try.f30 (by kernel_rfl) (by kernel_rfl) (by kernel_rfl) (by decide) (by kernel_rfl) (by kernel_rfl)
theorem h_law05_made : Has Go.Proofs.Try.prog F_law05_made := has_of 38 Go.Proofs.Try.f38 (by kernel_rfl) (by kernel_rfl) (by kernel_rfl) (by decide) (by kernel_rfl) (by kernel_rfl)
theorem h_law05_AutomatonChecks : Has Go.Proofs.Try.prog F_law05_AutomatonChecks := has_of 10 Go.Proofs.Try.f10 (by kernel_rfl) (by kernel_rfl) (by kernel_rfl) (by decide) (by kernel_rfl) (by kernel_rfl)

end Go.VS
