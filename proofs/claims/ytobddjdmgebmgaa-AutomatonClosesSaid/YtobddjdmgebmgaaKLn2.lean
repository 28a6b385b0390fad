/- The program has these functions. -/
import Derived.Test.YtobddjdmgebmgaaKGf0
import Derived.Test.YtobddjdmgebmgaaKGf1
import Derived.Test.YtobddjdmgebmgaaKGf2
import Derived.Test.YtobddjdmgebmgaaProg
import Derived.KernelRfl
set_option linter.unusedVariables false
set_option linter.unusedSimpArgs false
set_option linter.unusedSectionVars false
namespace Go.VS

theorem h_ref04_reader_piece : Has Go.Proofs.Try.prog F_ref04_reader_piece := has_of 75 Go.Proofs.Try.f75 (by kernel_rfl) (by kernel_rfl) (by kernel_rfl) (by decide) (by kernel_rfl) (by kernel_rfl)
theorem h_ref04_reader_alternative : Has Go.Proofs.Try.prog F_ref04_reader_alternative := has_of 67 Go.Proofs.Try.f67 (by kernel_rfl) (by kernel_rfl) (by kernel_rfl) (by decide) (by kernel_rfl) (by kernel_rfl)
theorem h_ref04_reader_pattern : Has Go.Proofs.Try.prog F_ref04_reader_pattern := has_of 54 Go.Proofs.Try.f54 (by kernel_rfl) (by kernel_rfl) (by kernel_rfl) (by decide) (by kernel_rfl) (by kernel_rfl)
theorem h_ref04_Parse : Has Go.Proofs.Try.prog F_ref04_Parse := has_of 28 Go.Proofs.Try.f28 (by kernel_rfl) (by kernel_rfl) (by kernel_rfl) (by decide) (by kernel_rfl) (by kernel_rfl)
theorem h_law05_awake : Has Go.Proofs.Try.prog F_law05_awake := has_of 30 Go.Proofs.Try.f30 (by kernel_rfl) (by kernel_rfl) (by kernel_rfl) (by decide) (by kernel_rfl) (by kernel_rfl)
theorem h_ref05_Closure : Has Go.Proofs.Try.prog F_ref05_Closure := has_of 41 Go.Proofs.Try.f41 (by kernel_rfl) (by kernel_rfl) (by kernel_rfl) (by decide) (by kernel_rfl) (by kernel_rfl)
theorem h_automaton_Closure : Has Go.Proofs.Try.prog F_automaton_Closure := has_of 40 Go.Proofs.Try.f40 (by kernel_rfl) (by kernel_rfl) (by kernel_rfl) (by decide) (by kernel_rfl) (by kernel_rfl)
theorem h_gen_Ints : Has Go.Proofs.Try.prog F_gen_Ints := has_of 42 Go.Proofs.Try.f42 (by kernel_rfl) (by kernel_rfl) (by kernel_rfl) (by decide) (by kernel_rfl) (by kernel_rfl)
theorem h_law05_same : Has Go.Proofs.Try.prog F_law05_same := has_of 43 Go.Proofs.Try.f43 (by kernel_rfl) (by kernel_rfl) (by kernel_rfl) (by decide) (by kernel_rfl) (by kernel_rfl)
theorem h_law05_made : Has Go.Proofs.Try.prog F_law05_made := has_of 38 Go.Proofs.Try.f38 (by kernel_rfl) (by kernel_rfl) (by kernel_rfl) (by decide) (by kernel_rfl) (by kernel_rfl)
theorem h_law05_AutomatonCloses : Has Go.Proofs.Try.prog F_law05_AutomatonCloses := has_of 11 Go.Proofs.Try.f11 (by kernel_rfl) (by kernel_rfl) (by kernel_rfl) (by decide) (by kernel_rfl) (by kernel_rfl)

end Go.VS
