/- The program has these functions. -/
import Derived.Test.YtobddjdmgebmgaaKGf0
import Derived.Test.YtobddjdmgebmgaaKGf1
import Derived.Test.YtobddjdmgebmgaaProg
import Derived.KernelRfl
set_option linter.unusedVariables false
set_option linter.unusedSimpArgs false
set_option linter.unusedSectionVars false
namespace Go.VS

theorem h_ref05_pairs : Has Go.Proofs.Try.prog F_ref05_pairs := has_of 74 Go.Proofs.Try.f74 (by kernel_rfl) (by kernel_rfl) (by kernel_rfl) (by decide) (by kernel_rfl) (by kernel_rfl)
theorem h_ref05_Pairs : Has Go.Proofs.Try.prog F_ref05_Pairs := has_of 61 Go.Proofs.Try.f61 (by kernel_rfl) (by kernel_rfl) (by kernel_rfl) (by decide) (by kernel_rfl) (by kernel_rfl)
theorem h_law05_accepts : Has Go.Proofs.Try.prog F_law05_accepts := has_of 35 Go.Proofs.Try.f35 (by kernel_rfl) (by kernel_rfl) (by kernel_rfl) (by decide) (by kernel_rfl) (by kernel_rfl)
theorem h_ref04_reader_is : Has Go.Proofs.Try.prog F_ref04_reader_is := has_of 68 Go.Proofs.Try.f68 (by kernel_rfl) (by kernel_rfl) (by kernel_rfl) (by decide) (by kernel_rfl) (by kernel_rfl)
theorem h_ref04_reader_node : Has Go.Proofs.Try.prog F_ref04_reader_node := has_of 69 Go.Proofs.Try.f69 (by kernel_rfl) (by kernel_rfl) (by kernel_rfl) (by decide) (by kernel_rfl) (by kernel_rfl)
theorem h_ref04_reader_atom : Has Go.Proofs.Try.prog F_ref04_reader_atom := has_of 80 Go.Proofs.Try.f80 (by kernel_rfl) (by kernel_rfl) (by kernel_rfl) (by decide) (by kernel_rfl) (by kernel_rfl)
theorem h_ref04_reader_piece : Has Go.Proofs.Try.prog F_ref04_reader_piece := has_of 75 Go.Proofs.Try.f75 (by kernel_rfl) (by kernel_rfl) (by kernel_rfl) (by decide) (by kernel_rfl) (by kernel_rfl)
theorem h_ref04_reader_alternative : Has Go.Proofs.Try.prog F_ref04_reader_alternative := has_of 67 Go.Proofs.Try.f67 (by kernel_rfl) (by kernel_rfl) (by kernel_rfl) (by decide) (by kernel_rfl) (by kernel_rfl)
theorem h_ref04_reader_pattern : Has Go.Proofs.Try.prog F_ref04_reader_pattern := has_of 54 Go.Proofs.Try.f54 (by kernel_rfl) (by kernel_rfl) (by kernel_rfl) (by decide) (by kernel_rfl) (by kernel_rfl)
theorem h_ref04_Parse : Has Go.Proofs.Try.prog F_ref04_Parse := has_of 28 Go.Proofs.Try.f28 (by kernel_rfl) (by kernel_rfl) (by kernel_rfl) (by decide) (by kernel_rfl) (by kernel_rfl)
theorem h_law05_awake : Has Go.Proofs.Try.prog F_law05_awake := has_of 30 Go.Proofs.Try.f30 (by kernel_rfl) (by kernel_rfl) (by kernel_rfl) (by decide) (by kernel_rfl) (by kernel_rfl)
theorem h_law05_nodes : Has Go.Proofs.Try.prog F_law05_nodes := has_of 36 Go.Proofs.Try.f36 (by kernel_rfl) (by kernel_rfl) (by kernel_rfl) (by decide) (by kernel_rfl) (by kernel_rfl)
theorem h_law05_AutomatonLists : Has Go.Proofs.Try.prog F_law05_AutomatonLists := has_of 8 Go.Proofs.Try.f8 (by kernel_rfl) (by kernel_rfl) (by kernel_rfl) (by decide) (by kernel_rfl) (by kernel_rfl)

end Go.VS
