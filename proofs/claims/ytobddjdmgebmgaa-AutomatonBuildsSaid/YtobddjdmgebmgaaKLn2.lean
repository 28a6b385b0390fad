/- The program has these functions. -/
import Derived.Test.YtobddjdmgebmgaaKGf0
import Derived.Test.YtobddjdmgebmgaaKGf1
import Derived.Test.YtobddjdmgebmgaaKGf2
import Derived.Test.YtobddjdmgebmgaaProg
import Derived.KernelRfl
set_option linter.unusedVariables false
set_option linter.unusedSimpArgs false
namespace Go.VS
theorem h_ref04_Named : Has Go.Proofs.Try.prog F_ref04_Named := has_of 86 Go.Proofs.Try.f86 (by kernel_rfl) (by kernel_rfl) (by kernel_rfl) (by decide) (by kernel_rfl) (by kernel_rfl)
theorem h_ref04_complement : Has Go.Proofs.Try.prog F_ref04_complement := has_of 84 Go.Proofs.Try.f84 (by kernel_rfl) (by kernel_rfl) (by kernel_rfl) (by decide) (by kernel_rfl) (by kernel_rfl)
theorem h_ref04_reader_is : Has Go.Proofs.Try.prog F_ref04_reader_is := has_of 68 Go.Proofs.Try.f68 (by kernel_rfl) (by kernel_rfl) (by kernel_rfl) (by decide) (by kernel_rfl) (by kernel_rfl)
theorem h_ref04_reader_node : Has Go.Proofs.Try.prog F_ref04_reader_node := has_of 69 Go.Proofs.Try.f69 (by kernel_rfl) (by kernel_rfl) (by kernel_rfl) (by decide) (by kernel_rfl) (by kernel_rfl)
theorem h_ref04_reader_fail : Has Go.Proofs.Try.prog F_ref04_reader_fail := has_of 55 Go.Proofs.Try.f55 (by kernel_rfl) (by kernel_rfl) (by kernel_rfl) (by decide) (by kernel_rfl) (by kernel_rfl)
theorem h_ref04_reader_atom : Has Go.Proofs.Try.prog F_ref04_reader_atom := has_of 80 Go.Proofs.Try.f80 (by kernel_rfl) (by kernel_rfl) (by kernel_rfl) (by decide) (by kernel_rfl) (by kernel_rfl)
theorem h_ref04_reader_piece : Has Go.Proofs.Try.prog F_ref04_reader_piece := has_of 75 Go.Proofs.Try.f75 (by kernel_rfl) (by kernel_rfl) (by kernel_rfl) (by decide) (by kernel_rfl) (by kernel_rfl)
theorem h_ref04_reader_alternative : Has Go.Proofs.Try.prog F_ref04_reader_alternative := has_of 67 Go.Proofs.Try.f67 (by kernel_rfl) (by kernel_rfl) (by kernel_rfl) (by decide) (by kernel_rfl) (by kernel_rfl)
theorem h_ref04_reader_pattern : Has Go.Proofs.Try.prog F_ref04_reader_pattern := has_of 54 Go.Proofs.Try.f54 (by kernel_rfl) (by kernel_rfl) (by kernel_rfl) (by decide) (by kernel_rfl) (by kernel_rfl)
theorem h_ref04_Parse : Has Go.Proofs.Try.prog F_ref04_Parse := has_of 28 Go.Proofs.Try.f28 (by kernel_rfl) (by kernel_rfl) (by kernel_rfl) (by decide) (by kernel_rfl) (by kernel_rfl)
theorem h_law05_awake : Has Go.Proofs.Try.prog F_law05_awake := has_of 30 Go.Proofs.Try.f30 (by kernel_rfl) (by kernel_rfl) (by kernel_rfl) (by decide) (by kernel_rfl) (by kernel_rfl)
theorem h_ref04_reader_class : Has Go.Proofs.Try.prog F_ref04_reader_class := has_of 83 Go.Proofs.Try.f83 (by kernel_rfl) (by kernel_rfl) (by kernel_rfl) (by decide) (by kernel_rfl) (by kernel_rfl)
theorem h_ref04_reader_bounds : Has Go.Proofs.Try.prog F_ref04_reader_bounds := has_of 81 Go.Proofs.Try.f81 (by kernel_rfl) (by kernel_rfl) (by kernel_rfl) (by decide) (by kernel_rfl) (by kernel_rfl)
theorem h_gen_Pattern : Has Go.Proofs.Try.prog F_gen_Pattern := has_of 29 Go.Proofs.Try.f29 (by kernel_rfl) (by kernel_rfl) (by kernel_rfl) (by decide) (by kernel_rfl) (by kernel_rfl)
theorem h_law05_short : Has Go.Proofs.Try.prog F_law05_short := has_of 31 Go.Proofs.Try.f31 (by kernel_rfl) (by kernel_rfl) (by kernel_rfl) (by decide) (by kernel_rfl) (by kernel_rfl)
theorem h_law05_AutomatonBuilds : Has Go.Proofs.Try.prog F_law05_AutomatonBuilds := has_of 7 Go.Proofs.Try.f7 (by kernel_rfl) (by kernel_rfl) (by kernel_rfl) (by decide) (by kernel_rfl) (by kernel_rfl)
end Go.VS
