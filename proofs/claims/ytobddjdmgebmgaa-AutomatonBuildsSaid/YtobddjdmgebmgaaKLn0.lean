/- The program has these functions. -/
import Derived.Test.YtobddjdmgebmgaaKGf0
import Derived.Test.YtobddjdmgebmgaaKGf1
import Derived.Test.YtobddjdmgebmgaaKGf2
import Derived.Test.YtobddjdmgebmgaaProg
import Derived.KernelRfl
set_option linter.unusedVariables false
set_option linter.unusedSimpArgs false
namespace Go.VS
theorem h_gen_Mod : Has Go.Proofs.Try.prog F_gen_Mod := has_of 20 Go.Proofs.Try.f20 (by kernel_rfl) (by kernel_rfl) (by kernel_rfl) (by decide) (by kernel_rfl) (by kernel_rfl)
theorem h_gen_At : Has Go.Proofs.Try.prog F_gen_At := has_of 32 Go.Proofs.Try.f32 (by kernel_rfl) (by kernel_rfl) (by kernel_rfl) (by decide) (by kernel_rfl) (by kernel_rfl)
theorem h_ref04_Put : Has Go.Proofs.Try.prog F_ref04_Put := has_of 45 Go.Proofs.Try.f45 (by kernel_rfl) (by kernel_rfl) (by kernel_rfl) (by decide) (by kernel_rfl) (by kernel_rfl)
theorem h_ref04_Has : Has Go.Proofs.Try.prog F_ref04_Has := has_of 66 Go.Proofs.Try.f66 (by kernel_rfl) (by kernel_rfl) (by kernel_rfl) (by decide) (by kernel_rfl) (by kernel_rfl)
theorem h_ref05_Check : Has Go.Proofs.Try.prog F_ref05_Check := has_of 27 Go.Proofs.Try.f27 (by kernel_rfl) (by kernel_rfl) (by kernel_rfl) (by decide) (by kernel_rfl) (by kernel_rfl)
theorem h_automaton_Check_1 : Has Go.Proofs.Try.prog F_automaton_Check_1 := has_of 62 Go.Proofs.Try.f62 (by kernel_rfl) (by kernel_rfl) (by kernel_rfl) (by decide) (by kernel_rfl) (by kernel_rfl)
theorem h_automaton_Check : Has Go.Proofs.Try.prog F_automaton_Check := has_of 39 Go.Proofs.Try.f39 (by kernel_rfl) (by kernel_rfl) (by kernel_rfl) (by decide) (by kernel_rfl) (by kernel_rfl)
theorem h_ref05_Close : Has Go.Proofs.Try.prog F_ref05_Close := has_of 64 Go.Proofs.Try.f64 (by kernel_rfl) (by kernel_rfl) (by kernel_rfl) (by decide) (by kernel_rfl) (by kernel_rfl)
theorem h_ref05_Ends : Has Go.Proofs.Try.prog F_ref05_Ends := has_of 53 Go.Proofs.Try.f53 (by kernel_rfl) (by kernel_rfl) (by kernel_rfl) (by decide) (by kernel_rfl) (by kernel_rfl)
theorem h_regex_bounded : Has Go.Proofs.Try.prog F_regex_bounded := has_of 82 Go.Proofs.Try.f82 (by kernel_rfl) (by kernel_rfl) (by kernel_rfl) (by decide) (by kernel_rfl) (by kernel_rfl)
theorem h_regex_fits : Has Go.Proofs.Try.prog F_regex_fits := has_of 76 Go.Proofs.Try.f76 (by kernel_rfl) (by kernel_rfl) (by kernel_rfl) (by decide) (by kernel_rfl) (by kernel_rfl)
theorem h_regex_Check : Has Go.Proofs.Try.prog F_regex_Check := has_of 70 Go.Proofs.Try.f70 (by kernel_rfl) (by kernel_rfl) (by kernel_rfl) (by decide) (by kernel_rfl) (by kernel_rfl)
theorem h_ref04_Check : Has Go.Proofs.Try.prog F_ref04_Check := has_of 37 Go.Proofs.Try.f37 (by kernel_rfl) (by kernel_rfl) (by kernel_rfl) (by decide) (by kernel_rfl) (by kernel_rfl)
theorem h_regex_weight : Has Go.Proofs.Try.prog F_regex_weight := has_of 71 Go.Proofs.Try.f71 (by kernel_rfl) (by kernel_rfl) (by kernel_rfl) (by decide) (by kernel_rfl) (by kernel_rfl)
theorem h_regex_Weights : Has Go.Proofs.Try.prog F_regex_Weights := has_of 58 Go.Proofs.Try.f58 (by kernel_rfl) (by kernel_rfl) (by kernel_rfl) (by decide) (by kernel_rfl) (by kernel_rfl)
theorem h_regex_Weight : Has Go.Proofs.Try.prog F_regex_Weight := has_of 57 Go.Proofs.Try.f57 (by kernel_rfl) (by kernel_rfl) (by kernel_rfl) (by decide) (by kernel_rfl) (by kernel_rfl)
end Go.VS
