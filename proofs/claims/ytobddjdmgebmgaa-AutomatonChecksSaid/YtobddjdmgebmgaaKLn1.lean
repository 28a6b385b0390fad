/- The program has these functions. -/
import Derived.Test.YtobddjdmgebmgaaKGf0
import Derived.Test.YtobddjdmgebmgaaKGf1
import Derived.Test.YtobddjdmgebmgaaProg
import Derived.KernelRfl
set_option linter.unusedVariables false
set_option linter.unusedSimpArgs false
set_option linter.unusedSectionVars false
namespace Go.VS

theorem h_regex_fits : Has Go.Proofs.Try.prog F_regex_fits := has_of 76 Go.Proofs.Try.f76 (by kernel_rfl) (by kernel_rfl) (by kernel_rfl) (by decide) (by kernel_rfl) (by kernel_rfl)
theorem h_regex_Check : Has Go.Proofs.Try.prog F_regex_Check := has_of 70 Go.Proofs.Try.f70 (by kernel_rfl) (by kernel_rfl) (by kernel_rfl) (by decide) (by kernel_rfl) (by kernel_rfl)
theorem h_regex_weight : Has Go.Proofs.Try.prog F_regex_weight := has_of 71 Go.Proofs.Try.f71 (by kernel_rfl) (by kernel_rfl) (by kernel_rfl) (by decide) (by kernel_rfl) (by kernel_rfl)
theorem h_regex_Weights : Has Go.Proofs.Try.prog F_regex_Weights := has_of 58 Go.Proofs.Try.f58 (by kernel_rfl) (by kernel_rfl) (by kernel_rfl) (by decide) (by kernel_rfl) (by kernel_rfl)
theorem h_regex_Weight : Has Go.Proofs.Try.prog F_regex_Weight := has_of 57 Go.Proofs.Try.f57 (by kernel_rfl) (by kernel_rfl) (by kernel_rfl) (by decide) (by kernel_rfl) (by kernel_rfl)
theorem h_automaton_builder_add : Has Go.Proofs.Try.prog F_automaton_builder_add := has_of 59 Go.Proofs.Try.f59 (by kernel_rfl) (by kernel_rfl) (by kernel_rfl) (by decide) (by kernel_rfl) (by kernel_rfl)
theorem h_automaton_builder_choice : Has Go.Proofs.Try.prog F_automaton_builder_choice := has_of 72 Go.Proofs.Try.f72 (by kernel_rfl) (by kernel_rfl) (by kernel_rfl) (by decide) (by kernel_rfl) (by kernel_rfl)
theorem h_automaton_builder_repeat : Has Go.Proofs.Try.prog F_automaton_builder_repeat := has_of 73 Go.Proofs.Try.f73 (by kernel_rfl) (by kernel_rfl) (by kernel_rfl) (by decide) (by kernel_rfl) (by kernel_rfl)
theorem h_automaton_builder_build : Has Go.Proofs.Try.prog F_automaton_builder_build := has_of 60 Go.Proofs.Try.f60 (by kernel_rfl) (by kernel_rfl) (by kernel_rfl) (by decide) (by kernel_rfl) (by kernel_rfl)
theorem h_automaton_Build : Has Go.Proofs.Try.prog F_automaton_Build := has_of 34 Go.Proofs.Try.f34 (by kernel_rfl) (by kernel_rfl) (by kernel_rfl) (by decide) (by kernel_rfl) (by kernel_rfl)

end Go.VS
