/- The program has these functions. -/
import Derived.Test.YtobddjdmgebmgaaKGf0
import Derived.Test.YtobddjdmgebmgaaKGf1
import Derived.Test.YtobddjdmgebmgaaKGf2
import Derived.Test.YtobddjdmgebmgaaProg
import Derived.KernelRfl
set_option linter.unusedVariables false
set_option linter.unusedSimpArgs false
namespace Go.VS
theorem h_ref04_capped : Has Go.Proofs.Try.prog F_ref04_capped := has_of 56 Go.Proofs.Try.f56 (by kernel_rfl) (by kernel_rfl) (by kernel_rfl) (by decide) (by kernel_rfl) (by kernel_rfl)
theorem h_ref04_Weight : Has Go.Proofs.Try.prog F_ref04_Weight := has_of 33 Go.Proofs.Try.f33 (by kernel_rfl) (by kernel_rfl) (by kernel_rfl) (by decide) (by kernel_rfl) (by kernel_rfl)
theorem h_automaton_builder_add : Has Go.Proofs.Try.prog F_automaton_builder_add := has_of 59 Go.Proofs.Try.f59 (by kernel_rfl) (by kernel_rfl) (by kernel_rfl) (by decide) (by kernel_rfl) (by kernel_rfl)
theorem h_automaton_builder_choice : Has Go.Proofs.Try.prog F_automaton_builder_choice := has_of 72 Go.Proofs.Try.f72 (by kernel_rfl) (by kernel_rfl) (by kernel_rfl) (by decide) (by kernel_rfl) (by kernel_rfl)
theorem h_automaton_builder_repeat : Has Go.Proofs.Try.prog F_automaton_builder_repeat := has_of 73 Go.Proofs.Try.f73 (by kernel_rfl) (by kernel_rfl) (by kernel_rfl) (by decide) (by kernel_rfl) (by kernel_rfl)
theorem h_automaton_builder_build : Has Go.Proofs.Try.prog F_automaton_builder_build := has_of 60 Go.Proofs.Try.f60 (by kernel_rfl) (by kernel_rfl) (by kernel_rfl) (by decide) (by kernel_rfl) (by kernel_rfl)
theorem h_automaton_Build : Has Go.Proofs.Try.prog F_automaton_Build := has_of 34 Go.Proofs.Try.f34 (by kernel_rfl) (by kernel_rfl) (by kernel_rfl) (by decide) (by kernel_rfl) (by kernel_rfl)
theorem h_ref05_empty : Has Go.Proofs.Try.prog F_ref05_empty := has_of 77 Go.Proofs.Try.f77 (by kernel_rfl) (by kernel_rfl) (by kernel_rfl) (by decide) (by kernel_rfl) (by kernel_rfl)
theorem h_ref05_union : Has Go.Proofs.Try.prog F_ref05_union := has_of 79 Go.Proofs.Try.f79 (by kernel_rfl) (by kernel_rfl) (by kernel_rfl) (by decide) (by kernel_rfl) (by kernel_rfl)
theorem h_ref05_compose : Has Go.Proofs.Try.prog F_ref05_compose := has_of 78 Go.Proofs.Try.f78 (by kernel_rfl) (by kernel_rfl) (by kernel_rfl) (by decide) (by kernel_rfl) (by kernel_rfl)
theorem h_ref05_pairs : Has Go.Proofs.Try.prog F_ref05_pairs := has_of 74 Go.Proofs.Try.f74 (by kernel_rfl) (by kernel_rfl) (by kernel_rfl) (by decide) (by kernel_rfl) (by kernel_rfl)
theorem h_ref05_Pairs : Has Go.Proofs.Try.prog F_ref05_Pairs := has_of 61 Go.Proofs.Try.f61 (by kernel_rfl) (by kernel_rfl) (by kernel_rfl) (by decide) (by kernel_rfl) (by kernel_rfl)
theorem h_law05_accepts : Has Go.Proofs.Try.prog F_law05_accepts := has_of 35 Go.Proofs.Try.f35 (by kernel_rfl) (by kernel_rfl) (by kernel_rfl) (by decide) (by kernel_rfl) (by kernel_rfl)
theorem h_ref01_Number : Has Go.Proofs.Try.prog F_ref01_Number := has_of 85 Go.Proofs.Try.f85 (by kernel_rfl) (by kernel_rfl) (by kernel_rfl) (by decide) (by kernel_rfl) (by kernel_rfl)
theorem h_ref04_letter : Has Go.Proofs.Try.prog F_ref04_letter := has_of 87 Go.Proofs.Try.f87 (by kernel_rfl) (by kernel_rfl) (by kernel_rfl) (by decide) (by kernel_rfl) (by kernel_rfl)
theorem h_ref04_digit : Has Go.Proofs.Try.prog F_ref04_digit := has_of 88 Go.Proofs.Try.f88 (by kernel_rfl) (by kernel_rfl) (by kernel_rfl) (by decide) (by kernel_rfl) (by kernel_rfl)
end Go.VS
