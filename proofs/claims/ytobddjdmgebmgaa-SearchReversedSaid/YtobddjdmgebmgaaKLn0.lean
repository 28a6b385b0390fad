/- The program has these functions. -/
import Derived.Test.YtobddjdmgebmgaaKGf0
import Derived.Test.YtobddjdmgebmgaaKGf1
import Derived.Test.YtobddjdmgebmgaaProg
import Derived.KernelRfl
set_option linter.unusedVariables false
set_option linter.unusedSimpArgs false
set_option linter.unusedSectionVars false
namespace Go.VS

theorem h_gen_Mod : Has Go.Proofs.Try.prog F_gen_Mod := has_of 20 Go.Proofs.Try.f20 (by kernel_rfl) (by kernel_rfl) (by kernel_rfl) (by decide) (by kernel_rfl) (by kernel_rfl)
theorem h_gen_At : Has Go.Proofs.Try.prog F_gen_At := has_of 32 Go.Proofs.Try.f32 (by kernel_rfl) (by kernel_rfl) (by kernel_rfl) (by decide) (by kernel_rfl) (by kernel_rfl)
theorem h_ref04_Put : Has Go.Proofs.Try.prog F_ref04_Put := has_of 45 Go.Proofs.Try.f45 (by kernel_rfl) (by kernel_rfl) (by kernel_rfl) (by decide) (by kernel_rfl) (by kernel_rfl)
theorem h_automaton_Check_1 : Has Go.Proofs.Try.prog F_automaton_Check_1 := has_of 62 Go.Proofs.Try.f62 (by kernel_rfl) (by kernel_rfl) (by kernel_rfl) (by decide) (by kernel_rfl) (by kernel_rfl)
theorem h_automaton_Check : Has Go.Proofs.Try.prog F_automaton_Check := has_of 39 Go.Proofs.Try.f39 (by kernel_rfl) (by kernel_rfl) (by kernel_rfl) (by decide) (by kernel_rfl) (by kernel_rfl)
theorem h_automaton_Steps : Has Go.Proofs.Try.prog F_automaton_Steps := has_of 63 Go.Proofs.Try.f63 (by kernel_rfl) (by kernel_rfl) (by kernel_rfl) (by decide) (by kernel_rfl) (by kernel_rfl)
theorem h_search_machine_add : Has Go.Proofs.Try.prog F_search_machine_add := has_of 50 Go.Proofs.Try.f50 (by kernel_rfl) (by kernel_rfl) (by kernel_rfl) (by decide) (by kernel_rfl) (by kernel_rfl)
theorem h_search_start : Has Go.Proofs.Try.prog F_search_start := has_of 49 Go.Proofs.Try.f49 (by kernel_rfl) (by kernel_rfl) (by kernel_rfl) (by decide) (by kernel_rfl) (by kernel_rfl)
theorem h_search_machine_accepted : Has Go.Proofs.Try.prog F_search_machine_accepted := has_of 52 Go.Proofs.Try.f52 (by kernel_rfl) (by kernel_rfl) (by kernel_rfl) (by decide) (by kernel_rfl) (by kernel_rfl)
theorem h_search_machine_keep : Has Go.Proofs.Try.prog F_search_machine_keep := has_of 65 Go.Proofs.Try.f65 (by kernel_rfl) (by kernel_rfl) (by kernel_rfl) (by decide) (by kernel_rfl) (by kernel_rfl)

end Go.VS
