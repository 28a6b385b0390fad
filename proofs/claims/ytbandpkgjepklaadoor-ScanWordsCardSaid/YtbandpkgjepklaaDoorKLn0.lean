/- The program has these functions. -/
import Derived.Test.YtbandpkgjepklaaDoorKGf0
import Derived.Test.YtbandpkgjepklaaDoorProg
import Derived.KernelRfl
set_option linter.unusedVariables false
set_option linter.unusedSimpArgs false
namespace Go.VS
theorem h_gen_Mod : Has Go.Proofs.Tryd.prog F_gen_Mod := has_of 13 Go.Proofs.Tryd.f13 (by kernel_rfl) (by kernel_rfl) (by kernel_rfl) (by decide) (by kernel_rfl) (by kernel_rfl)
theorem h_scan_escaped : Has Go.Proofs.Tryd.prog F_scan_escaped := has_of 35 Go.Proofs.Tryd.f35 (by kernel_rfl) (by kernel_rfl) (by kernel_rfl) (by decide) (by kernel_rfl) (by kernel_rfl)
theorem h_scan_Format : Has Go.Proofs.Tryd.prog F_scan_Format := has_of 14 Go.Proofs.Tryd.f14 (by kernel_rfl) (by kernel_rfl) (by kernel_rfl) (by decide) (by kernel_rfl) (by kernel_rfl)
theorem h_scan_digit : Has Go.Proofs.Tryd.prog F_scan_digit := has_of 27 Go.Proofs.Tryd.f27 (by kernel_rfl) (by kernel_rfl) (by kernel_rfl) (by decide) (by kernel_rfl) (by kernel_rfl)
theorem h_scan_Number : Has Go.Proofs.Tryd.prog F_scan_Number := has_of 11 Go.Proofs.Tryd.f11 (by kernel_rfl) (by kernel_rfl) (by kernel_rfl) (by decide) (by kernel_rfl) (by kernel_rfl)
theorem h_scan_FormatRange : Has Go.Proofs.Tryd.prog F_scan_FormatRange := has_of 23 Go.Proofs.Tryd.f23 (by kernel_rfl) (by kernel_rfl) (by kernel_rfl) (by decide) (by kernel_rfl) (by kernel_rfl)
theorem h_scan_plain : Has Go.Proofs.Tryd.prog F_scan_plain := has_of 32 Go.Proofs.Tryd.f32 (by kernel_rfl) (by kernel_rfl) (by kernel_rfl) (by decide) (by kernel_rfl) (by kernel_rfl)
end Go.VS
