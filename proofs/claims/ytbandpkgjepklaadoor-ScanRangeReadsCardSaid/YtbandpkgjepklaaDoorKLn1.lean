/- The program has these functions. -/
import Derived.Test.YtbandpkgjepklaaDoorKGf0
import Derived.Test.YtbandpkgjepklaaDoorProg
import Derived.KernelRfl
set_option linter.unusedVariables false
set_option linter.unusedSimpArgs false
namespace Go.VS
theorem h_scan_FormatRange : Has Go.Proofs.Tryd.prog F_scan_FormatRange := has_of 23 Go.Proofs.Tryd.f23 (by kernel_rfl) (by kernel_rfl) (by kernel_rfl) (by decide) (by kernel_rfl) (by kernel_rfl)
theorem h_scan_Range : Has Go.Proofs.Tryd.prog F_scan_Range := has_of 20 Go.Proofs.Tryd.f20 (by kernel_rfl) (by kernel_rfl) (by kernel_rfl) (by decide) (by kernel_rfl) (by kernel_rfl)
theorem h_scan_plain : Has Go.Proofs.Tryd.prog F_scan_plain := has_of 32 Go.Proofs.Tryd.f32 (by kernel_rfl) (by kernel_rfl) (by kernel_rfl) (by decide) (by kernel_rfl) (by kernel_rfl)
theorem h_scan_reader_octal : Has Go.Proofs.Tryd.prog F_scan_reader_octal := has_of 47 Go.Proofs.Tryd.f47 (by kernel_rfl) (by kernel_rfl) (by kernel_rfl) (by decide) (by kernel_rfl) (by kernel_rfl)
theorem h_scan_reader_escape : Has Go.Proofs.Tryd.prog F_scan_reader_escape := has_of 41 Go.Proofs.Tryd.f41 (by kernel_rfl) (by kernel_rfl) (by kernel_rfl) (by decide) (by kernel_rfl) (by kernel_rfl)
end Go.VS
