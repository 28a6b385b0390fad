/- The program has these functions. -/
import Derived.Test.YtbandpkgjepklaaDoorKGf0
import Derived.Test.YtbandpkgjepklaaDoorProg
import Derived.KernelRfl
set_option linter.unusedVariables false
set_option linter.unusedSimpArgs false
namespace Go.VS
theorem h_ref01_Plain : Has Go.Proofs.Tryd.prog F_ref01_Plain := has_of 30 Go.Proofs.Tryd.f30 (by kernel_rfl) (by kernel_rfl) (by kernel_rfl) (by decide) (by kernel_rfl) (by kernel_rfl)
theorem h_ref01_Quote : Has Go.Proofs.Tryd.prog F_ref01_Quote := has_of 19 Go.Proofs.Tryd.f19 (by kernel_rfl) (by kernel_rfl) (by kernel_rfl) (by decide) (by kernel_rfl) (by kernel_rfl)
theorem h_scan_reader_octal : Has Go.Proofs.Tryd.prog F_scan_reader_octal := has_of 47 Go.Proofs.Tryd.f47 (by kernel_rfl) (by kernel_rfl) (by kernel_rfl) (by decide) (by kernel_rfl) (by kernel_rfl)
theorem h_scan_reader_escape : Has Go.Proofs.Tryd.prog F_scan_reader_escape := has_of 41 Go.Proofs.Tryd.f41 (by kernel_rfl) (by kernel_rfl) (by kernel_rfl) (by decide) (by kernel_rfl) (by kernel_rfl)
theorem h_scan_reader_quoted : Has Go.Proofs.Tryd.prog F_scan_reader_quoted := has_of 38 Go.Proofs.Tryd.f38 (by kernel_rfl) (by kernel_rfl) (by kernel_rfl) (by decide) (by kernel_rfl) (by kernel_rfl)
theorem h_scan_reader_word : Has Go.Proofs.Tryd.prog F_scan_reader_word := has_of 29 Go.Proofs.Tryd.f29 (by kernel_rfl) (by kernel_rfl) (by kernel_rfl) (by decide) (by kernel_rfl) (by kernel_rfl)
theorem h_scan_Unquote : Has Go.Proofs.Tryd.prog F_scan_Unquote := has_of 16 Go.Proofs.Tryd.f16 (by kernel_rfl) (by kernel_rfl) (by kernel_rfl) (by decide) (by kernel_rfl) (by kernel_rfl)
end Go.VS
