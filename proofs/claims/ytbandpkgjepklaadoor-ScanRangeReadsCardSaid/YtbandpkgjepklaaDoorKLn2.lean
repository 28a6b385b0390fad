/- The program has these functions. -/
import Derived.Test.YtbandpkgjepklaaDoorKGf0
import Derived.Test.YtbandpkgjepklaaDoorProg
import Derived.KernelRfl
set_option linter.unusedVariables false
set_option linter.unusedSimpArgs false
namespace Go.VS
theorem h_scan_reader_quoted : Has Go.Proofs.Tryd.prog F_scan_reader_quoted := has_of 38 Go.Proofs.Tryd.f38 (by kernel_rfl) (by kernel_rfl) (by kernel_rfl) (by decide) (by kernel_rfl) (by kernel_rfl)
theorem h_scan_reader_word : Has Go.Proofs.Tryd.prog F_scan_reader_word := has_of 29 Go.Proofs.Tryd.f29 (by kernel_rfl) (by kernel_rfl) (by kernel_rfl) (by decide) (by kernel_rfl) (by kernel_rfl)
theorem h_scan_Unquote : Has Go.Proofs.Tryd.prog F_scan_Unquote := has_of 16 Go.Proofs.Tryd.f16 (by kernel_rfl) (by kernel_rfl) (by kernel_rfl) (by decide) (by kernel_rfl) (by kernel_rfl)
theorem h_law01_awake : Has Go.Proofs.Tryd.prog F_law01_awake := has_of 10 Go.Proofs.Tryd.f10 (by kernel_rfl) (by kernel_rfl) (by kernel_rfl) (by decide) (by kernel_rfl) (by kernel_rfl)
theorem h_law01_ScanRangeReads : Has Go.Proofs.Tryd.prog F_law01_ScanRangeReads := has_of 8 Go.Proofs.Tryd.f8 (by kernel_rfl) (by kernel_rfl) (by kernel_rfl) (by decide) (by kernel_rfl) (by kernel_rfl)
end Go.VS
