/- The program has these functions. -/
import Derived.Test.YtbandpkgjepklaaDoorKGf0
import Derived.Test.YtbandpkgjepklaaDoorProg
import Derived.KernelRfl
set_option linter.unusedVariables false
set_option linter.unusedSimpArgs false
namespace Go.VS
theorem h_scan_Words : Has Go.Proofs.Tryd.prog F_scan_Words := has_of 24 Go.Proofs.Tryd.f24 (by kernel_rfl) (by kernel_rfl) (by kernel_rfl) (by decide) (by kernel_rfl) (by kernel_rfl)
theorem h_ref01_octal : Has Go.Proofs.Tryd.prog F_ref01_octal := has_of 31 Go.Proofs.Tryd.f31 (by kernel_rfl) (by kernel_rfl) (by kernel_rfl) (by decide) (by kernel_rfl) (by kernel_rfl)
theorem h_ref01_Unquote : Has Go.Proofs.Tryd.prog F_ref01_Unquote := has_of 17 Go.Proofs.Tryd.f17 (by kernel_rfl) (by kernel_rfl) (by kernel_rfl) (by decide) (by kernel_rfl) (by kernel_rfl)
theorem h_ref01_Words : Has Go.Proofs.Tryd.prog F_ref01_Words := has_of 25 Go.Proofs.Tryd.f25 (by kernel_rfl) (by kernel_rfl) (by kernel_rfl) (by decide) (by kernel_rfl) (by kernel_rfl)
theorem h_law01_awake : Has Go.Proofs.Tryd.prog F_law01_awake := has_of 10 Go.Proofs.Tryd.f10 (by kernel_rfl) (by kernel_rfl) (by kernel_rfl) (by decide) (by kernel_rfl) (by kernel_rfl)
theorem h_gen_Strings : Has Go.Proofs.Tryd.prog F_gen_Strings := has_of 26 Go.Proofs.Tryd.f26 (by kernel_rfl) (by kernel_rfl) (by kernel_rfl) (by decide) (by kernel_rfl) (by kernel_rfl)
theorem h_law01_ScanWords : Has Go.Proofs.Tryd.prog F_law01_ScanWords := has_of 9 Go.Proofs.Tryd.f9 (by kernel_rfl) (by kernel_rfl) (by kernel_rfl) (by decide) (by kernel_rfl) (by kernel_rfl)
end Go.VS
