/- The program has these functions. -/
import Derived.Test.YtcaandgkdmidkaaDoorKGf0
import Derived.Test.YtcaandgkdmidkaaDoorProg
import Derived.KernelRfl
set_option linter.unusedVariables false
set_option linter.unusedSimpArgs false
namespace Go.VS
theorem T7 {kp : Value → Prop} : Has ⟨Go.Proofs.Tryd.prog, kp⟩ TD := DG 21 Go.Proofs.Tryd.f21 (by kernel_rfl) (by kernel_rfl) (by kernel_rfl) (by decide) (by kernel_rfl) (by kernel_rfl)
theorem Un {kp : Value → Prop} : Has ⟨Go.Proofs.Tryd.prog, kp⟩ TH := DG 17 Go.Proofs.Tryd.f17 (by kernel_rfl) (by kernel_rfl) (by kernel_rfl) (by decide) (by kernel_rfl) (by kernel_rfl)
theorem T6 {kp : Value → Prop} : Has ⟨Go.Proofs.Tryd.prog, kp⟩ TA := DG 22 Go.Proofs.Tryd.f22 (by kernel_rfl) (by kernel_rfl) (by kernel_rfl) (by decide) (by kernel_rfl) (by kernel_rfl)
theorem TU {kp : Value → Prop} : Has ⟨Go.Proofs.Tryd.prog, kp⟩ Tw := DG 6 Go.Proofs.Tryd.f6 (by kernel_rfl) (by kernel_rfl) (by kernel_rfl) (by decide) (by kernel_rfl) (by kernel_rfl)
end Go.VS
