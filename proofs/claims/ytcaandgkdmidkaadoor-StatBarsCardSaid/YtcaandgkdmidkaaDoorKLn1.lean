/- The program has these functions. -/
import Derived.Test.YtcaandgkdmidkaaDoorKGf0
import Derived.Test.YtcaandgkdmidkaaDoorProg
import Derived.KernelRfl
set_option linter.unusedVariables false
set_option linter.unusedSimpArgs false
namespace Go.VS
theorem NN {kp : Value → Prop} : Has ⟨Go.Proofs.Tryd.prog, kp⟩ Ff := DG 13 Go.Proofs.Tryd.f13 (by kernel_rfl) (by kernel_rfl) (by kernel_rfl) (by decide) (by kernel_rfl) (by kernel_rfl)
theorem KA {kp : Value → Prop} : Has ⟨Go.Proofs.Tryd.prog, kp⟩ Dp := DG 39 Go.Proofs.Tryd.f39 (by kernel_rfl) (by kernel_rfl) (by kernel_rfl) (by decide) (by kernel_rfl) (by kernel_rfl)
theorem ME {kp : Value → Prop} : Has ⟨Go.Proofs.Tryd.prog, kp⟩ Ey := DG 14 Go.Proofs.Tryd.f14 (by kernel_rfl) (by kernel_rfl) (by kernel_rfl) (by decide) (by kernel_rfl) (by kernel_rfl)
theorem JF {kp : Value → Prop} : Has ⟨Go.Proofs.Tryd.prog, kp⟩ CP := DG 69 Go.Proofs.Tryd.f69 (by kernel_rfl) (by kernel_rfl) (by kernel_rfl) (by decide) (by kernel_rfl) (by kernel_rfl)
end Go.VS
