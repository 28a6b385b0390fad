/- The program has these functions. -/
import Derived.Test.YtcaandgkdmidkaaDoorKGf0
import Derived.Test.YtcaandgkdmidkaaDoorProg
import Derived.KernelRfl
set_option linter.unusedVariables false
set_option linter.unusedSimpArgs false
namespace Go.VS
theorem Aa1 {kp : Value → Prop} : Has ⟨Go.Proofs.Tryd.prog, kp⟩ Zr := BV 62 Go.Proofs.Tryd.f62 (by kernel_rfl) (by kernel_rfl) (by kernel_rfl) (by decide) (by kernel_rfl) (by kernel_rfl)
theorem Ij {kp : Value → Prop} : Has ⟨Go.Proofs.Tryd.prog, kp⟩ Cj := BV 122 Go.Proofs.Tryd.f122 (by kernel_rfl) (by kernel_rfl) (by kernel_rfl) (by decide) (by kernel_rfl) (by kernel_rfl)
theorem Hw {kp : Value → Prop} : Has ⟨Go.Proofs.Tryd.prog, kp⟩ B7 := BV 109 Go.Proofs.Tryd.f109 (by kernel_rfl) (by kernel_rfl) (by kernel_rfl) (by decide) (by kernel_rfl) (by kernel_rfl)
theorem Hx {kp : Value → Prop} : Has ⟨Go.Proofs.Tryd.prog, kp⟩ B8 := BV 94 Go.Proofs.Tryd.f94 (by kernel_rfl) (by kernel_rfl) (by kernel_rfl) (by decide) (by kernel_rfl) (by kernel_rfl)
theorem IK {kp : Value → Prop} : Has ⟨Go.Proofs.Tryd.prog, kp⟩ Cu := BV 75 Go.Proofs.Tryd.f75 (by kernel_rfl) (by kernel_rfl) (by kernel_rfl) (by decide) (by kernel_rfl) (by kernel_rfl)
theorem OI {kp : Value → Prop} : Has ⟨Go.Proofs.Tryd.prog, kp⟩ EU := BV 56 Go.Proofs.Tryd.f56 (by kernel_rfl) (by kernel_rfl) (by kernel_rfl) (by decide) (by kernel_rfl) (by kernel_rfl)
end Go.VS
