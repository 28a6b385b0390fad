/- The program has these functions. -/
import Derived.Test.YtcaandgkdmidkaaDoorKGf0
import Derived.Test.YtcaandgkdmidkaaDoorProg
import Derived.KernelRfl
set_option linter.unusedVariables false
set_option linter.unusedSimpArgs false
namespace Go.VS
theorem Lq {kp : Value → Prop} : Has ⟨Go.Proofs.Tryd.prog, kp⟩ Dv := BV 53 Go.Proofs.Tryd.f53 (by kernel_rfl) (by kernel_rfl) (by kernel_rfl) (by decide) (by kernel_rfl) (by kernel_rfl)
theorem Lp {kp : Value → Prop} : Has ⟨Go.Proofs.Tryd.prog, kp⟩ Du := BV 27 Go.Proofs.Tryd.f27 (by kernel_rfl) (by kernel_rfl) (by kernel_rfl) (by decide) (by kernel_rfl) (by kernel_rfl)
theorem Ni {kp : Value → Prop} : Has ⟨Go.Proofs.Tryd.prog, kp⟩ Ek := BV 23 Go.Proofs.Tryd.f23 (by kernel_rfl) (by kernel_rfl) (by kernel_rfl) (by decide) (by kernel_rfl) (by kernel_rfl)
theorem Aav {kp : Value → Prop} : Has ⟨Go.Proofs.Tryd.prog, kp⟩ Y4 := BV 58 Go.Proofs.Tryd.f58 (by kernel_rfl) (by kernel_rfl) (by kernel_rfl) (by decide) (by kernel_rfl) (by kernel_rfl)
theorem Aaq {kp : Value → Prop} : Has ⟨Go.Proofs.Tryd.prog, kp⟩ Y3 := BV 30 Go.Proofs.Tryd.f30 (by kernel_rfl) (by kernel_rfl) (by kernel_rfl) (by decide) (by kernel_rfl) (by kernel_rfl)
theorem Ac3 {kp : Value → Prop} : Has ⟨Go.Proofs.Tryd.prog, kp⟩ AcZ := BV 11 Go.Proofs.Tryd.f11 (by kernel_rfl) (by kernel_rfl) (by kernel_rfl) (by decide) (by kernel_rfl) (by kernel_rfl)
end Go.VS
