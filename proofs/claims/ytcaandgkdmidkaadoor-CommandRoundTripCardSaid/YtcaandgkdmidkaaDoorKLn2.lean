/- The program has these functions. -/
import Derived.Test.YtcaandgkdmidkaaDoorKGf0
import Derived.Test.YtcaandgkdmidkaaDoorProg
import Derived.KernelRfl
set_option linter.unusedVariables false
set_option linter.unusedSimpArgs false
namespace Go.VS
theorem Lp {kp : Value → Prop} : Has ⟨Go.Proofs.Tryd.prog, kp⟩ Du := BV 27 Go.Proofs.Tryd.f27 (by kernel_rfl) (by kernel_rfl) (by kernel_rfl) (by decide) (by kernel_rfl) (by kernel_rfl)
theorem OG {kp : Value → Prop} : Has ⟨Go.Proofs.Tryd.prog, kp⟩ ES := BV 52 Go.Proofs.Tryd.f52 (by kernel_rfl) (by kernel_rfl) (by kernel_rfl) (by decide) (by kernel_rfl) (by kernel_rfl)
theorem Yx {kp : Value → Prop} : Has ⟨Go.Proofs.Tryd.prog, kp⟩ Yp := BV 28 Go.Proofs.Tryd.f28 (by kernel_rfl) (by kernel_rfl) (by kernel_rfl) (by decide) (by kernel_rfl) (by kernel_rfl)
theorem OE {kp : Value → Prop} : Has ⟨Go.Proofs.Tryd.prog, kp⟩ ER := BV 24 Go.Proofs.Tryd.f24 (by kernel_rfl) (by kernel_rfl) (by kernel_rfl) (by decide) (by kernel_rfl) (by kernel_rfl)
theorem Ni {kp : Value → Prop} : Has ⟨Go.Proofs.Tryd.prog, kp⟩ Ek := BV 23 Go.Proofs.Tryd.f23 (by kernel_rfl) (by kernel_rfl) (by kernel_rfl) (by decide) (by kernel_rfl) (by kernel_rfl)
theorem Yr {kp : Value → Prop} : Has ⟨Go.Proofs.Tryd.prog, kp⟩ Yl := BV 8 Go.Proofs.Tryd.f8 (by kernel_rfl) (by kernel_rfl) (by kernel_rfl) (by decide) (by kernel_rfl) (by kernel_rfl)
end Go.VS
