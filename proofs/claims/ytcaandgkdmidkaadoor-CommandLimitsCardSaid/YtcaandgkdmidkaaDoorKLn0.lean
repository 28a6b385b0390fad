/- The program has these functions. -/
import Derived.Test.YtcaandgkdmidkaaDoorKGf0
import Derived.Test.YtcaandgkdmidkaaDoorProg
import Derived.KernelRfl
set_option linter.unusedVariables false
set_option linter.unusedSimpArgs false
namespace Go.VS
theorem OJ {kp : Value → Prop} : Has ⟨Go.Proofs.Tryd.prog, kp⟩ EV := BV 95 Go.Proofs.Tryd.f95 (by kernel_rfl) (by kernel_rfl) (by kernel_rfl) (by decide) (by kernel_rfl) (by kernel_rfl)
theorem Nn {kp : Value → Prop} : Has ⟨Go.Proofs.Tryd.prog, kp⟩ Eo := BV 76 Go.Proofs.Tryd.f76 (by kernel_rfl) (by kernel_rfl) (by kernel_rfl) (by decide) (by kernel_rfl) (by kernel_rfl)
theorem Mp {kp : Value → Prop} : Has ⟨Go.Proofs.Tryd.prog, kp⟩ DJ := BV 69 Go.Proofs.Tryd.f69 (by kernel_rfl) (by kernel_rfl) (by kernel_rfl) (by decide) (by kernel_rfl) (by kernel_rfl)
theorem OK {kp : Value → Prop} : Has ⟨Go.Proofs.Tryd.prog, kp⟩ EW := BV 67 Go.Proofs.Tryd.f67 (by kernel_rfl) (by kernel_rfl) (by kernel_rfl) (by decide) (by kernel_rfl) (by kernel_rfl)
theorem Aa0 {kp : Value → Prop} : Has ⟨Go.Proofs.Tryd.prog, kp⟩ Zq := BV 100 Go.Proofs.Tryd.f100 (by kernel_rfl) (by kernel_rfl) (by kernel_rfl) (by decide) (by kernel_rfl) (by kernel_rfl)
theorem AaZ {kp : Value → Prop} : Has ⟨Go.Proofs.Tryd.prog, kp⟩ Zp := BV 82 Go.Proofs.Tryd.f82 (by kernel_rfl) (by kernel_rfl) (by kernel_rfl) (by decide) (by kernel_rfl) (by kernel_rfl)
end Go.VS
