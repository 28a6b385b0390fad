/- The program has these functions. -/
import Derived.Test.YtcaandgkdmidkaaDoorKGf0
import Derived.Test.YtcaandgkdmidkaaDoorProg
import Derived.KernelRfl
set_option linter.unusedVariables false
set_option linter.unusedSimpArgs false
namespace Go.VS
theorem Pb {kp : Value → Prop} : Has ⟨Go.Proofs.Tryd.prog, kp⟩ Gg := DG 15 Go.Proofs.Tryd.f15 (by kernel_rfl) (by kernel_rfl) (by kernel_rfl) (by decide) (by kernel_rfl) (by kernel_rfl)
theorem Uy {kp : Value → Prop} : Has ⟨Go.Proofs.Tryd.prog, kp⟩ TQ := DG 18 Go.Proofs.Tryd.f18 (by kernel_rfl) (by kernel_rfl) (by kernel_rfl) (by decide) (by kernel_rfl) (by kernel_rfl)
theorem KD {kp : Value → Prop} : Has ⟨Go.Proofs.Tryd.prog, kp⟩ Dr := DG 37 Go.Proofs.Tryd.f37 (by kernel_rfl) (by kernel_rfl) (by kernel_rfl) (by decide) (by kernel_rfl) (by kernel_rfl)
theorem LN {kp : Value → Prop} : Has ⟨Go.Proofs.Tryd.prog, kp⟩ DJ := DG 65 Go.Proofs.Tryd.f65 (by kernel_rfl) (by kernel_rfl) (by kernel_rfl) (by decide) (by kernel_rfl) (by kernel_rfl)
theorem NO {kp : Value → Prop} : Has ⟨Go.Proofs.Tryd.prog, kp⟩ Fg := DG 38 Go.Proofs.Tryd.f38 (by kernel_rfl) (by kernel_rfl) (by kernel_rfl) (by decide) (by kernel_rfl) (by kernel_rfl)
theorem NN {kp : Value → Prop} : Has ⟨Go.Proofs.Tryd.prog, kp⟩ Ff := DG 13 Go.Proofs.Tryd.f13 (by kernel_rfl) (by kernel_rfl) (by kernel_rfl) (by decide) (by kernel_rfl) (by kernel_rfl)
theorem KA {kp : Value → Prop} : Has ⟨Go.Proofs.Tryd.prog, kp⟩ Dp := DG 39 Go.Proofs.Tryd.f39 (by kernel_rfl) (by kernel_rfl) (by kernel_rfl) (by decide) (by kernel_rfl) (by kernel_rfl)
end Go.VS
