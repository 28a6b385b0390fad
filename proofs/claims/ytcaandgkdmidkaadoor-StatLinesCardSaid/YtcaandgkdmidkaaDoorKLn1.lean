/- The program has these functions. -/
import Derived.Test.YtcaandgkdmidkaaDoorKGf0
import Derived.Test.YtcaandgkdmidkaaDoorProg
import Derived.KernelRfl
set_option linter.unusedVariables false
set_option linter.unusedSimpArgs false
namespace Go.VS
theorem NN {kp : Value → Prop} : Has ⟨Go.Proofs.Tryd.prog, kp⟩ Ff := DG 13 Go.Proofs.Tryd.f13 (by kernel_rfl) (by kernel_rfl) (by kernel_rfl) (by decide) (by kernel_rfl) (by kernel_rfl)
theorem JF {kp : Value → Prop} : Has ⟨Go.Proofs.Tryd.prog, kp⟩ CP := DG 69 Go.Proofs.Tryd.f69 (by kernel_rfl) (by kernel_rfl) (by kernel_rfl) (by decide) (by kernel_rfl) (by kernel_rfl)
theorem KC {kp : Value → Prop} : Has ⟨Go.Proofs.Tryd.prog, kp⟩ Dq := DG 43 Go.Proofs.Tryd.f43 (by kernel_rfl) (by kernel_rfl) (by kernel_rfl) (by decide) (by kernel_rfl) (by kernel_rfl)
theorem KE {kp : Value → Prop} : Has ⟨Go.Proofs.Tryd.prog, kp⟩ Ds := DG 40 Go.Proofs.Tryd.f40 (by kernel_rfl) (by kernel_rfl) (by kernel_rfl) (by decide) (by kernel_rfl) (by kernel_rfl)
theorem Kz {kp : Value → Prop} : Has ⟨Go.Proofs.Tryd.prog, kp⟩ Dn := DG 16 Go.Proofs.Tryd.f16 (by kernel_rfl) (by kernel_rfl) (by kernel_rfl) (by decide) (by kernel_rfl) (by kernel_rfl)
end Go.VS
