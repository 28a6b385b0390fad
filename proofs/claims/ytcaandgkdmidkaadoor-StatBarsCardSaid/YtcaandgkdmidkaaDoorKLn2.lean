/- The program has these functions. -/
import Derived.Test.YtcaandgkdmidkaaDoorKGf0
import Derived.Test.YtcaandgkdmidkaaDoorProg
import Derived.KernelRfl
set_option linter.unusedVariables false
set_option linter.unusedSimpArgs false
namespace Go.VS
theorem KC {kp : Value → Prop} : Has ⟨Go.Proofs.Tryd.prog, kp⟩ Dq := DG 43 Go.Proofs.Tryd.f43 (by kernel_rfl) (by kernel_rfl) (by kernel_rfl) (by decide) (by kernel_rfl) (by kernel_rfl)
theorem KE {kp : Value → Prop} : Has ⟨Go.Proofs.Tryd.prog, kp⟩ Ds := DG 40 Go.Proofs.Tryd.f40 (by kernel_rfl) (by kernel_rfl) (by kernel_rfl) (by decide) (by kernel_rfl) (by kernel_rfl)
theorem Kz {kp : Value → Prop} : Has ⟨Go.Proofs.Tryd.prog, kp⟩ Dn := DG 16 Go.Proofs.Tryd.f16 (by kernel_rfl) (by kernel_rfl) (by kernel_rfl) (by decide) (by kernel_rfl) (by kernel_rfl)
theorem Ig {kp : Value → Prop} : Has ⟨Go.Proofs.Tryd.prog, kp⟩ Cm := DG 3 Go.Proofs.Tryd.f3 (by kernel_rfl) (by kernel_rfl) (by kernel_rfl) (by decide) (by kernel_rfl) (by kernel_rfl)
end Go.VS
