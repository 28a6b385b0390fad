/- The program has these functions. -/
import Derived.Test.YtcaandgkdmidkaaDoorKGf0
import Derived.Test.YtcaandgkdmidkaaDoorProg
import Derived.KernelRfl
set_option linter.unusedVariables false
set_option linter.unusedSimpArgs false
namespace Go.VS
theorem Kz {kp : Value → Prop} : Has ⟨Go.Proofs.Tryd.prog, kp⟩ Dn := DG 16 Go.Proofs.Tryd.f16 (by kernel_rfl) (by kernel_rfl) (by kernel_rfl) (by decide) (by kernel_rfl) (by kernel_rfl)
theorem Tn {kp : Value → Prop} : Has ⟨Go.Proofs.Tryd.prog, kp⟩ Ti := DG 5 Go.Proofs.Tryd.f5 (by kernel_rfl) (by kernel_rfl) (by kernel_rfl) (by decide) (by kernel_rfl) (by kernel_rfl)
end Go.VS
