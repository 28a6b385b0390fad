/- The program has these functions. -/
import Derived.Test.YtcaandgkdmidkaaDoorKGf0
import Derived.Test.YtcaandgkdmidkaaDoorProg
import Derived.KernelRfl
set_option linter.unusedVariables false
set_option linter.unusedSimpArgs false
namespace Go.VS
theorem Kz {kp : Value → Prop} : Has ⟨Go.Proofs.Tryd.prog, kp⟩ Dn := DG 16 Go.Proofs.Tryd.f16 (by kernel_rfl) (by kernel_rfl) (by kernel_rfl) (by decide) (by kernel_rfl) (by kernel_rfl)
theorem Un {kp : Value → Prop} : Has ⟨Go.Proofs.Tryd.prog, kp⟩ TH := DG 17 Go.Proofs.Tryd.f17 (by kernel_rfl) (by kernel_rfl) (by kernel_rfl) (by decide) (by kernel_rfl) (by kernel_rfl)
theorem VA {kp : Value → Prop} : Has ⟨Go.Proofs.Tryd.prog, kp⟩ UZ := DG 47 Go.Proofs.Tryd.f47 (by kernel_rfl) (by kernel_rfl) (by kernel_rfl) (by decide) (by kernel_rfl) (by kernel_rfl)
theorem Vv {kp : Value → Prop} : Has ⟨Go.Proofs.Tryd.prog, kp⟩ UX := DG 50 Go.Proofs.Tryd.f50 (by kernel_rfl) (by kernel_rfl) (by kernel_rfl) (by decide) (by kernel_rfl) (by kernel_rfl)
theorem Vq {kp : Value → Prop} : Has ⟨Go.Proofs.Tryd.prog, kp⟩ US := DG 20 Go.Proofs.Tryd.f20 (by kernel_rfl) (by kernel_rfl) (by kernel_rfl) (by decide) (by kernel_rfl) (by kernel_rfl)
theorem Vd {kp : Value → Prop} : Has ⟨Go.Proofs.Tryd.prog, kp⟩ UP := DG 4 Go.Proofs.Tryd.f4 (by kernel_rfl) (by kernel_rfl) (by kernel_rfl) (by decide) (by kernel_rfl) (by kernel_rfl)
end Go.VS
