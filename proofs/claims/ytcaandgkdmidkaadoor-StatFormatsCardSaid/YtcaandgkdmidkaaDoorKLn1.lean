/- The program has these functions. -/
import Derived.Test.YtcaandgkdmidkaaDoorKGf0
import Derived.Test.YtcaandgkdmidkaaDoorProg
import Derived.KernelRfl
set_option linter.unusedVariables false
set_option linter.unusedSimpArgs false
namespace Go.VS
theorem ME {kp : Value → Prop} : Has ⟨Go.Proofs.Tryd.prog, kp⟩ Ey := DG 14 Go.Proofs.Tryd.f14 (by kernel_rfl) (by kernel_rfl) (by kernel_rfl) (by decide) (by kernel_rfl) (by kernel_rfl)
theorem JF {kp : Value → Prop} : Has ⟨Go.Proofs.Tryd.prog, kp⟩ CP := DG 69 Go.Proofs.Tryd.f69 (by kernel_rfl) (by kernel_rfl) (by kernel_rfl) (by decide) (by kernel_rfl) (by kernel_rfl)
theorem KC {kp : Value → Prop} : Has ⟨Go.Proofs.Tryd.prog, kp⟩ Dq := DG 43 Go.Proofs.Tryd.f43 (by kernel_rfl) (by kernel_rfl) (by kernel_rfl) (by decide) (by kernel_rfl) (by kernel_rfl)
theorem Vp {kp : Value → Prop} : Has ⟨Go.Proofs.Tryd.prog, kp⟩ UR := DG 49 Go.Proofs.Tryd.f49 (by kernel_rfl) (by kernel_rfl) (by kernel_rfl) (by decide) (by kernel_rfl) (by kernel_rfl)
theorem Vt {kp : Value → Prop} : Has ⟨Go.Proofs.Tryd.prog, kp⟩ UU := DG 74 Go.Proofs.Tryd.f74 (by kernel_rfl) (by kernel_rfl) (by kernel_rfl) (by decide) (by kernel_rfl) (by kernel_rfl)
theorem Vu {kp : Value → Prop} : Has ⟨Go.Proofs.Tryd.prog, kp⟩ UW := DG 48 Go.Proofs.Tryd.f48 (by kernel_rfl) (by kernel_rfl) (by kernel_rfl) (by decide) (by kernel_rfl) (by kernel_rfl)
theorem KE {kp : Value → Prop} : Has ⟨Go.Proofs.Tryd.prog, kp⟩ Ds := DG 40 Go.Proofs.Tryd.f40 (by kernel_rfl) (by kernel_rfl) (by kernel_rfl) (by decide) (by kernel_rfl) (by kernel_rfl)
end Go.VS
