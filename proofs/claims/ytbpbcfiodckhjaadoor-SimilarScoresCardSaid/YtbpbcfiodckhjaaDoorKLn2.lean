/- The program has these functions. -/
import Derived.Test.YtbpbcfiodckhjaaDoorKGf0
import Derived.Test.YtbpbcfiodckhjaaDoorProg
import Derived.KernelRfl
set_option linter.unusedVariables false
set_option linter.unusedSimpArgs false
namespace Go.VS
theorem XR {kp : Value → Prop} : Has ⟨Go.Proofs.Tryd.prog, kp⟩ WY := Dc 18 Go.Proofs.Tryd.f18 (by kernel_rfl) (by kernel_rfl) (by kernel_rfl) (by decide) (by kernel_rfl) (by kernel_rfl)
theorem Yc {kp : Value → Prop} : Has ⟨Go.Proofs.Tryd.prog, kp⟩ Xe := Dc 15 Go.Proofs.Tryd.f15 (by kernel_rfl) (by kernel_rfl) (by kernel_rfl) (by decide) (by kernel_rfl) (by kernel_rfl)
theorem Yd {kp : Value → Prop} : Has ⟨Go.Proofs.Tryd.prog, kp⟩ Xf := Dc 16 Go.Proofs.Tryd.f16 (by kernel_rfl) (by kernel_rfl) (by kernel_rfl) (by decide) (by kernel_rfl) (by kernel_rfl)
theorem XP {kp : Value → Prop} : Has ⟨Go.Proofs.Tryd.prog, kp⟩ WW := Dc 14 Go.Proofs.Tryd.f14 (by kernel_rfl) (by kernel_rfl) (by kernel_rfl) (by decide) (by kernel_rfl) (by kernel_rfl)
theorem Xk {kp : Value → Prop} : Has ⟨Go.Proofs.Tryd.prog, kp⟩ WM := Dc 3 Go.Proofs.Tryd.f3 (by kernel_rfl) (by kernel_rfl) (by kernel_rfl) (by decide) (by kernel_rfl) (by kernel_rfl)
end Go.VS
