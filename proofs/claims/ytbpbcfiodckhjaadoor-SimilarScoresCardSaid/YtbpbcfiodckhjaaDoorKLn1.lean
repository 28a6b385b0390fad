/- The program has these functions. -/
import Derived.Test.YtbpbcfiodckhjaaDoorKGf0
import Derived.Test.YtbpbcfiodckhjaaDoorProg
import Derived.KernelRfl
set_option linter.unusedVariables false
set_option linter.unusedSimpArgs false
namespace Go.VS
theorem MN {kp : Value → Prop} : Has ⟨Go.Proofs.Tryd.prog, kp⟩ Eu := Dc 53 Go.Proofs.Tryd.f53 (by kernel_rfl) (by kernel_rfl) (by kernel_rfl) (by decide) (by kernel_rfl) (by kernel_rfl)
theorem XY {kp : Value → Prop} : Has ⟨Go.Proofs.Tryd.prog, kp⟩ W0 := Dc 43 Go.Proofs.Tryd.f43 (by kernel_rfl) (by kernel_rfl) (by kernel_rfl) (by decide) (by kernel_rfl) (by kernel_rfl)
theorem VY {kp : Value → Prop} : Has ⟨Go.Proofs.Tryd.prog, kp⟩ Vi := Dc 55 Go.Proofs.Tryd.f55 (by kernel_rfl) (by kernel_rfl) (by kernel_rfl) (by decide) (by kernel_rfl) (by kernel_rfl)
theorem XQ {kp : Value → Prop} : Has ⟨Go.Proofs.Tryd.prog, kp⟩ WX := Dc 45 Go.Proofs.Tryd.f45 (by kernel_rfl) (by kernel_rfl) (by kernel_rfl) (by decide) (by kernel_rfl) (by kernel_rfl)
theorem XX {kp : Value → Prop} : Has ⟨Go.Proofs.Tryd.prog, kp⟩ WZ := Dc 46 Go.Proofs.Tryd.f46 (by kernel_rfl) (by kernel_rfl) (by kernel_rfl) (by decide) (by kernel_rfl) (by kernel_rfl)
end Go.VS
