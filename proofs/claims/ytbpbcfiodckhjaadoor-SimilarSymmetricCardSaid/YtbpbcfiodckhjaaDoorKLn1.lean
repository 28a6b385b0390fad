/- The program has these functions. -/
import Derived.Test.YtbpbcfiodckhjaaDoorKGf0
import Derived.Test.YtbpbcfiodckhjaaDoorProg
import Derived.KernelRfl
set_option linter.unusedVariables false
set_option linter.unusedSimpArgs false
namespace Go.VS
theorem MO {kp : Value → Prop} : Has ⟨Go.Proofs.Tryd.prog, kp⟩ Ev := Dc 78 Go.Proofs.Tryd.f78 (by kernel_rfl) (by kernel_rfl) (by kernel_rfl) (by decide) (by kernel_rfl) (by kernel_rfl)
theorem MN {kp : Value → Prop} : Has ⟨Go.Proofs.Tryd.prog, kp⟩ Eu := Dc 53 Go.Proofs.Tryd.f53 (by kernel_rfl) (by kernel_rfl) (by kernel_rfl) (by decide) (by kernel_rfl) (by kernel_rfl)
theorem XY {kp : Value → Prop} : Has ⟨Go.Proofs.Tryd.prog, kp⟩ W0 := Dc 43 Go.Proofs.Tryd.f43 (by kernel_rfl) (by kernel_rfl) (by kernel_rfl) (by decide) (by kernel_rfl) (by kernel_rfl)
theorem Yc {kp : Value → Prop} : Has ⟨Go.Proofs.Tryd.prog, kp⟩ Xe := Dc 15 Go.Proofs.Tryd.f15 (by kernel_rfl) (by kernel_rfl) (by kernel_rfl) (by decide) (by kernel_rfl) (by kernel_rfl)
end Go.VS
