/- The program has these functions. -/
import Derived.Test.YtbpbcfiodckhjaaDoorKGf0
import Derived.Test.YtbpbcfiodckhjaaDoorProg
import Derived.KernelRfl
set_option linter.unusedVariables false
set_option linter.unusedSimpArgs false
namespace Go.VS
theorem Qy {kp : Value → Prop} : Has ⟨Go.Proofs.Tryd.prog, kp⟩ F8 := BH 56 Go.Proofs.Tryd.f56 (by kernel_rfl) (by kernel_rfl) (by kernel_rfl) (by decide) (by kernel_rfl) (by kernel_rfl)
theorem NO {kp : Value → Prop} : Has ⟨Go.Proofs.Tryd.prog, kp⟩ EA := BH 19 Go.Proofs.Tryd.f19 (by kernel_rfl) (by kernel_rfl) (by kernel_rfl) (by decide) (by kernel_rfl) (by kernel_rfl)
theorem Zg {kp : Value → Prop} : Has ⟨Go.Proofs.Tryd.prog, kp⟩ Za := BH 8 Go.Proofs.Tryd.f8 (by kernel_rfl) (by kernel_rfl) (by kernel_rfl) (by decide) (by kernel_rfl) (by kernel_rfl)
end Go.VS
